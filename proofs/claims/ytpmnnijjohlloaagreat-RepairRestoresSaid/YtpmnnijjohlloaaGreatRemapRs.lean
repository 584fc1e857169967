/- A map's state. -/
import Derived.Test.YtpmnnijjohlloaaGreatRemapVr
import Derived.Test.YtpmnnijjohlloaaGreatRemapL
import Derived.Test.YtpmnnijjohlloaaGreatPxZ
namespace Go.Proofs.YtpmnnijjohlloaaGreat
open Go Go.RowKit
set_option linter.unusedVariables false
set_option linter.unusedSimpArgs false
set_option maxRecDepth 100000 in
set_option maxHeartbeats 4000000 in
theorem CloneI {g n cap : Nat} {l : List Int} (h1 : 1 ≤ n) (h8 : n ≤ 4096) (w0 : World) (hR : Ro w0 [.row (.slice (some ⟨g, 0, none⟩) n cap) 3 1 n (List.map (Value.int .i64) l)]) :
    Calls Tryz.prog 68 #[.slice (some ⟨g, 0, none⟩) n cap] w0 fun e w' => ∃ u c, e = .returned (.slice (some ⟨u, 0, none⟩) n c) ∧ Hs [] w0 w' [.row (.slice (some ⟨u, 0, none⟩) n c) 3 1 n (List.map (Value.int .i64) l)] := by
  refine z_enter Tryz.func68 rfl ?_
  have H := Hs.nil w0
  have R0 := hR
  refine x_seq <| x_region <| x_b H [.m] <| x_nil <| x_then <| x_seq <| x_seq ?_
  refine x_region <| x_b H [.m, .m] <| x_nil <| x_then <| x_f (by kernel_rfl) <| x_skipc <| x_then ?_
  refine x_seq <| x_region <| x_box' H #[] 3 0 (by kernel_rfl) rfl (by kernel_rfl) ?_
  clear H
  intro v1 g1 H
  refine x_b H [.m] ?_
  replace H := H.row0 (sz := 1) 0 rfl
  refine x_appendSrc H 0 (.slice (some ⟨g1, 0, none⟩) 0 0) 31 3 1 8 0 (.int .i64 0) (List.map (Value.int .i64) ([] : List Int)) (.slice (some ⟨g, 0, none⟩) n cap) n (List.map (Value.int .i64) l) rfl (src_row (((H.ro R0) 0 _ rfl : Go.World.ownsRow _ 0 3 1 _ _ _))) (by kernel_rfl) (by kernel_rfl) (by kernel_rfl) (by decide) (oneCellMap (fun _ => rfl) _) (by unfold maxLen; omega) (by omega) (by kernel_rfl) rfl (by kernel_rfl) ?_
  clear H
  intro v2 vr7 H
  rw [show (List.map (Value.int .i64) ([] : List Int)) ++ (List.map (Value.int .i64) l) = (List.map (Value.int .i64) l) from (by simp)] at H
  rw [show (0 + n : Nat) = n from (by simp)] at H
  rcases H.rowForm 0 rfl with ⟨rfl, h0⟩ | ⟨gz1, cz1, rfl, hcz1, -⟩
  · exfalso; omega
  refine x_b H [.m] <| x_nil <| x_then <| x_retc <| x_ret (.slice (some ⟨gz1, 0, none⟩) n cz1) (by kernel_rfl) (by kernel_rfl) ?_
  exact ⟨_, _, rfl, H.pick [0] _ (by decide) (by kernel_rfl)⟩
theorem spL_next {S : List Int} {j : Nat} (h : j < S.length) : spL (S.take (j + 1)) = spL (S.take j) ++ [max (S.getD j 0) 0] := by
  unfold spL
  rw [← List.take_append_getElem h, List.map_append]
  simp [List.getD, h]
theorem spL_tlen {S : List Int} {j : Nat} (h : j ≤ S.length) : (spL (S.take j)).length = j := by
  unfold spL
  rw [List.length_map, List.length_take]; omega
set_option maxRecDepth 100000 in
set_option maxHeartbeats 4000000 in
theorem State_of {M : List Nat} {r s b o c y z : Int} {pg sn ns : Nat} (hL : Lay r s b o c y z pg sn ns) {p gl cl gd cd gs cs : Nat} {L : List Int} {D : List Bool} {S : List Int} {pu ru : Nat} (hV : MapV r s z sn pg ns L D S pu ru) (w0 : World) (H0 : Hs M w0 w0 [.blk p #[.int .i64 r, .int .i64 s, .int .i64 b, .int .i64 o, .int .i64 c, .int .i64 y, .int .i64 z, .slice (some ⟨gl, 0, none⟩) sn cl, .slice (some ⟨gd, 0, none⟩) pg cd, .slice (some ⟨gs, 0, none⟩) ns cs, .int .i64 ((pu : Nat) : Int), .int .i64 ((ru : Nat) : Int)] 109, .row (.slice (some ⟨gl, 0, none⟩) sn cl) 3 1 sn (List.map (Value.int .i64) L), .row (.slice (some ⟨gd, 0, none⟩) pg cd) 4 1 pg (List.map Value.bool D), .row (.slice (some ⟨gs, 0, none⟩) ns cs) 3 1 ns (List.map (Value.int .i64) S)]) :
    Calls Tryz.prog 26 #[.pointer (some ⟨p, 0, none⟩)] w0 fun e w' => ∃ z3 : Value × Value × Value, e = .returned (.agg #[z3.1, z3.2.1, z3.2.2, .int .i64 ((pu : Nat) : Int), .int .i64 ((ru : Nat) : Int)]) ∧ Hs M w0 w' [.blk p #[.int .i64 r, .int .i64 s, .int .i64 b, .int .i64 o, .int .i64 c, .int .i64 y, .int .i64 z, .slice (some ⟨gl, 0, none⟩) sn cl, .slice (some ⟨gd, 0, none⟩) pg cd, .slice (some ⟨gs, 0, none⟩) ns cs, .int .i64 ((pu : Nat) : Int), .int .i64 ((ru : Nat) : Int)] 109, .row (.slice (some ⟨gl, 0, none⟩) sn cl) 3 1 sn (List.map (Value.int .i64) L), .row (.slice (some ⟨gd, 0, none⟩) pg cd) 4 1 pg (List.map Value.bool D), .row (.slice (some ⟨gs, 0, none⟩) ns cs) 3 1 ns (List.map (Value.int .i64) S), .row (z3.1) 3 1 sn (List.map (Value.int .i64) L), .row (z3.2.1) 3 1 (List.length (deadL D pg)) (List.map (Value.int .i64) (deadL D pg)), .row (z3.2.2) 3 1 (List.length (spL S)) (List.map (Value.int .i64) (spL S))] := by
  refine z_enter Tryz.func26 rfl ?_
  have H := H0
  have hpg2 := hL.pg2
  have hs1 := hL.sn1
  have hsn := hL.hsn
  have hz0 := hL.z0
  have eS := hV.m.hS
  have eD := hV.m.hD
  have eL := hV.m.hL
  have hns := hL.hns
  have hr8' := hL.r8
  have hdl := deadL_len D pg
  refine x_seq <| x_region <| z_box H #[.slice none 0 0, .slice none 0 0, .slice none 0 0, .int .i64 0, .int .i64 0] 46 (fun v1 g1 H => ?_)
  refine x_nil <| x_then <| x_seq <| z_region_s H 16 [0, 1, 2, 3, 4] <| s_b [(0, .m), (1, .m), (2, .m), (3, .l 1 7), (5, .m), (6, .m), (7, .m), (8, .l 1 10), (9, .m), (10, .m), (11, .m), (12, .l 1 11)] 4 <| s_two 4 14 rfl rfl (by kernel_rfl) rfl rfl ?_ ?_
  · skip
    clear H
    intro v2 H
    refine z_call (CloneI (by omega) (by omega) _ (H.ro1 [2])) ?_
    rintro _ v3 ⟨gv, cv, rfl, hN'⟩
    refine ⟨_, rfl, ?_⟩
    replace H := H.more hN'
    clear hN'
    refine x_nil <| x_then <| z_next H [0, 1, 2, 3, 4, 5] [1, 2, 3, 4, 5] rfl <| s_b [(13, .m)] 2 <| s_one 14 rfl (by kernel_rfl) rfl ?_
    clear H
    intro v4 H
    refine z_box H #[.slice none 0 0, .slice none 0 0, .slice none 0 0, .int .i64 0, .int .i64 0] 46 (fun v5 g2 H => ?_)
    refine x_nil <| x_then <| z_next H [1, 2, 3, 4, 5, 6] [0, 1, 2, 3, 4, 5] rfl <| s_one 15 rfl (by kernel_rfl) rfl ?_
    clear H
    intro v6 H
    refine z_store H 0 0 [.slice (some ⟨gv, 0, none⟩) sn cv, .slice none 0 0, .slice none 0 0, .int .i64 (pu : Int), .int .i64 (ru : Int)] (fun v7 H => ?_)
    refine x_nil <| x_then <| z_next H [0, 1, 2, 3, 4, 5, 6] [1, 2, 3, 4, 5, 6] rfl <| s_done (by kernel_rfl) ?_
    clear H
    intro v8 H
    refine x_then <| x_seq <| x_seq <| x_region <| x_b H [.m, .m, .m, .l 3 8, .m, .m] <| x_nil <| x_then ?_
    refine x_block ?_
    replace H := H.nilRow 3 1
    replace H := H.nilRow 3 1
    replace H := H.pk [0, 1, 5, 6, 7, 8, 3, 2, 4]
    refine x_loop (G := Nat × Value) (fun gh a w' => match gh with | (k, dv) => ∃ uf1 : Nat → Value, a = frm 58 uf1 [(0, .pointer (some ⟨p, 0, none⟩)), (2, .pointer (some ⟨g1, 0, none⟩)), (3, .pointer (some ⟨g2, 0, none⟩)), (25, .slice (some ⟨gd, 0, none⟩) pg cd), (26, .int .i64 (pg : Int)), (27, .int .i64 (k : Int))] [] ∧ Hs M w0 w' [.row (.slice none 0 0) 3 1 (List.length ([] : List Int)) (List.map (Value.int .i64) ([] : List Int)), .row (dv) 3 1 (List.length (deadL D k)) (List.map (Value.int .i64) (deadL D k)), .blk p #[.int .i64 r, .int .i64 s, .int .i64 b, .int .i64 o, .int .i64 c, .int .i64 y, .int .i64 z, .slice (some ⟨gl, 0, none⟩) sn cl, .slice (some ⟨gd, 0, none⟩) pg cd, .slice (some ⟨gs, 0, none⟩) ns cs, .int .i64 (pu : Int), .int .i64 (ru : Int)] 109, .row (.slice (some ⟨gl, 0, none⟩) sn cl) 3 1 sn (List.map (Value.int .i64) L), .row (.slice (some ⟨gd, 0, none⟩) pg cd) 4 1 pg (List.map Value.bool D), .row (.slice (some ⟨gs, 0, none⟩) ns cs) 3 1 ns (List.map (Value.int .i64) S), .row (.slice (some ⟨gv, 0, none⟩) sn cv) 3 1 sn (List.map (Value.int .i64) L), .blk g2 #[.slice (some ⟨gv, 0, none⟩) sn cv, dv, .slice none 0 0, .int .i64 (pu : Int), .int .i64 (ru : Int)] 46, .blk g1 #[.slice none 0 0, .slice none 0 0, .slice none 0 0, .int .i64 0, .int .i64 0] 46] ∧ (k ≤ pg)) (fun gh => match gh with | (k, dv) => pg - k) (0, .slice none 0 0) ⟨_, frm_of, H, (Nat.zero_le _)⟩ ?_
    clear H
    rintro ⟨k, dv⟩ _ v9 ⟨uf1, rfl, H, r1⟩
    have hdl := deadL_len D k
    refine x_seq <| x_region <| x_b H [.v (.bool (decide ((k : Int) < (pg : Int))))] <| x_nil <| x_then <| x_seq ?_
    cases h1 : decide ((k : Int) < (pg : Int))
    · skip
      have h1p := of_decide_eq_false h1
      refine x_f (by kernel_rfl) <| x_exit <| x_then_exit <| x_then_exit <| x_blk_exit <| x_then <| x_seq ?_
      refine x_seq <| x_region <| x_b H [.m, .m, .m, .l 2 9, .m, .m] <| x_nil <| x_then <| x_block ?_
      have hkp : k = pg := by omega
      rw [hkp] at H
      replace H := H.pk [0, 1, 2, 3, 4, 5, 6, 7, 8]
      refine x_loop (G := Nat × Value) (fun gh a w' => match gh with | (j, qv) => ∃ uf2 : Nat → Value, a = frm 58 uf2 [(2, .pointer (some ⟨g1, 0, none⟩)), (3, .pointer (some ⟨g2, 0, none⟩)), (43, .slice (some ⟨gs, 0, none⟩) ns cs), (44, .int .i64 (ns : Int)), (45, .int .i64 (j : Int))] [] ∧ Hs M w0 w' [.row (qv) 3 1 (List.length (spL (List.take j S))) (List.map (Value.int .i64) (spL (List.take j S))), .row (dv) 3 1 (List.length (deadL D pg)) (List.map (Value.int .i64) (deadL D pg)), .blk p #[.int .i64 r, .int .i64 s, .int .i64 b, .int .i64 o, .int .i64 c, .int .i64 y, .int .i64 z, .slice (some ⟨gl, 0, none⟩) sn cl, .slice (some ⟨gd, 0, none⟩) pg cd, .slice (some ⟨gs, 0, none⟩) ns cs, .int .i64 (pu : Int), .int .i64 (ru : Int)] 109, .row (.slice (some ⟨gl, 0, none⟩) sn cl) 3 1 sn (List.map (Value.int .i64) L), .row (.slice (some ⟨gd, 0, none⟩) pg cd) 4 1 pg (List.map Value.bool D), .row (.slice (some ⟨gs, 0, none⟩) ns cs) 3 1 ns (List.map (Value.int .i64) S), .row (.slice (some ⟨gv, 0, none⟩) sn cv) 3 1 sn (List.map (Value.int .i64) L), .blk g2 #[.slice (some ⟨gv, 0, none⟩) sn cv, dv, qv, .int .i64 (pu : Int), .int .i64 (ru : Int)] 46, .blk g1 #[.slice none 0 0, .slice none 0 0, .slice none 0 0, .int .i64 0, .int .i64 0] 46] ∧ (j ≤ ns)) (fun gh => match gh with | (j, qv) => ns - j) (0, .slice none 0 0) ⟨_, frm_of, H, (Nat.zero_le _)⟩ ?_
      clear H
      rintro ⟨j, qv⟩ _ v10 ⟨uf2, rfl, H, r1⟩
      refine x_seq <| x_region <| x_b H [.v (.bool (decide ((j : Int) < (ns : Int))))] <| x_nil <| x_then <| x_seq ?_
      cases h2 : decide ((j : Int) < (ns : Int))
      · skip
        have h2p := of_decide_eq_false h2
        refine x_f (by kernel_rfl) <| x_exit <| x_then_exit <| x_then_exit <| x_blk_exit <| x_then <| x_seq ?_
        refine x_region <| x_b H [.n 7 0 5 46] ?_
        have h3o := H.rowOne 1 rfl
        have h4o := H.rowOne 0 rfl
        refine z_store H 8 0 [.slice (some ⟨gv, 0, none⟩) sn cv, dv, qv, .int .i64 (pu : Int), .int .i64 (ru : Int)] (fun v11 H => ?_) (h1 := (by simp only [List.all_cons, List.all_nil, h3o, h4o, Bool.and_true, Bool.true_and] <;> rfl))
        refine x_nil <| x_then <| x_retc <| x_ret (.agg #[.slice (some ⟨gv, 0, none⟩) sn cv, dv, qv, .int .i64 (pu : Int), .int .i64 (ru : Int)]) (by kernel_rfl) (x_rescell H 8 g1 0 #[.slice (some ⟨gv, 0, none⟩) sn cv, dv, qv, .int .i64 (pu : Int), .int .i64 (ru : Int)] 46 [.slice (some ⟨gv, 0, none⟩) sn cv, dv, qv, .int .i64 (pu : Int), .int .i64 (ru : Int)] (fun x => x) (by kernel_rfl) (by kernel_rfl) (by kernel_rfl)) ?_
        have hjn : j = ns := by omega
        have etk : List.take j S = S := by rw [hjn, ← hV.m.hS, List.take_length]
        rw [etk] at H
        replace H := H.pk [2, 3, 4, 5, 6, 1, 0]
        exact ⟨(.slice (some ⟨gv, 0, none⟩) sn cv, dv, qv), rfl, H⟩
      have h2p := of_decide_eq_true h2
      refine x_t (by kernel_rfl) <| x_skipc <| x_then <| x_seq <| x_block <| x_seq <| x_region ?_
      refine x_ix (t := 31) gs 0 j ns cs 3 1 j (by omega) (by omega) (by kernel_rfl) (by kernel_rfl) (by kernel_rfl) rfl (by kernel_rfl) <| x_loadc gs j (.int .i64 (S.getD j 0)) (H.rowCell 5 rfl j (mapAt 0 (by omega))) (by kernel_rfl) rfl (by kernel_rfl) <| x_b H [.m] <| x_nil <| x_then <| x_region <| x_b H [.m, .l 7 2, .m] ?_
      refine x_eq (.int .i64 (max (S.getD j 0) 0)) (e_max (S.getD j 0) 0) (by kernel_rfl) rfl (by kernel_rfl) <| x_box' H #[.int .i64 (max (S.getD j 0) 0)] 3 1 (by kernel_rfl) rfl (by kernel_rfl) ?_
      clear H
      intro v12 g3 H
      refine x_append H 1 (qv) 31 3 1 8 (List.length (spL (List.take j S))) (.int .i64 0) (List.map (Value.int .i64) (spL (List.take j S))) ⟨g3, 0, none⟩ 1 1 [.int .i64 (max (S.getD j 0) 0)] rfl (by kernel_rfl) (by kernel_rfl) rfl (by decide) (by decide) rfl (fun j u hj => by rw [add_none]; exact cellOf (H.blk 0 rfl) (by simpa using hj)) (List.all_eq_true.1 (by kernel_rfl)) (by rw [spL_tlen (by omega)]; unfold maxLen; omega) (by rw [spL_tlen (by omega)]; omega) (by kernel_rfl) rfl (by kernel_rfl) ?_
      clear H
      intro v13 g4 c4 hc4 H
      rw [show (((List.length (spL (List.take j S))) + 1) : Nat) = (List.length (spL (List.take (j + 1) S))) from (by rw [spL_next (by omega), List.length_append]; rfl)] at H ⊢
      rw [show (List.map (Value.int .i64) (spL (List.take j S))) ++ [.int .i64 (max (S.getD j 0) 0)] = (List.map (Value.int .i64) (spL (List.take (j + 1) S))) from (by rw [spL_next (by omega), List.map_append]; rfl)] at H
      replace H := H.pk [1, 2, 3, 4, 5, 6, 7, 8, 9]
      refine x_b H [.m] <| z_store H 7 2 [.slice (some ⟨g4, 0, none⟩) (List.length (spL (List.take (j + 1) S))) c4] (fun v14 H => ?_)
      refine x_nil <| x_blk <| x_then <| x_region <| z_ar ((j : Int) + 1) <| x_b H [.m] <| x_nil ?_
      refine x_then ?_
      replace H := H.pk [0, 1, 2, 3, 4, 5, 6, 7, 8]
      exact ⟨(j + 1, .slice (some ⟨g4, 0, none⟩) (List.length (spL (List.take (j + 1) S))) c4), (by dsimp only; omega), _, frm_of, H, (by omega)⟩
    have h1p := of_decide_eq_true h1
    refine x_t (by kernel_rfl) <| x_skipc <| x_then <| x_seq <| x_block <| x_seq <| x_region ?_
    refine x_b H [.m] <| x_ix (t := 107) gd 0 k pg cd 4 1 k (by omega) (by omega) (by kernel_rfl) (by kernel_rfl) (by kernel_rfl) rfl (by kernel_rfl) <| x_loadc gd k (.bool (D.getD k false)) (H.rowCell 4 rfl k (mapAt false (by omega))) (by kernel_rfl) rfl (by kernel_rfl) <| x_b H [.m, .v (.bool (D.getD k false))] <| x_nil <| x_then <| x_seq ?_
    refine x_region <| x_b H [.v (.bool (D.getD k false))] <| x_nil <| x_then ?_
    cases h5 : (D.getD k false)
    · skip
      refine x_f (by kernel_rfl) <| x_skipc <| x_blk <| x_then <| x_region <| z_ar ((k : Int) + 1) <| x_b H [.m] ?_
      refine x_nil <| x_then ?_
      replace H := H.pk [0, 1, 2, 3, 4, 5, 6, 7, 8]
      have ed : deadL D (k + 1) = deadL D k := by rw [deadL, if_neg (by rw [h5]; decide), List.append_nil]
      rw [← ed] at H
      exact ⟨(k + 1, dv), (by dsimp only; omega), _, frm_of, H, (by omega)⟩
    refine x_t (by kernel_rfl) <| x_region <| x_b H [.m, .l 7 1, .m] <| x_box' H #[.int .i64 (k : Int)] 3 1 (by kernel_rfl) rfl (by kernel_rfl) ?_
    clear H
    intro v15 g5 H
    refine x_append H 2 (dv) 31 3 1 8 (List.length (deadL D k)) (.int .i64 0) (List.map (Value.int .i64) (deadL D k)) ⟨g5, 0, none⟩ 1 1 [.int .i64 (k : Int)] rfl (by kernel_rfl) (by kernel_rfl) rfl (by decide) (by decide) rfl (fun j u hj => by rw [add_none]; exact cellOf (H.blk 0 rfl) (by simpa using hj)) (List.all_eq_true.1 (by kernel_rfl)) (by unfold maxLen; omega) (by omega) (by kernel_rfl) rfl (by kernel_rfl) ?_
    clear H
    intro v16 g6 c6 hc6 H
    rw [show (((List.length (deadL D k)) + 1) : Nat) = (List.length (deadL D (k + 1))) from (by rw [deadL, if_pos h5, List.length_append]; rfl)] at H ⊢
    rw [show (List.map (Value.int .i64) (deadL D k)) ++ [.int .i64 (k : Int)] = (List.map (Value.int .i64) (deadL D (k + 1))) from (by rw [deadL, if_pos h5, List.map_append]; rfl)] at H
    replace H := H.pk [1, 2, 3, 4, 5, 6, 7, 8, 9]
    refine x_b H [.m] <| z_store H 7 1 [.slice (some ⟨g6, 0, none⟩) (List.length (deadL D (k + 1))) c6] (fun v17 H => ?_)
    refine x_nil <| x_blk <| x_then <| x_region <| z_ar ((k : Int) + 1) <| x_b H [.m] <| x_nil ?_
    refine x_then ?_
    replace H := H.pk [0, 1, 2, 3, 4, 5, 6, 7, 8]
    exact ⟨(k + 1, .slice (some ⟨g6, 0, none⟩) (List.length (deadL D (k + 1))) c6), (by dsimp only; omega), _, frm_of, H, (by omega)⟩
  · skip
    clear H
    intro v18 H
    refine z_box H #[.slice none 0 0, .slice none 0 0, .slice none 0 0, .int .i64 0, .int .i64 0] 46 (fun v19 g7 H => ?_)
    refine x_nil <| x_then <| z_next H [1, 2, 3, 4, 5] [0, 1, 2, 3, 4] rfl <| s_one 4 rfl (by kernel_rfl) rfl ?_
    clear H
    intro v20 H
    refine z_call (CloneI (by omega) (by omega) _ (H.ro1 [3])) ?_
    rintro _ v21 ⟨gv, cv, rfl, hN'⟩
    refine ⟨_, rfl, ?_⟩
    replace H := H.more hN'
    clear hN'
    refine x_nil <| x_then <| z_next H [0, 2, 3, 4, 5, 6] [1, 2, 3, 4, 5] rfl <| s_b [(13, .m)] 1 <| s_one 15 rfl (by kernel_rfl) rfl ?_
    clear H
    intro v22 H
    refine z_store H 1 0 [.slice (some ⟨gv, 0, none⟩) sn cv, .slice none 0 0, .slice none 0 0, .int .i64 (pu : Int), .int .i64 (ru : Int)] (fun v23 H => ?_)
    refine x_nil <| x_then <| z_next H [0, 2, 3, 4, 5, 6] [0, 1, 2, 3, 4, 5] rfl <| s_done (by kernel_rfl) ?_
    clear H
    intro v24 H
    refine x_then <| x_seq <| x_seq <| x_region <| x_b H [.m, .m, .m, .l 3 8, .m, .m] <| x_nil <| x_then ?_
    refine x_block ?_
    replace H := H.nilRow 3 1
    replace H := H.nilRow 3 1
    replace H := H.pk [0, 1, 5, 6, 7, 8, 2, 3, 4]
    refine x_loop (G := Nat × Value) (fun gh a w' => match gh with | (k, dv) => ∃ uf3 : Nat → Value, a = frm 58 uf3 [(0, .pointer (some ⟨p, 0, none⟩)), (2, .pointer (some ⟨g1, 0, none⟩)), (3, .pointer (some ⟨g7, 0, none⟩)), (25, .slice (some ⟨gd, 0, none⟩) pg cd), (26, .int .i64 (pg : Int)), (27, .int .i64 (k : Int))] [] ∧ Hs M w0 w' [.row (.slice none 0 0) 3 1 (List.length ([] : List Int)) (List.map (Value.int .i64) ([] : List Int)), .row (dv) 3 1 (List.length (deadL D k)) (List.map (Value.int .i64) (deadL D k)), .blk p #[.int .i64 r, .int .i64 s, .int .i64 b, .int .i64 o, .int .i64 c, .int .i64 y, .int .i64 z, .slice (some ⟨gl, 0, none⟩) sn cl, .slice (some ⟨gd, 0, none⟩) pg cd, .slice (some ⟨gs, 0, none⟩) ns cs, .int .i64 (pu : Int), .int .i64 (ru : Int)] 109, .row (.slice (some ⟨gl, 0, none⟩) sn cl) 3 1 sn (List.map (Value.int .i64) L), .row (.slice (some ⟨gd, 0, none⟩) pg cd) 4 1 pg (List.map Value.bool D), .row (.slice (some ⟨gs, 0, none⟩) ns cs) 3 1 ns (List.map (Value.int .i64) S), .row (.slice (some ⟨gv, 0, none⟩) sn cv) 3 1 sn (List.map (Value.int .i64) L), .blk g7 #[.slice (some ⟨gv, 0, none⟩) sn cv, dv, .slice none 0 0, .int .i64 (pu : Int), .int .i64 (ru : Int)] 46, .blk g1 #[.slice none 0 0, .slice none 0 0, .slice none 0 0, .int .i64 0, .int .i64 0] 46] ∧ (k ≤ pg)) (fun gh => match gh with | (k, dv) => pg - k) (0, .slice none 0 0) ⟨_, frm_of, H, (Nat.zero_le _)⟩ ?_
    clear H
    rintro ⟨k, dv⟩ _ v25 ⟨uf3, rfl, H, r1⟩
    have hdl := deadL_len D k
    refine x_seq <| x_region <| x_b H [.v (.bool (decide ((k : Int) < (pg : Int))))] <| x_nil <| x_then <| x_seq ?_
    cases h6 : decide ((k : Int) < (pg : Int))
    · skip
      have h6p := of_decide_eq_false h6
      refine x_f (by kernel_rfl) <| x_exit <| x_then_exit <| x_then_exit <| x_blk_exit <| x_then <| x_seq ?_
      refine x_seq <| x_region <| x_b H [.m, .m, .m, .l 2 9, .m, .m] <| x_nil <| x_then <| x_block ?_
      have hkp : k = pg := by omega
      rw [hkp] at H
      replace H := H.pk [0, 1, 2, 3, 4, 5, 6, 7, 8]
      refine x_loop (G := Nat × Value) (fun gh a w' => match gh with | (j, qv) => ∃ uf4 : Nat → Value, a = frm 58 uf4 [(2, .pointer (some ⟨g1, 0, none⟩)), (3, .pointer (some ⟨g7, 0, none⟩)), (43, .slice (some ⟨gs, 0, none⟩) ns cs), (44, .int .i64 (ns : Int)), (45, .int .i64 (j : Int))] [] ∧ Hs M w0 w' [.row (qv) 3 1 (List.length (spL (List.take j S))) (List.map (Value.int .i64) (spL (List.take j S))), .row (dv) 3 1 (List.length (deadL D pg)) (List.map (Value.int .i64) (deadL D pg)), .blk p #[.int .i64 r, .int .i64 s, .int .i64 b, .int .i64 o, .int .i64 c, .int .i64 y, .int .i64 z, .slice (some ⟨gl, 0, none⟩) sn cl, .slice (some ⟨gd, 0, none⟩) pg cd, .slice (some ⟨gs, 0, none⟩) ns cs, .int .i64 (pu : Int), .int .i64 (ru : Int)] 109, .row (.slice (some ⟨gl, 0, none⟩) sn cl) 3 1 sn (List.map (Value.int .i64) L), .row (.slice (some ⟨gd, 0, none⟩) pg cd) 4 1 pg (List.map Value.bool D), .row (.slice (some ⟨gs, 0, none⟩) ns cs) 3 1 ns (List.map (Value.int .i64) S), .row (.slice (some ⟨gv, 0, none⟩) sn cv) 3 1 sn (List.map (Value.int .i64) L), .blk g7 #[.slice (some ⟨gv, 0, none⟩) sn cv, dv, qv, .int .i64 (pu : Int), .int .i64 (ru : Int)] 46, .blk g1 #[.slice none 0 0, .slice none 0 0, .slice none 0 0, .int .i64 0, .int .i64 0] 46] ∧ (j ≤ ns)) (fun gh => match gh with | (j, qv) => ns - j) (0, .slice none 0 0) ⟨_, frm_of, H, (Nat.zero_le _)⟩ ?_
      clear H
      rintro ⟨j, qv⟩ _ v26 ⟨uf4, rfl, H, r1⟩
      refine x_seq <| x_region <| x_b H [.v (.bool (decide ((j : Int) < (ns : Int))))] <| x_nil <| x_then <| x_seq ?_
      cases h7 : decide ((j : Int) < (ns : Int))
      · skip
        have h7p := of_decide_eq_false h7
        refine x_f (by kernel_rfl) <| x_exit <| x_then_exit <| x_then_exit <| x_blk_exit <| x_then <| x_seq ?_
        refine x_region <| x_b H [.n 7 0 5 46] ?_
        have h8o := H.rowOne 1 rfl
        have h9o := H.rowOne 0 rfl
        refine z_store H 8 0 [.slice (some ⟨gv, 0, none⟩) sn cv, dv, qv, .int .i64 (pu : Int), .int .i64 (ru : Int)] (fun v27 H => ?_) (h1 := (by simp only [List.all_cons, List.all_nil, h8o, h9o, Bool.and_true, Bool.true_and] <;> rfl))
        refine x_nil <| x_then <| x_retc <| x_ret (.agg #[.slice (some ⟨gv, 0, none⟩) sn cv, dv, qv, .int .i64 (pu : Int), .int .i64 (ru : Int)]) (by kernel_rfl) (x_rescell H 8 g1 0 #[.slice (some ⟨gv, 0, none⟩) sn cv, dv, qv, .int .i64 (pu : Int), .int .i64 (ru : Int)] 46 [.slice (some ⟨gv, 0, none⟩) sn cv, dv, qv, .int .i64 (pu : Int), .int .i64 (ru : Int)] (fun x => x) (by kernel_rfl) (by kernel_rfl) (by kernel_rfl)) ?_
        have hjn : j = ns := by omega
        have etk : List.take j S = S := by rw [hjn, ← hV.m.hS, List.take_length]
        rw [etk] at H
        replace H := H.pk [2, 3, 4, 5, 6, 1, 0]
        exact ⟨(.slice (some ⟨gv, 0, none⟩) sn cv, dv, qv), rfl, H⟩
      have h7p := of_decide_eq_true h7
      refine x_t (by kernel_rfl) <| x_skipc <| x_then <| x_seq <| x_block <| x_seq <| x_region ?_
      refine x_ix (t := 31) gs 0 j ns cs 3 1 j (by omega) (by omega) (by kernel_rfl) (by kernel_rfl) (by kernel_rfl) rfl (by kernel_rfl) <| x_loadc gs j (.int .i64 (S.getD j 0)) (H.rowCell 5 rfl j (mapAt 0 (by omega))) (by kernel_rfl) rfl (by kernel_rfl) <| x_b H [.m] <| x_nil <| x_then <| x_region <| x_b H [.m, .l 7 2, .m] ?_
      refine x_eq (.int .i64 (max (S.getD j 0) 0)) (e_max (S.getD j 0) 0) (by kernel_rfl) rfl (by kernel_rfl) <| x_box' H #[.int .i64 (max (S.getD j 0) 0)] 3 1 (by kernel_rfl) rfl (by kernel_rfl) ?_
      clear H
      intro v28 g8 H
      refine x_append H 1 (qv) 31 3 1 8 (List.length (spL (List.take j S))) (.int .i64 0) (List.map (Value.int .i64) (spL (List.take j S))) ⟨g8, 0, none⟩ 1 1 [.int .i64 (max (S.getD j 0) 0)] rfl (by kernel_rfl) (by kernel_rfl) rfl (by decide) (by decide) rfl (fun j u hj => by rw [add_none]; exact cellOf (H.blk 0 rfl) (by simpa using hj)) (List.all_eq_true.1 (by kernel_rfl)) (by rw [spL_tlen (by omega)]; unfold maxLen; omega) (by rw [spL_tlen (by omega)]; omega) (by kernel_rfl) rfl (by kernel_rfl) ?_
      clear H
      intro v29 g9 c9 hc9 H
      rw [show (((List.length (spL (List.take j S))) + 1) : Nat) = (List.length (spL (List.take (j + 1) S))) from (by rw [spL_next (by omega), List.length_append]; rfl)] at H ⊢
      rw [show (List.map (Value.int .i64) (spL (List.take j S))) ++ [.int .i64 (max (S.getD j 0) 0)] = (List.map (Value.int .i64) (spL (List.take (j + 1) S))) from (by rw [spL_next (by omega), List.map_append]; rfl)] at H
      replace H := H.pk [1, 2, 3, 4, 5, 6, 7, 8, 9]
      refine x_b H [.m] <| z_store H 7 2 [.slice (some ⟨g9, 0, none⟩) (List.length (spL (List.take (j + 1) S))) c9] (fun v30 H => ?_)
      refine x_nil <| x_blk <| x_then <| x_region <| z_ar ((j : Int) + 1) <| x_b H [.m] <| x_nil ?_
      refine x_then ?_
      replace H := H.pk [0, 1, 2, 3, 4, 5, 6, 7, 8]
      exact ⟨(j + 1, .slice (some ⟨g9, 0, none⟩) (List.length (spL (List.take (j + 1) S))) c9), (by dsimp only; omega), _, frm_of, H, (by omega)⟩
    have h6p := of_decide_eq_true h6
    refine x_t (by kernel_rfl) <| x_skipc <| x_then <| x_seq <| x_block <| x_seq <| x_region ?_
    refine x_b H [.m] <| x_ix (t := 107) gd 0 k pg cd 4 1 k (by omega) (by omega) (by kernel_rfl) (by kernel_rfl) (by kernel_rfl) rfl (by kernel_rfl) <| x_loadc gd k (.bool (D.getD k false)) (H.rowCell 4 rfl k (mapAt false (by omega))) (by kernel_rfl) rfl (by kernel_rfl) <| x_b H [.m, .v (.bool (D.getD k false))] <| x_nil <| x_then <| x_seq ?_
    refine x_region <| x_b H [.v (.bool (D.getD k false))] <| x_nil <| x_then ?_
    cases h10 : (D.getD k false)
    · skip
      refine x_f (by kernel_rfl) <| x_skipc <| x_blk <| x_then <| x_region <| z_ar ((k : Int) + 1) <| x_b H [.m] ?_
      refine x_nil <| x_then ?_
      replace H := H.pk [0, 1, 2, 3, 4, 5, 6, 7, 8]
      have ed : deadL D (k + 1) = deadL D k := by rw [deadL, if_neg (by rw [h10]; decide), List.append_nil]
      rw [← ed] at H
      exact ⟨(k + 1, dv), (by dsimp only; omega), _, frm_of, H, (by omega)⟩
    refine x_t (by kernel_rfl) <| x_region <| x_b H [.m, .l 7 1, .m] <| x_box' H #[.int .i64 (k : Int)] 3 1 (by kernel_rfl) rfl (by kernel_rfl) ?_
    clear H
    intro v31 g10 H
    refine x_append H 2 (dv) 31 3 1 8 (List.length (deadL D k)) (.int .i64 0) (List.map (Value.int .i64) (deadL D k)) ⟨g10, 0, none⟩ 1 1 [.int .i64 (k : Int)] rfl (by kernel_rfl) (by kernel_rfl) rfl (by decide) (by decide) rfl (fun j u hj => by rw [add_none]; exact cellOf (H.blk 0 rfl) (by simpa using hj)) (List.all_eq_true.1 (by kernel_rfl)) (by unfold maxLen; omega) (by omega) (by kernel_rfl) rfl (by kernel_rfl) ?_
    clear H
    intro v32 g11 c11 hc11 H
    rw [show (((List.length (deadL D k)) + 1) : Nat) = (List.length (deadL D (k + 1))) from (by rw [deadL, if_pos h10, List.length_append]; rfl)] at H ⊢
    rw [show (List.map (Value.int .i64) (deadL D k)) ++ [.int .i64 (k : Int)] = (List.map (Value.int .i64) (deadL D (k + 1))) from (by rw [deadL, if_pos h10, List.map_append]; rfl)] at H
    replace H := H.pk [1, 2, 3, 4, 5, 6, 7, 8, 9]
    refine x_b H [.m] <| z_store H 7 1 [.slice (some ⟨g11, 0, none⟩) (List.length (deadL D (k + 1))) c11] (fun v33 H => ?_)
    refine x_nil <| x_blk <| x_then <| x_region <| z_ar ((k : Int) + 1) <| x_b H [.m] <| x_nil ?_
    refine x_then ?_
    replace H := H.pk [0, 1, 2, 3, 4, 5, 6, 7, 8]
    exact ⟨(k + 1, .slice (some ⟨g11, 0, none⟩) (List.length (deadL D (k + 1))) c11), (by dsimp only; omega), _, frm_of, H, (by omega)⟩
end Go.Proofs.YtpmnnijjohlloaaGreat
