/- The law RemapRestores, walked. -/
import Derived.Test.YtpmnnijjohlloaaRemapPl
import Derived.Test.YtpmnnijjohlloaaRemapRs
import Derived.Test.YtpmnnijjohlloaaPxZ
namespace Go.Proofs.Ytpmnnijjohlloaa
open Go Go.RowKit
set_option linter.unusedVariables false
set_option linter.unusedSimpArgs false

set_option maxRecDepth 100000 in
set_option maxHeartbeats 4000000 in
theorem rrest_no (r s b o c y z : Int) (ad ae : Option Addr) (nA cA nB cB : Nat) (hbd : r ≤ 9223372036854775807 ∧ b ≤ 9223372036854775807 ∧ o ≤ 9223372036854775807 ∧ c ≤ 9223372036854775807) (hok : layoutOk r s b o c y z = false) (w0 : World) :
    Calls Try.prog 6 #[.agg #[.int .i64 r, .int .i64 s, .int .i64 b, .int .i64 o, .int .i64 c, .int .i64 y, .int .i64 z], .slice ad nA cA, .slice ae nB cB] w0 fun e w' => e = .returned (.bool true) ∧ Below w0.heap.size w0 w' := by
  refine z_enter Try.func6 rfl ?_
  have H := Hs.nil w0
  obtain ⟨hb1, hb2, hb3, hb4⟩ := id hbd
  refine x_seq <| x_region <| z_box H #[.int .i64 r, .int .i64 s, .int .i64 b, .int .i64 o, .int .i64 c, .int .i64 y, .int .i64 z] 25 (fun v1 g1 H => ?_)
  refine x_b H [.m] <| x_nil <| x_then <| x_seq <| x_seq <| x_region <| z_callB H (anchor19 _) fun v2 H => ?_
  refine x_b H [.m] <| x_nil <| x_then <| x_f (by kernel_rfl) <| x_skipc <| x_then <| x_seq ?_
  refine x_seq <| x_region <| x_b H [.n 0 0 7 25] <| z_call (small_any r s b o c y z (by omega) (by omega) (by omega) (by omega) _) ?_
  rintro _ v3 ⟨tS, rfl, hB⟩
  refine ⟨_, rfl, ?_⟩
  replace H := H.via hB
  clear hB
  refine x_b H [.v (.bool (!tS)), .v (.bool (!tS))] ?_
  cases h1 : tS
  · skip
    refine x_b H [.k, .k, .k, .m, .m, .k, .k, .k, .m] <| x_nil <| x_then <| x_t (by kernel_rfl) <| x_seq <| x_region <| x_b H [.m] ?_
    refine x_nil <| x_then <| x_retc <| x_then_ret <| x_ret (.bool true) (by kernel_rfl) (by kernel_rfl) ?_
    exact ⟨rfl, H.below⟩
  refine x_b H [.m, .m, .v (.bool (decide (20 < (nA : Int)))), .v (.bool (decide (20 < (nA : Int)))), .v (.bool (decide (20 < (nA : Int))))] ?_
  cases h2 : decide (20 < (nA : Int))
  · skip
    have h2p := of_decide_eq_false h2
    refine x_b H [.m, .m, .v (.bool (decide (20 < (nB : Int)))), .v (.bool (decide (20 < (nB : Int))))] <| x_nil <| x_then ?_
    cases h3 : decide (20 < (nB : Int))
    · skip
      have h3p := of_decide_eq_false h3
      refine x_f (by kernel_rfl) <| x_skipc <| x_then <| x_seq <| x_region <| x_b H [.n 0 0 7 25] <| z_callB H (New_no r s b o c y z hbd hok _) fun v4 H => ?_
      refine x_b H [.m, .m, .m, .m, .m] <| x_nil <| x_then <| x_seq <| x_seq <| x_region <| x_b H [.m, .m, .m, .k, .k, .m] ?_
      refine x_nil <| x_then <| x_t (by kernel_rfl) <| x_seq <| x_region <| x_b H [.n 0 0 7 25, .m] <| z_callB H (Restore_no r s b o c y z none none none 0 0 0 0 0 0 0 0 hbd hok _) fun v5 H => ?_
      refine x_b H [.m, .m, .m, .m, .m] <| x_nil <| x_then <| x_seq <| x_region <| x_b H [.m, .m, .m, .m, .m, .m, .m, .m, .m, .m, .m] <| x_nil ?_
      refine z_fr 125 [(6, .bool true)] [] fun uf1 => x_then <| x_retc <| x_then_ret <| x_ret (.bool true) (by kernel_rfl) (by kernel_rfl) ?_
      exact ⟨rfl, H.below⟩
    have h3p := of_decide_eq_true h3
    refine x_t (by kernel_rfl) <| x_seq <| x_region <| x_b H [.m] <| x_nil <| x_then <| x_retc ?_
    refine x_then_ret <| x_ret (.bool true) (by kernel_rfl) (by kernel_rfl) ?_
    exact ⟨rfl, H.below⟩
  have h2p := of_decide_eq_true h2
  refine x_b H [.k, .k, .k, .m] <| x_nil <| x_then <| x_t (by kernel_rfl) <| x_seq <| x_region <| x_b H [.m] ?_
  refine x_nil <| x_then <| x_retc <| x_then_ret <| x_ret (.bool true) (by kernel_rfl) (by kernel_rfl) ?_
  exact ⟨rfl, H.below⟩

set_option maxRecDepth 100000 in
set_option maxHeartbeats 4000000 in
theorem rrest_yes {r s b o c y z : Int} {pg sn ns : Nat} (hL : Lay r s b o c y z pg sn ns) (ad ae : Option Addr) (nA cA nB cB : Nat) (l l2 : List Int3) (hrg : ∀ k, k < nA → -9223372036854775808 ≤ (l.getD k (0, 0, 0)).2.2 ∧ (l.getD k (0, 0, 0)).2.2 ≤ 9223372036854775807) (hrg2 : ∀ k, k < nB → -9223372036854775808 ≤ (l2.getD k (0, 0, 0)).2.2 ∧ (l2.getD k (0, 0, 0)).2.2 ≤ 9223372036854775807) (w0 : World) (hA : RAt int3L 3 (0, 0, 0) w0 ad nA l) (hB0 : RAt int3L 3 (0, 0, 0) w0 ae nB l2) :
    Calls Try.prog 6 #[.agg #[.int .i64 r, .int .i64 s, .int .i64 b, .int .i64 o, .int .i64 c, .int .i64 y, .int .i64 z], .slice ad nA cA, .slice ae nB cB] w0 fun e w' => e = .returned (.bool true) ∧ Below w0.heap.size w0 w' := by
  refine z_enter Try.func6 rfl ?_
  have H := Hs.nil w0
  have hok := hL.ok
  obtain ⟨-, r1', r8, s0, s8, b1, b2, o1, o2, c1, c2, y0, y4, z0, z2, hpg, hsn, hns, sn1, pg2, ln0, ln2⟩ := id hL
  refine x_seq <| x_region <| z_box H #[.int .i64 r, .int .i64 s, .int .i64 b, .int .i64 o, .int .i64 c, .int .i64 y, .int .i64 z] 25 (fun v1 g1 H => ?_)
  refine x_b H [.m] <| x_nil <| x_then <| x_seq <| x_seq <| x_region <| z_callB H (anchor19 _) fun v2 H => ?_
  refine x_b H [.m] <| x_nil <| x_then <| x_f (by kernel_rfl) <| x_skipc <| x_then <| x_seq ?_
  refine x_seq <| x_region <| x_b H [.n 0 0 7 25] <| z_call (small_any r s b o c y z (by omega) (by omega) (by omega) (by omega) _) ?_
  rintro _ v3 ⟨tS, rfl, hB⟩
  refine ⟨_, rfl, ?_⟩
  replace H := H.via hB
  clear hB
  refine x_b H [.v (.bool (!tS)), .v (.bool (!tS))] ?_
  cases h1 : tS
  · skip
    refine x_b H [.k, .k, .k, .m, .m, .k, .k, .k, .m] <| x_nil <| x_then <| x_t (by kernel_rfl) <| x_seq <| x_region <| x_b H [.m] ?_
    refine x_nil <| x_then <| x_retc <| x_then_ret <| x_ret (.bool true) (by kernel_rfl) (by kernel_rfl) ?_
    exact ⟨rfl, H.below⟩
  refine x_b H [.m, .m, .v (.bool (decide (20 < (nA : Int)))), .v (.bool (decide (20 < (nA : Int)))), .v (.bool (decide (20 < (nA : Int))))] ?_
  cases h2 : decide (20 < (nA : Int))
  · skip
    have h2p := of_decide_eq_false h2
    refine x_b H [.m, .m, .v (.bool (decide (20 < (nB : Int)))), .v (.bool (decide (20 < (nB : Int))))] <| x_nil <| x_then ?_
    cases h3 : decide (20 < (nB : Int))
    · skip
      have h3p := of_decide_eq_false h3
      refine x_f (by kernel_rfl) <| x_skipc <| x_then <| x_seq <| x_region <| x_b H [.n 0 0 7 25] <| z_call (New_yes hL _) ?_
      rintro _ v4 ⟨p, gl, cl, gd, cd, gs, cs, rfl, hN'⟩
      refine ⟨_, rfl, ?_⟩
      replace H := H.more hN'
      clear hN'
      refine x_b H [.m, .m, .m, .m, .m] <| x_nil <| x_then <| x_seq <| x_seq <| x_region <| x_b H [.m, .m, .m, .m, .m, .m] ?_
      refine x_nil <| x_then <| x_f (by kernel_rfl) <| x_skipc <| x_then <| x_seq <| x_region ?_
      refine x_b H [.m, .n 4 0 5 23, .m, .l 4 5, .m, .l 4 6] <| z_call (New19 hL _) ?_
      rintro _ v5 ⟨u, cu, rfl, hN'⟩
      refine ⟨_, rfl, ?_⟩
      replace H := H.more hN'
      clear hN'
      refine z_box H #[.int .i64 0, .int .i64 0, .int .i64 0, .int .i64 0, .int .i64 0, .int .i64 0, .int .i64 0, .slice none 0 0, .slice none 0 0, .slice none 0 0, .int .i64 0, .int .i64 0] 43 (fun v6 g2 H => ?_)
      refine z_store H 0 0 [.int .i64 r, .int .i64 s, .int .i64 b, .int .i64 o, .int .i64 c, .int .i64 y, .int .i64 z, .slice (some ⟨u, 0, none⟩) pg cu, .slice none 0 0, .slice none 0 0, .int .i64 ((0 : Nat) : Int), .int .i64 ((0 : Nat) : Int)] (fun v7 H => ?_)
      refine x_nil <| x_then <| x_seq <| x_region <| x_b H [.m] <| x_nil <| z_fr 125 [(1, .slice ad nA cA), (2, .slice ae nB cB), (3, .pointer (some ⟨g1, 0, none⟩)), (7, .pointer (some ⟨p, 0, none⟩)), (11, .pointer (some ⟨g2, 0, none⟩))] [] fun uf1 => ?_
      refine x_then <| x_seq <| x_seq <| x_region <| x_b H [.m, .m, .m] <| x_nil <| x_then ?_
      refine x_block ?_
      replace H := H.nilRow 156 2
      replace H := H.nilRow 156 2
      replace H := H.pk [4, 5, 6, 7, 3, 0, 1, 2, 8]
      refine x_loop (G := Nat × List Int × List Bool × List Int × Nat × Nat × List Ent × List Ent × Value × Value) (fun gh a w' => match gh with | (k, L, D, S, pu, ru, Pg, Rk, pv, kv) => ∃ uf2 : Nat → Value, a = frm 125 uf2 [(2, .slice ae nB cB), (3, .pointer (some ⟨g1, 0, none⟩)), (7, .pointer (some ⟨p, 0, none⟩)), (11, .pointer (some ⟨g2, 0, none⟩)), (68, .slice ad nA cA), (69, .int .i64 (nA : Int)), (70, .int .i64 (k : Int))] [] ∧ Hs [] w0 w' [.blk p #[.int .i64 r, .int .i64 s, .int .i64 b, .int .i64 o, .int .i64 c, .int .i64 y, .int .i64 z, .slice (some ⟨gl, 0, none⟩) sn cl, .slice (some ⟨gd, 0, none⟩) pg cd, .slice (some ⟨gs, 0, none⟩) ns cs, .int .i64 (pu : Int), .int .i64 (ru : Int)] 118, .row (.slice (some ⟨gl, 0, none⟩) sn cl) 3 1 sn (List.map (Value.int .i64) L), .row (.slice (some ⟨gd, 0, none⟩) pg cd) 4 1 pg (List.map Value.bool D), .row (.slice (some ⟨gs, 0, none⟩) ns cs) 3 1 ns (List.map (Value.int .i64) S), .row (.slice (some ⟨u, 0, none⟩) pg cu) 3 1 pg (List.map (Value.int .i64) (layL y r b o pg)), .row (pv) 156 2 (List.length Pg) (List.flatMap entL Pg), .row (kv) 156 2 (List.length Rk) (List.flatMap entL Rk), .blk g2 #[.int .i64 r, .int .i64 s, .int .i64 b, .int .i64 o, .int .i64 c, .int .i64 y, .int .i64 z, .slice (some ⟨u, 0, none⟩) pg cu, pv, kv, .int .i64 (pu : Int), .int .i64 (ru : Int)] 43, .blk g1 #[.int .i64 r, .int .i64 s, .int .i64 b, .int .i64 o, .int .i64 c, .int .i64 y, .int .i64 z] 25] ∧ (k ≤ nA) ∧ (MapV r s z sn pg ns L D S pu ru) ∧ (DocM pg sn ns L D S Pg Rk) ∧ (Pg.length ≤ k) ∧ (Rk.length ≤ k) ∧ (LivM sn pg pu L D)) (fun gh => match gh with | (k, L, D, S, pu, ru, Pg, Rk, pv, kv) => nA - k) (0, (iota sn), (List.replicate pg false), (List.replicate ns (-1)), 0, 0, ([] : List Ent), ([] : List Ent), .slice none 0 0, .slice none 0 0) ⟨_, frm_of, H, (Nat.zero_le _), (MapV.new hL), (DocM.new pg sn ns), (Nat.le_refl _), (Nat.le_refl _), (LivM.new sn pg)⟩ ?_
      clear H
      rintro ⟨k, L, D, S, pu, ru, Pg, Rk, pv, kv⟩ _ v8 ⟨uf2, rfl, H, r1, r2, r3, r4, r5, r6⟩
      have hV := r2
      have hd := r3
      have hv := r6
      refine x_seq <| x_region <| x_b H [.v (.bool (decide ((k : Int) < (nA : Int))))] <| x_nil <| x_then <| x_seq ?_
      cases h4 : decide ((k : Int) < (nA : Int))
      · skip
        have h4p := of_decide_eq_false h4
        refine x_f (by kernel_rfl) <| x_exit <| x_then_exit <| x_then_exit <| x_blk_exit <| x_then <| x_seq ?_
        refine z_region_s H 9 [0, 1, 2, 3, 4, 5, 6, 7, 8] <| s_b [(0, .n 8 0 7 25), (1, .m)] 7 <| s_one 2 rfl (by kernel_rfl) rfl ?_
        clear H
        intro v9 H
        refine z_call (H.useEI [0, 1, 2, 3] (fun h => State_of hL hV _ h)) ?_
        rintro _ v10 ⟨⟨za, zb, zc⟩, rfl, H'⟩
        refine ⟨_, rfl, ?_⟩
        clear H
        have H := H'
        clear H'
        refine x_nil <| x_then <| z_next H [0, 1, 2, 3, 7, 8, 9, 10, 11] [0, 1, 2, 3, 4, 5, 6, 7, 8] rfl <| s_one 3 rfl (by kernel_rfl) rfl ?_
        clear H
        intro v11 H
        obtain ⟨aL, cL, e_aL, hIL⟩ := intsRow (H.ok 4 _ rfl : World.ownsRow _ 0 _ 1 _ _ _)
        subst e_aL
        obtain ⟨aD, cD, e_aD, hID⟩ := intsRow (H.ok 5 _ rfl : World.ownsRow _ 0 _ 1 _ _ _)
        subst e_aD
        obtain ⟨aS, cS, e_aS, hIS⟩ := intsRow (H.ok 6 _ rfl : World.ownsRow _ 0 _ 1 _ _ _)
        subst e_aS
        have hp := hV.m.hp
        have eS := hV.m.hS
        have hru := hV.m.hr
        have esp : (spL S).length = ns := by unfold spL; rw [List.length_map]; exact hV.m.hS
        have hnd := deadL_len D pg
        have hokS := okS_of hV hv sn (Nat.le_refl _)
        rw [← marks_dead hV.m.hD] at hokS
        have hsx : ∀ i, i < (spL S).length → -9223372036854775808 ≤ (spL S).getD i 0 ∧ (spL S).getD i 0 ≤ 9223372036854775807 := fun i hi => by rw [spL_get (by omega)]; rcases hV.sv i (by omega) with e | e <;> omega
        have hokT := okT_of r1' hV (spL S).length (by omega)
        have hft := fitsB_mk (nl := sn) (sn := sn) (nq := (spL S).length) (r := r) (z := z) (s := s) (pu := (pu : Int)) (ru := (ru : Int)) rfl (by omega) (by omega) hp (by omega) hru
        refine z_call (Restore_yes hL aL aD aS sn cL (deadL D pg).length cD (spL S).length cS L (deadL D pg) (spL S) hsx (by omega) hft (okD_deadL D pg pg (Nat.le_refl _)) hokS hokT _ hIL hID hIS) ?_
        rintro _ v12 ⟨p2, gl2, cl2, gd2, cd2, gs2, cs2, rfl, hN'⟩
        refine ⟨_, rfl, ?_⟩
        rw [setsL_id hV.m.hL, marks_dead hV.m.hD, esp, standL_id r1' hV] at hN'
        replace H := H.more hN'
        clear hN'
        refine x_nil <| x_then <| z_next H [0, 1, 2, 3, 4, 5, 6, 7, 8, 9, 10, 11, 12, 13, 14, 15] [4, 5, 6, 7, 11, 12, 13, 14, 15] rfl <| s_b [(4, .m), (5, .m), (6, .m), (7, .m), (8, .m)] 0 <| s_done (by kernel_rfl) ?_
        clear H
        intro v13 H
        refine x_then <| x_seq <| x_seq <| x_region <| x_b H [.m, .m, .m, .m, .m, .m, .m, .m, .n 14 0 12 43] <| z_callH (v := .bool true) (H.useI [0, 1, 2, 3, 11, 12, 13] (fun h => rsame hL hV hd (by omega) (by omega) _ h)) fun v14 H => x_b H [.m, .m] ?_
        refine x_nil <| x_then <| x_f (by kernel_rfl) <| x_skipc <| x_then <| x_seq <| x_seq ?_
        refine x_region <| x_b H [.m, .m, .m] <| x_nil <| x_then <| x_block ?_
        replace H := H.pk [0, 1, 2, 3, 4, 5, 6, 14, 15]
        refine x_loop (G := Nat × List Int × List Bool × List Int × Nat × Nat × List Ent × List Ent × Value × Value) (fun gh a w' => match gh with | (j, L2, D2, S2, pu2, ru2, Pg2, Rk2, pv2, kv2) => ∃ uf3 : Nat → Value, a = frm 125 uf3 [(11, .pointer (some ⟨g2, 0, none⟩)), (15, .pointer (some ⟨p2, 0, none⟩)), (103, .slice ae nB cB), (104, .int .i64 (nB : Int)), (105, .int .i64 (j : Int))] [] ∧ Hs [] w0 w' [.blk p2 #[.int .i64 r, .int .i64 s, .int .i64 b, .int .i64 o, .int .i64 c, .int .i64 y, .int .i64 z, .slice (some ⟨gl2, 0, none⟩) sn cl2, .slice (some ⟨gd2, 0, none⟩) pg cd2, .slice (some ⟨gs2, 0, none⟩) ns cs2, .int .i64 (pu2 : Int), .int .i64 (ru2 : Int)] 118, .row (.slice (some ⟨gl2, 0, none⟩) sn cl2) 3 1 sn (List.map (Value.int .i64) L2), .row (.slice (some ⟨gd2, 0, none⟩) pg cd2) 4 1 pg (List.map Value.bool D2), .row (.slice (some ⟨gs2, 0, none⟩) ns cs2) 3 1 ns (List.map (Value.int .i64) S2), .row (.slice (some ⟨u, 0, none⟩) pg cu) 3 1 pg (List.map (Value.int .i64) (layL y r b o pg)), .row (pv2) 156 2 (List.length Pg2) (List.flatMap entL Pg2), .row (kv2) 156 2 (List.length Rk2) (List.flatMap entL Rk2), .blk g2 #[.int .i64 r, .int .i64 s, .int .i64 b, .int .i64 o, .int .i64 c, .int .i64 y, .int .i64 z, .slice (some ⟨u, 0, none⟩) pg cu, pv2, kv2, .int .i64 (pu2 : Int), .int .i64 (ru2 : Int)] 43, .blk g1 #[.int .i64 r, .int .i64 s, .int .i64 b, .int .i64 o, .int .i64 c, .int .i64 y, .int .i64 z] 25] ∧ (j ≤ nB) ∧ (MapV r s z sn pg ns L2 D2 S2 pu2 ru2) ∧ (DocM pg sn ns L2 D2 S2 Pg2 Rk2) ∧ (Pg2.length ≤ 40 + j) ∧ (Rk2.length ≤ 40 + j)) (fun gh => match gh with | (j, L2, D2, S2, pu2, ru2, Pg2, Rk2, pv2, kv2) => nB - j) (0, L, D, S, pu, ru, Pg, Rk, pv, kv) ⟨_, frm_of, H, (Nat.zero_le _), hV, hd, (by omega), (by omega)⟩ ?_
        clear H
        rintro ⟨j, L2, D2, S2, pu2, ru2, Pg2, Rk2, pv2, kv2⟩ _ v15 ⟨uf3, rfl, H, r1, r2, r3, r4, r5⟩
        have hV2 := r2
        have hd2 := r3
        refine x_seq <| x_region <| x_b H [.v (.bool (decide ((j : Int) < (nB : Int))))] <| x_nil <| x_then <| x_seq ?_
        cases h5 : decide ((j : Int) < (nB : Int))
        · skip
          have h5p := of_decide_eq_false h5
          refine x_f (by kernel_rfl) <| x_exit <| x_then_exit <| x_then_exit <| x_blk_exit <| x_then <| x_seq ?_
          refine x_region <| x_b H [.m] <| x_nil <| x_then <| x_retc <| x_ret (.bool true) (by kernel_rfl) (by kernel_rfl) ?_
          exact ⟨rfl, H.below⟩
        have h5p := of_decide_eq_true h5
        refine x_t (by kernel_rfl) <| x_skipc <| x_then <| x_seq <| x_block <| x_seq <| x_region ?_
        obtain ⟨ge, oe, hae, hcelb⟩ := hB0 (by omega)
        refine x_ixO (t := 36) hae j nB cB 47 3 (oe + j * 3) (by omega) (by omega) (by kernel_rfl) (by kernel_rfl) (by kernel_rfl) rfl (by kernel_rfl) <| x_loadcn (t := 47) ge (oe + j * 3) [.int .i64 ((l2.getD j (0, 0, 0)).1), .int .i64 ((l2.getD j (0, 0, 0)).2.1), .int .i64 ((l2.getD j (0, 0, 0)).2.2)] (hcelb _ H.below j (by omega)) (by kernel_rfl) rfl (by kernel_rfl) (by kernel_rfl) <| z_box H #[.int .i64 0, .int .i64 0, .int .i64 0] 47 (fun v16 g3 H => ?_)
        refine z_store H 0 0 [.int .i64 ((l2.getD j (0, 0, 0)).1), .int .i64 ((l2.getD j (0, 0, 0)).2.1), .int .i64 ((l2.getD j (0, 0, 0)).2.2)] (fun v17 H => ?_)
        refine x_nil <| x_then <| x_seq <| x_region <| x_b H [.m, .n 8 0 12 43, .n 0 0 3 47] ?_
        have hV3 := hV2.step hL (l2.getD j (0, 0, 0))
        have hd3 := hd2.step hL hV2 (l2.getD j (0, 0, 0))
        have hlp := mvPg_len (sn := sn) (pg := pg) (pu := pu2) (D := D2) (Pg := Pg2) (l2.getD j (0, 0, 0))
        have hlr := mvRk_len (r := r) (ns := ns) (ru := ru2) (S := S2) (Rk := Rk2) (l2.getD j (0, 0, 0))
        refine z_call (Hs.useE (S := Value × Value) (A := [.blk p2 #[.int .i64 r, .int .i64 s, .int .i64 b, .int .i64 o, .int .i64 c, .int .i64 y, .int .i64 z, .slice (some ⟨gl2, 0, none⟩) sn cl2, .slice (some ⟨gd2, 0, none⟩) pg cd2, .slice (some ⟨gs2, 0, none⟩) ns cs2, .int .i64 (pu2 : Int), .int .i64 (ru2 : Int)] 118, .row (.slice (some ⟨gl2, 0, none⟩) sn cl2) 3 1 sn (List.map (Value.int .i64) L2), .row (.slice (some ⟨gd2, 0, none⟩) pg cd2) 4 1 pg (List.map Value.bool D2), .row (.slice (some ⟨gs2, 0, none⟩) ns cs2) 3 1 ns (List.map (Value.int .i64) S2), .row (.slice (some ⟨u, 0, none⟩) pg cu) 3 1 pg (List.map (Value.int .i64) (layL y r b o pg)), .row (pv2) 156 2 (List.length Pg2) (List.flatMap entL Pg2), .row (kv2) 156 2 (List.length Rk2) (List.flatMap entL Rk2)]) (R := [.blk g3 #[.int .i64 ((l2.getD j (0, 0, 0)).1), .int .i64 ((l2.getD j (0, 0, 0)).2.1), .int .i64 ((l2.getD j (0, 0, 0)).2.2)] 47, .blk g2 #[.int .i64 r, .int .i64 s, .int .i64 b, .int .i64 o, .int .i64 c, .int .i64 y, .int .i64 z, .slice (some ⟨u, 0, none⟩) pg cu, pv2, kv2, .int .i64 (pu2 : Int), .int .i64 (ru2 : Int)] 43, .blk g1 #[.int .i64 r, .int .i64 s, .int .i64 b, .int .i64 o, .int .i64 c, .int .i64 y, .int .i64 z] 25]) (fun zv => [.blk p2 #[.int .i64 r, .int .i64 s, .int .i64 b, .int .i64 o, .int .i64 c, .int .i64 y, .int .i64 z, .slice (some ⟨gl2, 0, none⟩) sn cl2, .slice (some ⟨gd2, 0, none⟩) pg cd2, .slice (some ⟨gs2, 0, none⟩) ns cs2, .int .i64 (((mvPu z pu2 (l2.getD j (0, 0, 0))) : Nat) : Int), .int .i64 (((mvRu s ru2 (l2.getD j (0, 0, 0))) : Nat) : Int)] 118, .row (.slice (some ⟨gl2, 0, none⟩) sn cl2) 3 1 sn (List.map (Value.int .i64) (mvL sn pg pu2 D2 L2 (l2.getD j (0, 0, 0)))), .row (.slice (some ⟨gd2, 0, none⟩) pg cd2) 4 1 pg (List.map Value.bool (mvD sn pg pu2 D2 (l2.getD j (0, 0, 0)))), .row (.slice (some ⟨gs2, 0, none⟩) ns cs2) 3 1 ns (List.map (Value.int .i64) (mvS r ns ru2 S2 (l2.getD j (0, 0, 0)))), .row (.slice (some ⟨u, 0, none⟩) pg cu) 3 1 pg (List.map (Value.int .i64) (layL y r b o pg)), .row (zv.1) 156 2 (List.length (mvPg sn pg pu2 D2 Pg2 (l2.getD j (0, 0, 0)))) (List.flatMap entL (mvPg sn pg pu2 D2 Pg2 (l2.getD j (0, 0, 0)))), .row (zv.2) 156 2 (List.length (mvRk r ns ru2 S2 Rk2 (l2.getD j (0, 0, 0)))) (List.flatMap entL (mvRk r ns ru2 S2 Rk2 (l2.getD j (0, 0, 0))))]) (fun zv => .tuple #[.agg #[.int .i64 r, .int .i64 s, .int .i64 b, .int .i64 o, .int .i64 c, .int .i64 y, .int .i64 z, .slice (some ⟨u, 0, none⟩) pg cu, zv.1, zv.2, .int .i64 (((mvPu z pu2 (l2.getD j (0, 0, 0))) : Nat) : Int), .int .i64 (((mvRu s ru2 (l2.getD j (0, 0, 0))) : Nat) : Int)], .bool true]) (H.pick [1, 2, 3, 4, 5, 6, 7, 0, 8, 9] _ (by decide) (by kernel_rfl)) (fun h => rstep hL hV2 hd2 (by omega) (by omega) (l2.getD j (0, 0, 0)) (hrg2 j (by omega)) _ h)) ?_
        rintro _ v18 ⟨⟨us3, us4⟩, rfl, H'⟩
        refine ⟨_, rfl, ?_⟩
        clear H
        have H := H'
        clear H'
        refine x_b H [.m, .m, .m] ?_
        have h6o := H.rowOne 5 rfl
        have h7o := H.rowOne 6 rfl
        refine z_store H 8 0 [.int .i64 r, .int .i64 s, .int .i64 b, .int .i64 o, .int .i64 c, .int .i64 y, .int .i64 z, .slice (some ⟨u, 0, none⟩) pg cu, us3, us4, .int .i64 (((mvPu z pu2 (l2.getD j (0, 0, 0))) : Nat) : Int), .int .i64 (((mvRu s ru2 (l2.getD j (0, 0, 0))) : Nat) : Int)] (fun v19 H => ?_) (h1 := (by simp only [List.all_cons, List.all_nil, h6o, h7o, Bool.and_true, Bool.true_and] <;> rfl))
        refine x_b H [.m] <| x_nil <| x_then <| x_seq <| x_region <| x_b H [.m, .m, .m, .m, .n 8 0 12 43] <| z_callH (v := .bool true) (H.useI [0, 1, 2, 3, 4, 5, 6] (fun h => rsame hL hV3 hd3 (by omega) (by omega) _ h)) fun v20 H => ?_
        refine x_b H [.m, .m] <| x_nil <| x_then <| x_f (by kernel_rfl) <| x_skipc <| x_blk <| x_then ?_
        refine x_region <| z_ar ((j : Int) + 1) <| x_b H [.m] <| x_nil <| x_then ?_
        replace H := H.pk [0, 1, 2, 3, 4, 5, 6, 8, 9]
        exact ⟨(j + 1, (mvL sn pg pu2 D2 L2 (l2.getD j (0, 0, 0))), (mvD sn pg pu2 D2 (l2.getD j (0, 0, 0))), (mvS r ns ru2 S2 (l2.getD j (0, 0, 0))), (mvPu z pu2 (l2.getD j (0, 0, 0))), (mvRu s ru2 (l2.getD j (0, 0, 0))), (mvPg sn pg pu2 D2 Pg2 (l2.getD j (0, 0, 0))), (mvRk r ns ru2 S2 Rk2 (l2.getD j (0, 0, 0))), us3, us4), (by dsimp only; omega), _, frm_of, H, (by omega), hV3, hd3, (by omega), (by omega)⟩
      have h4p := of_decide_eq_true h4
      refine x_t (by kernel_rfl) <| x_skipc <| x_then <| x_seq <| x_block <| x_seq <| x_region ?_
      obtain ⟨ga, oa, had, hcell⟩ := hA (by omega)
      refine x_ixO (t := 36) had k nA cA 47 3 (oa + k * 3) (by omega) (by omega) (by kernel_rfl) (by kernel_rfl) (by kernel_rfl) rfl (by kernel_rfl) <| x_loadcn (t := 47) ga (oa + k * 3) [.int .i64 ((l.getD k (0, 0, 0)).1), .int .i64 ((l.getD k (0, 0, 0)).2.1), .int .i64 ((l.getD k (0, 0, 0)).2.2)] (hcell _ H.below k (by omega)) (by kernel_rfl) rfl (by kernel_rfl) (by kernel_rfl) <| z_box H #[.int .i64 0, .int .i64 0, .int .i64 0] 47 (fun v21 g4 H => ?_)
      refine z_store H 0 0 [.int .i64 ((l.getD k (0, 0, 0)).1), .int .i64 ((l.getD k (0, 0, 0)).2.1), .int .i64 ((l.getD k (0, 0, 0)).2.2)] (fun v22 H => ?_)
      refine x_nil <| x_then <| x_seq <| x_region <| x_b H [.m, .n 8 0 12 43, .n 0 0 3 47] ?_
      have hV1 := hV.step hL (l.getD k (0, 0, 0))
      have hd1 := hd.step hL hV (l.getD k (0, 0, 0))
      have hlp := mvPg_len (sn := sn) (pg := pg) (pu := pu) (D := D) (Pg := Pg) (l.getD k (0, 0, 0))
      have hlr := mvRk_len (r := r) (ns := ns) (ru := ru) (S := S) (Rk := Rk) (l.getD k (0, 0, 0))
      refine z_call (Hs.useE (S := Value × Value) (A := [.blk p #[.int .i64 r, .int .i64 s, .int .i64 b, .int .i64 o, .int .i64 c, .int .i64 y, .int .i64 z, .slice (some ⟨gl, 0, none⟩) sn cl, .slice (some ⟨gd, 0, none⟩) pg cd, .slice (some ⟨gs, 0, none⟩) ns cs, .int .i64 (pu : Int), .int .i64 (ru : Int)] 118, .row (.slice (some ⟨gl, 0, none⟩) sn cl) 3 1 sn (List.map (Value.int .i64) L), .row (.slice (some ⟨gd, 0, none⟩) pg cd) 4 1 pg (List.map Value.bool D), .row (.slice (some ⟨gs, 0, none⟩) ns cs) 3 1 ns (List.map (Value.int .i64) S), .row (.slice (some ⟨u, 0, none⟩) pg cu) 3 1 pg (List.map (Value.int .i64) (layL y r b o pg)), .row (pv) 156 2 (List.length Pg) (List.flatMap entL Pg), .row (kv) 156 2 (List.length Rk) (List.flatMap entL Rk)]) (R := [.blk g4 #[.int .i64 ((l.getD k (0, 0, 0)).1), .int .i64 ((l.getD k (0, 0, 0)).2.1), .int .i64 ((l.getD k (0, 0, 0)).2.2)] 47, .blk g2 #[.int .i64 r, .int .i64 s, .int .i64 b, .int .i64 o, .int .i64 c, .int .i64 y, .int .i64 z, .slice (some ⟨u, 0, none⟩) pg cu, pv, kv, .int .i64 (pu : Int), .int .i64 (ru : Int)] 43, .blk g1 #[.int .i64 r, .int .i64 s, .int .i64 b, .int .i64 o, .int .i64 c, .int .i64 y, .int .i64 z] 25]) (fun zv => [.blk p #[.int .i64 r, .int .i64 s, .int .i64 b, .int .i64 o, .int .i64 c, .int .i64 y, .int .i64 z, .slice (some ⟨gl, 0, none⟩) sn cl, .slice (some ⟨gd, 0, none⟩) pg cd, .slice (some ⟨gs, 0, none⟩) ns cs, .int .i64 (((mvPu z pu (l.getD k (0, 0, 0))) : Nat) : Int), .int .i64 (((mvRu s ru (l.getD k (0, 0, 0))) : Nat) : Int)] 118, .row (.slice (some ⟨gl, 0, none⟩) sn cl) 3 1 sn (List.map (Value.int .i64) (mvL sn pg pu D L (l.getD k (0, 0, 0)))), .row (.slice (some ⟨gd, 0, none⟩) pg cd) 4 1 pg (List.map Value.bool (mvD sn pg pu D (l.getD k (0, 0, 0)))), .row (.slice (some ⟨gs, 0, none⟩) ns cs) 3 1 ns (List.map (Value.int .i64) (mvS r ns ru S (l.getD k (0, 0, 0)))), .row (.slice (some ⟨u, 0, none⟩) pg cu) 3 1 pg (List.map (Value.int .i64) (layL y r b o pg)), .row (zv.1) 156 2 (List.length (mvPg sn pg pu D Pg (l.getD k (0, 0, 0)))) (List.flatMap entL (mvPg sn pg pu D Pg (l.getD k (0, 0, 0)))), .row (zv.2) 156 2 (List.length (mvRk r ns ru S Rk (l.getD k (0, 0, 0)))) (List.flatMap entL (mvRk r ns ru S Rk (l.getD k (0, 0, 0))))]) (fun zv => .tuple #[.agg #[.int .i64 r, .int .i64 s, .int .i64 b, .int .i64 o, .int .i64 c, .int .i64 y, .int .i64 z, .slice (some ⟨u, 0, none⟩) pg cu, zv.1, zv.2, .int .i64 (((mvPu z pu (l.getD k (0, 0, 0))) : Nat) : Int), .int .i64 (((mvRu s ru (l.getD k (0, 0, 0))) : Nat) : Int)], .bool true]) (H.pick [1, 2, 3, 4, 5, 6, 7, 0, 8, 9] _ (by decide) (by kernel_rfl)) (fun h => rstep hL hV hd (by omega) (by omega) (l.getD k (0, 0, 0)) (hrg k (by omega)) _ h)) ?_
      rintro _ v23 ⟨⟨us1, us2⟩, rfl, H'⟩
      refine ⟨_, rfl, ?_⟩
      clear H
      have H := H'
      clear H'
      refine x_b H [.m, .m, .m] ?_
      have h8o := H.rowOne 5 rfl
      have h9o := H.rowOne 6 rfl
      refine z_store H 8 0 [.int .i64 r, .int .i64 s, .int .i64 b, .int .i64 o, .int .i64 c, .int .i64 y, .int .i64 z, .slice (some ⟨u, 0, none⟩) pg cu, us1, us2, .int .i64 (((mvPu z pu (l.getD k (0, 0, 0))) : Nat) : Int), .int .i64 (((mvRu s ru (l.getD k (0, 0, 0))) : Nat) : Int)] (fun v24 H => ?_) (h1 := (by simp only [List.all_cons, List.all_nil, h8o, h9o, Bool.and_true, Bool.true_and] <;> rfl))
      refine x_b H [.m] <| x_nil <| x_then <| x_seq <| x_region <| x_b H [.m, .m] <| x_nil ?_
      refine x_then <| x_f (by kernel_rfl) <| x_skipc <| x_blk <| x_then <| x_region <| z_ar ((k : Int) + 1) ?_
      refine x_b H [.m] <| x_nil <| x_then ?_
      replace H := H.pk [0, 1, 2, 3, 4, 5, 6, 8, 9]
      exact ⟨(k + 1, (mvL sn pg pu D L (l.getD k (0, 0, 0))), (mvD sn pg pu D (l.getD k (0, 0, 0))), (mvS r ns ru S (l.getD k (0, 0, 0))), (mvPu z pu (l.getD k (0, 0, 0))), (mvRu s ru (l.getD k (0, 0, 0))), (mvPg sn pg pu D Pg (l.getD k (0, 0, 0))), (mvRk r ns ru S Rk (l.getD k (0, 0, 0))), us1, us2), (by dsimp only; omega), _, frm_of, H, (by omega), hV1, hd1, (by omega), (by omega), (hv.step hL hV (l.getD k (0, 0, 0)))⟩
    have h3p := of_decide_eq_true h3
    refine x_t (by kernel_rfl) <| x_seq <| x_region <| x_b H [.m] <| x_nil <| x_then <| x_retc ?_
    refine x_then_ret <| x_ret (.bool true) (by kernel_rfl) (by kernel_rfl) ?_
    exact ⟨rfl, H.below⟩
  have h2p := of_decide_eq_true h2
  refine x_b H [.k, .k, .k, .m] <| x_nil <| x_then <| x_t (by kernel_rfl) <| x_seq <| x_region <| x_b H [.m] ?_
  refine x_nil <| x_then <| x_retc <| x_then_ret <| x_ret (.bool true) (by kernel_rfl) (by kernel_rfl) ?_
  exact ⟨rfl, H.below⟩

end Go.Proofs.Ytpmnnijjohlloaa
