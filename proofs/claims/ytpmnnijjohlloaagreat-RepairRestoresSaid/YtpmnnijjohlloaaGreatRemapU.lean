/- Contracts of the document's map. -/
import Derived.Test.YtpmnnijjohlloaaGreatRemapV
import Derived.Test.YtpmnnijjohlloaaGreatPxG
import Derived.Test.YtpmnnijjohlloaaGreatPxZ
namespace Go.Proofs.YtpmnnijjohlloaaGreat
open Go Go.RowKit
set_option linter.unusedVariables false
set_option linter.unusedSimpArgs false
set_option maxRecDepth 100000 in
set_option maxHeartbeats 4000000 in
theorem F19_s {g cap : Nat} (l : List Ent) (q : Int) (hn : l.length ≤ 4096) (w0 : World) (hR : Ro w0 [.row (.slice (some ⟨g, 0, none⟩) (List.length l) cap) 142 2 (List.length l) (List.flatMap entL l)]) :
    Calls Tryz.prog 74 #[.slice (some ⟨g, 0, none⟩) (List.length l) cap, .int .i64 q] w0 fun e w' => e = .returned (.int .i64 (fnd l q)) ∧ Below w0.heap.size w0 w' := by
  refine z_enter Tryz.func74 rfl ?_
  have H := Hs.nil w0
  have R0 := hR
  refine x_seq <| x_region <| x_b H [.m] <| x_nil <| x_then <| x_seq <| x_seq ?_
  refine x_region <| x_b H [.m] <| x_nil <| x_then <| x_block <| x_loop (G := Nat) (fun (k : Nat) a w' => ∃ uf1 : Nat → Value, a = frm 24 uf1 [(0, .slice (some ⟨g, 0, none⟩) (List.length l) cap), (1, .int .i64 q), (5, .int .i64 (k : Int))] [] ∧ Hs [] w0 w' [] ∧ (k ≤ l.length) ∧ (∀ j, j < k → ¬ (l.getD j (0, 0)).1 = q)) (fun (k : Nat) => l.length - k) 0 ⟨_, frm_of, H, (Nat.zero_le _), (fun j hj => absurd hj (Nat.not_lt_zero _))⟩ ?_
  clear H
  rintro k _ v1 ⟨uf1, rfl, H, r1, r2⟩
  refine x_seq <| x_seq <| x_region <| x_b H [.m, .m, .m, .v (.bool (decide ((k : Int) < (((List.length l) : Nat) : Int))))] <| x_nil <| x_then ?_
  cases h1 : decide ((k : Int) < (((List.length l) : Nat) : Int))
  · skip
    have h1p := of_decide_eq_false h1
    refine x_f (by kernel_rfl) <| x_exit <| x_then_exit <| x_then_exit <| x_blk_exit <| x_then <| x_seq ?_
    refine x_region <| x_b H [.m] <| x_nil <| x_then <| x_retc <| x_ret (.int .i64 (-1)) (by kernel_rfl) (by kernel_rfl) ?_
    exact ⟨by rw [fnd_miss (fun j hj => r2 j (by omega))], H.below⟩
  have h1p := of_decide_eq_true h1
  refine x_t (by kernel_rfl) <| x_skipc <| x_then <| x_seq <| x_block <| x_seq <| x_region ?_
  refine x_b H [.m, .m] <| x_ix (t := 32) g 0 k (List.length l) cap 142 2 (k * 2) (by omega) (by omega) (by kernel_rfl) (by kernel_rfl) (by kernel_rfl) rfl (by kernel_rfl) <| x_b H [.m] <| x_loadc g (k * 2) (.int .i64 ((l.getD k (0, 0)).1)) (((H.ro R0).rowCells 0 rfl (k * 2) (flatAt entLen (0, 0) _ (by omega))) 0 _ rfl) (by kernel_rfl) rfl (by kernel_rfl) <| x_b H [.m, .v (.bool (decide (((l.getD k (0, 0)).1) = q)))] <| x_nil <| x_then ?_
  cases h2 : decide (((l.getD k (0, 0)).1) = q)
  · skip
    have h2p := of_decide_eq_false h2
    refine x_f (by kernel_rfl) <| x_skipc <| x_blk <| x_then <| x_region <| x_b H [.m] <| z_ar ((k : Int) + 1) ?_
    refine x_b H [.m] <| x_nil <| x_then ?_
    exact ⟨(k + 1), (by omega), _, frm_of, H, (by omega), (fun j hj => by by_cases e : j = k; (subst e; exact of_decide_eq_false h2); exact r2 j (by omega))⟩
  have h2p := of_decide_eq_true h2
  refine x_t (by kernel_rfl) <| x_seq <| x_region <| x_b H [.m, .m] <| x_ix (t := 32) g 0 k (List.length l) cap 142 2 (k * 2) (by omega) (by omega) (by kernel_rfl) (by kernel_rfl) (by kernel_rfl) rfl (by kernel_rfl) <| x_b H [.m] <| x_loadc g (k * 2 + 1) (.int .i64 ((l.getD k (0, 0)).2)) (((H.ro R0).rowCells 0 rfl (k * 2) (flatAt entLen (0, 0) _ (by omega))) 1 _ rfl) (by kernel_rfl) rfl (by kernel_rfl) ?_
  refine x_b H [.m] <| x_nil <| x_then <| x_retc <| x_blk_ret <| x_then_ret <| x_then_ret ?_
  refine x_blk_ret <| x_then_ret <| x_ret (.int .i64 ((l.getD k (0, 0)).2)) (by kernel_rfl) (by kernel_rfl) ?_
  have e := fIx_hit (show k < l.length by omega) r2 (of_decide_eq_true h2)
  exact ⟨by unfold fnd; rw [e, if_pos (by omega)], H.below⟩
set_option maxRecDepth 100000 in
set_option maxHeartbeats 4000000 in
theorem F19_n (q : Int) (w0 : World) :
    Calls Tryz.prog 74 #[.slice none 0 0, .int .i64 q] w0 fun e w' => e = .returned (.int .i64 (-1)) ∧ Below w0.heap.size w0 w' := by
  refine z_enter Tryz.func74 rfl ?_
  have H := Hs.nil w0
  refine x_seq <| x_region <| x_b H [.m] <| x_nil <| x_then <| x_seq <| x_seq ?_
  refine x_region <| x_b H [.m] <| x_nil <| x_then <| x_block <| x_loop (G := Unit) (fun (_ : Unit) a w' => ∃ uf1 : Nat → Value, a = frm 24 uf1 [(0, .slice none 0 0), (1, .int .i64 q), (5, .int .i64 0)] [] ∧ Hs [] w0 w' []) (fun _ => 0) () ⟨_, frm_of, H⟩ ?_
  clear H
  rintro _ _ v1 ⟨uf1, rfl, H⟩
  refine x_seq <| x_seq <| x_region <| x_b H [.m, .m, .m, .m] <| x_nil <| x_then <| x_f (by kernel_rfl) ?_
  refine x_exit <| x_then_exit <| x_then_exit <| x_blk_exit <| x_then <| x_seq <| x_region ?_
  refine x_b H [.m] <| x_nil <| x_then <| x_retc <| x_ret (.int .i64 (-1)) (by kernel_rfl) (by kernel_rfl) ?_
  exact ⟨rfl, H.below⟩
theorem Find19 {v : Value} (l : List Ent) (q : Int) (hn : l.length ≤ 4096) (w0 : World) (hR : Ro w0 [.row (v) 142 2 (List.length l) (List.flatMap entL l)]) : Calls Tryz.prog 74 #[v, .int .i64 q] w0 fun e w' => e = .returned (.int .i64 (fnd l q)) ∧ Below w0.heap.size w0 w' := by
  rcases rowForm (hR 0 _ rfl : w0.ownsRow 0 _ 2 v _ _) with ⟨rfl, h0⟩ | ⟨g, cap, rfl, hc, _⟩
  · rw [fnd_miss (fun j hj => by omega)]; exact F19_n q w0
  · exact F19_s l q hn w0 hR
set_option maxRecDepth 100000 in
set_option maxHeartbeats 4000000 in
theorem Dead19 {r s b o c y z : Int} {pg sn ns : Nat} (hL : Lay r s b o c y z pg sn ns) {L : List Int} {D : List Bool} {S : List Int} {Pg Rk : List Ent} {pu ru : Nat} {lv pv kv : Value} (hd : DocM pg sn ns L D S Pg Rk) (hp8 : Pg.length ≤ 4000) (hr8 : Rk.length ≤ 4000) (q : Nat) (hq : q < pg) (w0 : World) (hR : Ro w0 [.row (pv) 142 2 (List.length Pg) (List.flatMap entL Pg)]) :
    Calls Tryz.prog 34 #[.agg #[.int .i64 r, .int .i64 s, .int .i64 b, .int .i64 o, .int .i64 c, .int .i64 y, .int .i64 z, lv, pv, kv, .int .i64 ((pu : Nat) : Int), .int .i64 ((ru : Nat) : Int)], .int .i64 ((q : Nat) : Int)] w0 fun e w' => e = .returned (.bool (D.getD q false)) ∧ Below w0.heap.size w0 w' := by
  refine z_enter Tryz.func34 rfl ?_
  have H := Hs.nil w0
  have R0 := hR
  refine x_seq <| x_region <| z_box H #[.int .i64 r, .int .i64 s, .int .i64 b, .int .i64 o, .int .i64 c, .int .i64 y, .int .i64 z, lv, pv, kv, .int .i64 (pu : Int), .int .i64 (ru : Int)] 34 (fun v1 g1 H => ?_)
  refine x_b H [.m] <| x_nil <| x_then <| x_seq <| x_region <| x_b H [.m, .l 0 8, .m] <| z_callB (v := .int .i64 (fnd Pg (q : Int))) H (Find19 Pg (q : Int) (by omega) _ (H.ro R0)) fun v2 H => ?_
  refine x_b H [.v (.bool (decide (0 ≤ (fnd Pg (q : Int))))), .v (.bool (decide (0 ≤ (fnd Pg (q : Int)))))] <| x_nil <| x_then <| x_retc <| x_ret (.bool (decide (0 ≤ (fnd Pg (q : Int))))) (by kernel_rfl) (by kernel_rfl) ?_
  exact ⟨by rw [hd.dd q hq], H.below⟩
set_option maxRecDepth 100000 in
set_option maxHeartbeats 4000000 in
theorem Spare19 {r s b o c y z : Int} {pg sn ns : Nat} (hL : Lay r s b o c y z pg sn ns) {L : List Int} {D : List Bool} {S : List Int} {Pg Rk : List Ent} {pu ru : Nat} {lv pv kv : Value} (hd : DocM pg sn ns L D S Pg Rk) (hp8 : Pg.length ≤ 4000) (hr8 : Rk.length ≤ 4000) (q : Nat) (hq : q < ns) (w0 : World) (hR : Ro w0 [.row (kv) 142 2 (List.length Rk) (List.flatMap entL Rk)]) :
    Calls Tryz.prog 72 #[.agg #[.int .i64 r, .int .i64 s, .int .i64 b, .int .i64 o, .int .i64 c, .int .i64 y, .int .i64 z, lv, pv, kv, .int .i64 ((pu : Nat) : Int), .int .i64 ((ru : Nat) : Int)], .int .i64 ((q : Nat) : Int)] w0 fun e w' => e = .returned (.int .i64 (S.getD q 0)) ∧ Below w0.heap.size w0 w' := by
  refine z_enter Tryz.func72 rfl ?_
  have H := Hs.nil w0
  have R0 := hR
  refine x_seq <| x_region <| z_box H #[.int .i64 r, .int .i64 s, .int .i64 b, .int .i64 o, .int .i64 c, .int .i64 y, .int .i64 z, lv, pv, kv, .int .i64 (pu : Int), .int .i64 (ru : Int)] 34 (fun v1 g1 H => ?_)
  refine x_b H [.m] <| x_nil <| x_then <| x_seq <| x_region <| x_b H [.m, .l 0 9, .m] <| z_callB (v := .int .i64 (fnd Rk (q : Int))) H (Find19 Rk (q : Int) (by omega) _ (H.ro R0)) fun v2 H => ?_
  refine x_b H [.m] <| x_nil <| x_then <| x_retc <| x_ret (.int .i64 (fnd Rk (q : Int))) (by kernel_rfl) (by kernel_rfl) ?_
  exact ⟨by rw [hd.sp q hq], H.below⟩
set_option maxRecDepth 100000 in
set_option maxHeartbeats 4000000 in
theorem Lives19 {r s b o c y z : Int} {pg sn ns : Nat} (hL : Lay r s b o c y z pg sn ns) {L : List Int} {D : List Bool} {S : List Int} {Pg Rk : List Ent} {pu ru : Nat} {lv pv kv : Value} (hd : DocM pg sn ns L D S Pg Rk) (hp8 : Pg.length ≤ 4000) (hr8 : Rk.length ≤ 4000) (k : Nat) (hk : k < sn) (w0 : World) (hR : Ro w0 [.row (pv) 142 2 (List.length Pg) (List.flatMap entL Pg)]) :
    Calls Tryz.prog 38 #[.agg #[.int .i64 r, .int .i64 s, .int .i64 b, .int .i64 o, .int .i64 c, .int .i64 y, .int .i64 z, lv, pv, kv, .int .i64 ((pu : Nat) : Int), .int .i64 ((ru : Nat) : Int)], .int .i64 ((k : Nat) : Int)] w0 fun e w' => e = .returned (.int .i64 (L.getD k 0)) ∧ Below w0.heap.size w0 w' := by
  refine z_enter Tryz.func38 rfl ?_
  have H := Hs.nil w0
  have R0 := hR
  refine x_seq <| x_region <| z_box H #[.int .i64 r, .int .i64 s, .int .i64 b, .int .i64 o, .int .i64 c, .int .i64 y, .int .i64 z, lv, pv, kv, .int .i64 (pu : Int), .int .i64 (ru : Int)] 34 (fun v1 g1 H => ?_)
  refine x_b H [.m] <| x_nil <| x_then <| x_seq <| x_seq <| x_region <| x_b H [.m] ?_
  refine x_nil <| x_then <| x_block <| x_loop (G := Nat × Int) (fun gh a w' => match gh with | (i, q) => ∃ uf1 : Nat → Value, a = frm 23 uf1 [(1, .int .i64 q), (2, .pointer (some ⟨g1, 0, none⟩)), (5, .int .i64 (i : Int))] [] ∧ Hs [] w0 w' [.blk g1 #[.int .i64 r, .int .i64 s, .int .i64 b, .int .i64 o, .int .i64 c, .int .i64 y, .int .i64 z, lv, pv, kv, .int .i64 (pu : Int), .int .i64 (ru : Int)] 34] ∧ (chase Pg q = chase Pg (k : Int)) ∧ (i ≤ fIx Pg q) ∧ (i ≤ Pg.length + 1)) (fun gh => match gh with | (i, q) => Pg.length + 1 - i) (0, (k : Int)) ⟨_, frm_of, H, rfl, (Nat.zero_le _), (Nat.zero_le _)⟩ ?_
  clear H
  rintro ⟨i, q⟩ _ v2 ⟨uf1, rfl, H, r1, r2, r3⟩
  have hle := fIx_le Pg q
  have hge := fnd_ge hd.nn q
  have hnn := fnd_nn hd.nn (p := q)
  refine x_seq <| x_seq <| x_region <| x_b H [.m, .m, .l 0 8] <| x_val (.int .i64 (((List.length Pg) : Nat) : Int)) (by kernel_rfl) rfl (Eq.trans (by kernel_rfl) (lenForm (P := Tryz.prog) (t := 32) (tt := 3) (rowForm (R0 0 _ rfl)) (by kernel_rfl))) <| x_b H [.v (.bool (decide ((i : Int) ≤ (((List.length Pg) : Nat) : Int))))] <| x_nil ?_
  refine x_then ?_
  cases h1 : decide ((i : Int) ≤ (((List.length Pg) : Nat) : Int))
  · skip
    have h1p := of_decide_eq_false h1
    refine x_f (by kernel_rfl) <| x_exit <| x_then_exit <| x_then_exit <| x_blk_exit <| x_then <| x_seq ?_
    refine x_region <| x_b H [.m, .m] <| x_nil <| x_then <| x_retc <| x_ret (.int .i64 q) (by kernel_rfl) (by kernel_rfl) ?_
    exfalso; omega
  have h1p := of_decide_eq_true h1
  refine x_t (by kernel_rfl) <| x_skipc <| x_then <| x_seq <| x_block <| x_seq <| x_region ?_
  refine x_b H [.m, .l 0 8, .m] <| z_callB (v := .int .i64 (fnd Pg q)) H (Find19 Pg q (by omega) _ (H.ro R0)) fun v3 H => x_b H [.m] <| x_nil <| x_then <| x_seq <| x_seq ?_
  refine x_region <| x_b H [.m, .v (.bool (decide ((fnd Pg q) < 0)))] <| x_nil <| x_then ?_
  cases h2 : decide ((fnd Pg q) < 0)
  · skip
    have h2p := of_decide_eq_false h2
    refine x_f (by kernel_rfl) <| x_skipc <| x_then <| x_region <| x_b H [.m, .m] <| x_nil <| x_blk ?_
    refine x_then <| x_region <| x_b H [.m] <| z_ar ((i : Int) + 1) <| x_b H [.m] <| x_nil <| x_then ?_
    have hcs := chase_step hd.ok (p := q) (hnn.1 (by omega))
    exact ⟨(i + 1, (fnd Pg q)), (by dsimp only; omega), _, frm_of, H, (hcs.1.trans r1), (by have := hcs.2; omega), (by omega)⟩
  have h2p := of_decide_eq_true h2
  refine x_t (by kernel_rfl) <| x_seq <| x_region <| x_b H [.m, .m] <| x_nil <| x_then <| x_retc ?_
  refine x_then_ret <| x_blk_ret <| x_then_ret <| x_then_ret <| x_blk_ret <| x_then_ret <| x_ret (.int .i64 q) (by kernel_rfl) (by kernel_rfl) ?_
  have hz : ¬ fIx Pg q < Pg.length := fun z => by have := hnn.2 z; omega
  exact ⟨by rw [hd.lv k hk, ← r1, chase_end hz], H.below⟩
set_option maxRecDepth 100000 in
set_option maxHeartbeats 4000000 in
theorem Lies19_s {r s b o c y z : Int} {pg sn ns : Nat} (hL : Lay r s b o c y z pg sn ns) {L : List Int} {D : List Bool} {S : List Int} {Pg Rk : List Ent} {pu ru : Nat} {pv kv : Value} (hd : DocM pg sn ns L D S Pg Rk) (hp8 : Pg.length ≤ 4000) (hr8 : Rk.length ≤ 4000) {gy cy : Nat} (k : Nat) (hk : k < pg) (w0 : World) (hR : Ro w0 [.row (.slice (some ⟨gy, 0, none⟩) pg cy) 3 1 pg (List.map (Value.int .i64) (layL y r b o pg)), .row (kv) 142 2 (List.length Rk) (List.flatMap entL Rk)]) :
    Calls Tryz.prog 32 #[.agg #[.int .i64 r, .int .i64 s, .int .i64 b, .int .i64 o, .int .i64 c, .int .i64 y, .int .i64 z, .slice (some ⟨gy, 0, none⟩) pg cy, pv, kv, .int .i64 ((pu : Nat) : Int), .int .i64 ((ru : Nat) : Int)], .int .i64 ((k : Nat) : Int)] w0 fun e w' => e = .returned (.int .i64 (idxP y r b o S ((k : Nat) : Int))) ∧ Below w0.heap.size w0 w' := by
  refine z_enter Tryz.func32 rfl ?_
  have H := Hs.nil w0
  have R0 := hR
  have hg := geom_of hL
  have hns := hL.hns
  have hll := layL_len y r b o pg
  obtain ⟨b1, b2, b3⟩ := pgAt_bd y (k : Int) hg
  obtain ⟨q8, hq9⟩ := Int.eq_ofNat_of_zero_le (show 0 ≤ (pgAt y r b o (k : Int)) / 16384 by omega)
  have hq8 : q8 < ns := by omega
  have r8 := hL.r8
  have hsp := hd.sp q8 hq8
  have hge := fnd_ge hd.rn (q8 : Int)
  have hub := fnd_ub (B := 64) (by decide) (fun e he => (hd.rk e he).2.2) (q8 : Int)
  refine x_seq <| x_region <| z_box H #[.int .i64 r, .int .i64 s, .int .i64 b, .int .i64 o, .int .i64 c, .int .i64 y, .int .i64 z, .slice (some ⟨gy, 0, none⟩) pg cy, pv, kv, .int .i64 (pu : Int), .int .i64 (ru : Int)] 34 (fun v1 g1 H => ?_)
  refine x_b H [.m] <| x_nil <| x_then <| x_seq <| x_region <| x_b H [.m, .l 0 7, .m] <| x_ix (t := 31) gy 0 k pg cy 3 1 k (by omega) (by omega) (by kernel_rfl) (by kernel_rfl) (by kernel_rfl) rfl (by kernel_rfl) ?_
  refine x_loadc gy k (.int .i64 (pgAt y r b o (k : Int))) (cell_as ((H.ro R0).rowCell 0 rfl k (mapAt 0 (by omega))) (by rw [layL_get _ _ _ _ _ _ hk])) (by kernel_rfl) rfl (by kernel_rfl) <| x_b H [.m] <| x_nil <| x_then <| x_seq <| x_region <| x_b H [.n 0 0 12 34, .m] ?_
  refine x_eq (.int .i64 ((pgAt y r b o (k : Int)) / 16384)) (e_quo (pgAt y r b o (k : Int)) 16384 (by omega) (by omega) (by omega)) (by kernel_rfl) rfl (by kernel_rfl) <| z_callB (v := .int .i64 (S.getD q8 0)) H (by have h := Spare19 (pu := pu) (ru := ru) (lv := .slice (some ⟨gy, 0, none⟩) pg cy) (pv := pv) hL hd hp8 hr8 q8 hq8 _ ((H.ro R0).pick [1] [.row (kv) 142 2 (List.length Rk) (List.flatMap entL Rk)] (by kernel_rfl)); rw [← hq9] at h; exact h) fun v2 H => x_b H [.m] <| x_nil <| x_then <| x_seq <| x_seq ?_
  refine x_region <| x_b H [.m, .v (.bool (decide (0 ≤ (S.getD q8 0))))] <| x_nil <| x_then ?_
  cases h1 : decide (0 ≤ (S.getD q8 0))
  · skip
    have h1p := of_decide_eq_false h1
    refine x_f (by kernel_rfl) <| x_skipc <| x_then <| x_seq <| x_region <| x_b H [.m, .m] <| x_nil ?_
    refine x_then <| x_retc <| x_ret (.int .i64 (pgAt y r b o (k : Int))) (by kernel_rfl) (by kernel_rfl) ?_
    exact ⟨by unfold idxP; rw [hq9, Int.toNat_natCast]; split <;> first | (congr 2; omega) | (congr 2), H.below⟩
  have h1p := of_decide_eq_true h1
  refine x_t (by kernel_rfl) <| x_seq <| x_region <| x_b H [.m] <| x_eq (.int .i64 ((pgAt y r b o (k : Int)) % 16384)) (e_rem (pgAt y r b o (k : Int)) 16384 (by omega)) (by kernel_rfl) rfl (by kernel_rfl) <| x_b H [.m] <| z_ar (16384 * (S.getD q8 0)) ?_
  refine z_ar (((pgAt y r b o (k : Int)) % 16384) + (16384 * (S.getD q8 0))) <| x_b H [.m] <| x_nil <| x_then <| x_retc <| x_then_ret <| x_ret (.int .i64 (((pgAt y r b o (k : Int)) % 16384) + (16384 * (S.getD q8 0)))) (by kernel_rfl) (by kernel_rfl) ?_
  exact ⟨by unfold idxP; rw [hq9, Int.toNat_natCast]; split <;> first | (congr 2; omega) | (congr 2), H.below⟩
theorem Lies19 {r s b o c y z : Int} {pg sn ns : Nat} (hL : Lay r s b o c y z pg sn ns) {L : List Int} {D : List Bool} {S : List Int} {Pg Rk : List Ent} {pu ru : Nat} {lv pv kv : Value} (hd : DocM pg sn ns L D S Pg Rk) (hp8 : Pg.length ≤ 4000) (hr8 : Rk.length ≤ 4000) (k : Nat) (hk : k < pg) (w0 : World) (hR : Ro w0 [.row (lv) 3 1 pg (List.map (Value.int .i64) (layL y r b o pg)), .row (kv) 142 2 (List.length Rk) (List.flatMap entL Rk)]) : Calls Tryz.prog 32 #[.agg #[.int .i64 r, .int .i64 s, .int .i64 b, .int .i64 o, .int .i64 c, .int .i64 y, .int .i64 z, lv, pv, kv, .int .i64 ((pu : Nat) : Int), .int .i64 ((ru : Nat) : Int)], .int .i64 ((k : Nat) : Int)] w0 fun e w' => e = .returned (.int .i64 (idxP y r b o S ((k : Nat) : Int))) ∧ Below w0.heap.size w0 w' := by
  rcases rowForm (hR 0 _ rfl : w0.ownsRow 0 _ 1 lv _ _) with ⟨rfl, h0⟩ | ⟨g, cap, rfl, hc, _⟩
  · omega
  · exact Lies19_s hL hd hp8 hr8 k hk w0 hR
theorem Dead19I {r s b o c y z : Int} {pg sn ns : Nat} (hL : Lay r s b o c y z pg sn ns) {L : List Int} {D : List Bool} {S : List Int} {Pg Rk : List Ent} {pu ru : Nat} {lv pv kv : Value} (hd : DocM pg sn ns L D S Pg Rk) (hp8 : Pg.length ≤ 4000) (hr8 : Rk.length ≤ 4000) (q : Int) (hq : 0 ≤ q ∧ q < (pg : Int)) (w0 : World) (hR : Ro w0 [.row (pv) 142 2 (List.length Pg) (List.flatMap entL Pg)]) : Calls Tryz.prog 34 #[.agg #[.int .i64 r, .int .i64 s, .int .i64 b, .int .i64 o, .int .i64 c, .int .i64 y, .int .i64 z, lv, pv, kv, .int .i64 ((pu : Nat) : Int), .int .i64 ((ru : Nat) : Int)], .int .i64 q] w0 fun e w' => e = .returned (.bool (D.getD q.toNat false)) ∧ Below w0.heap.size w0 w' := by
  obtain ⟨k, rfl⟩ := Int.eq_ofNat_of_zero_le hq.1
  exact Dead19 hL hd hp8 hr8 k (by omega) w0 hR
theorem Spare19I {r s b o c y z : Int} {pg sn ns : Nat} (hL : Lay r s b o c y z pg sn ns) {L : List Int} {D : List Bool} {S : List Int} {Pg Rk : List Ent} {pu ru : Nat} {lv pv kv : Value} (hd : DocM pg sn ns L D S Pg Rk) (hp8 : Pg.length ≤ 4000) (hr8 : Rk.length ≤ 4000) (q : Int) (hq : 0 ≤ q ∧ q < (ns : Int)) (w0 : World) (hR : Ro w0 [.row (kv) 142 2 (List.length Rk) (List.flatMap entL Rk)]) : Calls Tryz.prog 72 #[.agg #[.int .i64 r, .int .i64 s, .int .i64 b, .int .i64 o, .int .i64 c, .int .i64 y, .int .i64 z, lv, pv, kv, .int .i64 ((pu : Nat) : Int), .int .i64 ((ru : Nat) : Int)], .int .i64 q] w0 fun e w' => e = .returned (.int .i64 (S.getD q.toNat 0)) ∧ Below w0.heap.size w0 w' := by
  obtain ⟨k, rfl⟩ := Int.eq_ofNat_of_zero_le hq.1
  exact Spare19 hL hd hp8 hr8 k (by omega) w0 hR
set_option maxRecDepth 100000 in
set_option maxHeartbeats 4000000 in
theorem Seen19 {r s b o c y z : Int} {pg sn ns : Nat} (hL : Lay r s b o c y z pg sn ns) {pu ru : Nat} {lv pv kv : Value} (w0 : World) (hR : Ro w0 [.row (lv) 3 1 pg (List.map (Value.int .i64) (layL y r b o pg))]) :
    Calls Tryz.prog 35 #[.agg #[.int .i64 r, .int .i64 s, .int .i64 b, .int .i64 o, .int .i64 c, .int .i64 y, .int .i64 z, lv, pv, kv, .int .i64 ((pu : Nat) : Int), .int .i64 ((ru : Nat) : Int)]] w0 fun e w' => e = .returned (.int .i64 ((sn : Nat) : Int)) ∧ Below w0.heap.size w0 w' := by
  refine z_enter Tryz.func35 rfl ?_
  have H := Hs.nil w0
  have R0 := hR
  have hsn := hL.hsn
  have hz0 := hL.z0
  have hz2 := hL.z2
  have hpg2 := hL.pg2
  refine x_seq <| x_region <| z_box H #[.int .i64 r, .int .i64 s, .int .i64 b, .int .i64 o, .int .i64 c, .int .i64 y, .int .i64 z, lv, pv, kv, .int .i64 (pu : Int), .int .i64 (ru : Int)] 34 (fun v1 g1 H => ?_)
  refine x_b H [.m] <| x_nil <| x_then <| x_seq <| x_region <| x_b H [.m, .l 0 7] <| x_val (.int .i64 (pg : Int)) (by kernel_rfl) rfl (Eq.trans (by kernel_rfl) (lenForm (P := Tryz.prog) (t := 31) (tt := 3) (rowForm (R0 0 _ rfl)) (by kernel_rfl))) ?_
  refine x_b H [.m, .l 0 6] <| z_ar ((pg : Int) - z) <| x_b H [.m] <| x_nil <| x_then <| x_retc <| x_ret (.int .i64 ((pg : Int) - z)) (by kernel_rfl) (by kernel_rfl) ?_
  exact ⟨by rw [show (pg : Int) - z = (sn : Int) by omega], H.below⟩
set_option maxRecDepth 100000 in
set_option maxHeartbeats 4000000 in
theorem New19 {r s b o c y z : Int} {pg sn ns : Nat} (hL : Lay r s b o c y z pg sn ns) (w0 : World) :
    Calls Tryz.prog 16 #[.agg #[.int .i64 r, .int .i64 s, .int .i64 b, .int .i64 o, .int .i64 c], .int .i64 y, .int .i64 z] w0 fun e w' => ∃ u cu, e = .returned (.agg #[.int .i64 r, .int .i64 s, .int .i64 b, .int .i64 o, .int .i64 c, .int .i64 y, .int .i64 z, .slice (some ⟨u, 0, none⟩) pg cu, .slice none 0 0, .slice none 0 0, .int .i64 ((0 : Nat) : Int), .int .i64 ((0 : Nat) : Int)]) ∧ Hs [] w0 w' [.row (.slice (some ⟨u, 0, none⟩) pg cu) 3 1 pg (List.map (Value.int .i64) (layL y r b o pg))] := by
  refine z_enter Tryz.func16 rfl ?_
  have H := Hs.nil w0
  refine x_seq <| x_region <| z_box H #[.int .i64 r, .int .i64 s, .int .i64 b, .int .i64 o, .int .i64 c] 30 (fun v1 g1 H => ?_)
  refine z_box H #[.int .i64 0, .int .i64 0, .int .i64 0, .int .i64 0, .int .i64 0, .int .i64 0, .int .i64 0, .slice none 0 0, .slice none 0 0, .slice none 0 0, .int .i64 0, .int .i64 0] 34 (fun v2 g2 H => ?_)
  refine x_nil <| x_then <| x_seq <| z_region_s H 8 [1] <| s_b [(0, .n 0 0 5 30), (1, .m), (2, .m), (3, .n 0 0 5 30), (4, .m)] 3 <| s_one 5 rfl (by kernel_rfl) rfl ?_
  clear H
  intro v3 H
  refine z_call (Layout8 hL _) ?_
  rintro _ v4 ⟨u, cu, rfl, hN'⟩
  refine ⟨_, rfl, ?_⟩
  replace H := H.more hN'
  clear hN'
  refine x_nil <| x_then <| z_next H [0, 2] [1] rfl <| s_b [(6, .m)] 1 <| s_one 7 rfl (by kernel_rfl) rfl ?_
  clear H
  intro v5 H
  refine z_store H 1 0 [.int .i64 r, .int .i64 s, .int .i64 b, .int .i64 o, .int .i64 c, .int .i64 y, .int .i64 z, .slice (some ⟨u, 0, none⟩) pg cu, .slice none 0 0, .slice none 0 0, .int .i64 0, .int .i64 0] (fun v6 H => ?_)
  refine x_nil <| x_then <| z_next H [0, 1, 2] [0, 2] rfl <| s_done (by kernel_rfl) ?_
  clear H
  intro v7 H
  refine x_then <| x_retc <| x_ret (.agg #[.int .i64 r, .int .i64 s, .int .i64 b, .int .i64 o, .int .i64 c, .int .i64 y, .int .i64 z, .slice (some ⟨u, 0, none⟩) pg cu, .slice none 0 0, .slice none 0 0, .int .i64 0, .int .i64 0]) (by kernel_rfl) (x_results [.cell 6 34] [.agg #[.int .i64 r, .int .i64 s, .int .i64 b, .int .i64 o, .int .i64 c, .int .i64 y, .int .i64 z, .slice (some ⟨u, 0, none⟩) pg cu, .slice none 0 0, .slice none 0 0, .int .i64 0, .int .i64 0]] _ rfl (AllR.cell (by kernel_rfl) (ldR H 1 g2 0 #[.int .i64 r, .int .i64 s, .int .i64 b, .int .i64 o, .int .i64 c, .int .i64 y, .int .i64 z, .slice (some ⟨u, 0, none⟩) pg cu, .slice none 0 0, .slice none 0 0, .int .i64 0, .int .i64 0] 34 [.int .i64 r, .int .i64 s, .int .i64 b, .int .i64 o, .int .i64 c, .int .i64 y, .int .i64 z, .slice (some ⟨u, 0, none⟩) pg cu, .slice none 0 0, .slice none 0 0, .int .i64 0, .int .i64 0] (by kernel_rfl) (by kernel_rfl) (by kernel_rfl)) AllR.nil) (by kernel_rfl)) ?_
  exact ⟨u, cu, rfl, H.pick [0] _ (by decide) (by kernel_rfl)⟩
set_option maxRecDepth 100000 in
set_option maxHeartbeats 4000000 in
theorem Ret19_yes {r s b o c y z : Int} {pg sn ns : Nat} (hL : Lay r s b o c y z pg sn ns) {L : List Int} {D : List Bool} {S : List Int} {Pg Rk : List Ent} {pu ru : Nat} {lv pv kv : Value} (hd : DocM pg sn ns L D S Pg Rk) (hp8 : Pg.length ≤ 4000) (hr8 : Rk.length ≤ 4000) (hV : MapV r s z sn pg ns L D S pu ru) (h t : Int) (he : (reE sn pg pu D h t) = 0) (w0 : World) (hR : Ro w0 [.row (lv) 3 1 pg (List.map (Value.int .i64) (layL y r b o pg)), .row (pv) 142 2 (List.length Pg) (List.flatMap entL Pg), .row (kv) 142 2 (List.length Rk) (List.flatMap entL Rk)]) :
    Calls Tryz.prog 66 #[.agg #[.int .i64 r, .int .i64 s, .int .i64 b, .int .i64 o, .int .i64 c, .int .i64 y, .int .i64 z, lv, pv, kv, .int .i64 ((pu : Nat) : Int), .int .i64 ((ru : Nat) : Int)], .int .i64 h, .int .i64 t] w0 fun e w' => ∃ u, e = .returned (.tuple #[.agg #[.int .i64 r, .int .i64 s, .int .i64 b, .int .i64 o, .int .i64 c, .int .i64 y, .int .i64 z, lv, u, kv, .int .i64 ((pu : Nat) : Int), .int .i64 ((ru : Nat) : Int)], .int .i64 0]) ∧ Hs [] w0 w' [.row (u) 142 2 (List.length (Pg ++ [(h, t)])) (List.flatMap entL (Pg ++ [(h, t)]))] := by
  refine z_enter Tryz.func66 rfl ?_
  have H := Hs.nil w0
  have R0 := hR
  have hp := hV.m.hp
  have hru := hV.m.hr
  have hsn := hL.hsn
  have hns := hL.hns
  have hpg2 := hL.pg2
  have hs8 := hL.s8
  have hr1 := hL.r1
  refine x_seq <| x_region <| z_box H #[.int .i64 r, .int .i64 s, .int .i64 b, .int .i64 o, .int .i64 c, .int .i64 y, .int .i64 z, lv, pv, kv, .int .i64 (pu : Int), .int .i64 (ru : Int)] 34 (fun v1 g1 H => ?_)
  refine z_box H #[.int .i64 0, .int .i64 0, .int .i64 0, .int .i64 0, .int .i64 0, .int .i64 0, .int .i64 0, .slice none 0 0, .slice none 0 0, .slice none 0 0, .int .i64 0, .int .i64 0] 34 (fun v2 g2 H => ?_)
  refine x_b H [.m] <| x_nil <| x_then <| x_seq <| x_seq <| z_region_whole H <| q_b [.m, .v (.bool (decide (h < 0))), .v (.bool (decide (h < 0)))] ?_
  cases h1 : decide (h < 0)
  · skip
    have h1p := of_decide_eq_false h1
    refine q_b [.m, .m, .l 1 7] <| q_val (.int .i64 (pg : Int)) (by kernel_rfl) (fun _ => (Eq.trans (by kernel_rfl) (lenForm (P := Tryz.prog) (t := 31) (tt := 3) (rowForm (R0 0 _ rfl)) (by kernel_rfl)))) <| q_b [.v (.bool (decide ((pg : Int) ≤ h))), .v (.bool (decide ((pg : Int) ≤ h))), .v (.bool (decide ((pg : Int) ≤ h)))] ?_
    cases h2 : decide ((pg : Int) ≤ h)
    · skip
      have h2p := of_decide_eq_false h2
      refine q_b [.m, .n 1 0 12 34] <| q_callR (.int .i64 (sn : Int)) (by kernel_rfl) (fun _ => by kernel_rfl) (fun _ H => (Seen19 (pu := pu) (ru := ru) (pv := pv) (kv := kv) hL _ ((H.ro R0).pick [0] [.row (lv) 3 1 pg (List.map (Value.int .i64) (layL y r b o pg))] (by kernel_rfl)))) <| q_b [.v (.bool (decide (t < (sn : Int)))), .v (.bool (decide (t < (sn : Int)))), .v (.bool (decide (t < (sn : Int))))] ?_
      cases h3 : decide (t < (sn : Int))
      · skip
        have h3p := of_decide_eq_false h3
        refine q_b [.m, .n 1 0 12 34] <| q_callR (.int .i64 (sn : Int)) (by kernel_rfl) (fun _ => by kernel_rfl) (fun _ H => (Seen19 (pu := pu) (ru := ru) (pv := pv) (kv := kv) hL _ ((H.ro R0).pick [0] [.row (lv) 3 1 pg (List.map (Value.int .i64) (layL y r b o pg))] (by kernel_rfl)))) <| q_b [.m, .l 1 10] <| q_ar ((sn : Int) + (pu : Int)) ⟨by omega, by omega⟩ (by kernel_rfl) (fun _ => by kernel_rfl) <| q_b [.v (.bool (decide (((sn : Int) + (pu : Int)) ≤ t))), .v (.bool (decide (((sn : Int) + (pu : Int)) ≤ t)))] <| q_nil ?_
        clear H
        intro v3 H
        refine x_then ?_
        cases h4 : decide (((sn : Int) + (pu : Int)) ≤ t)
        · skip
          have h4p := of_decide_eq_false h4
          refine x_f (by kernel_rfl) <| x_skipc <| x_then <| x_seq <| x_seq <| x_region <| x_b H [.n 1 0 12 34, .m] ?_
          refine z_callB (v := .bool (D.getD (Int.toNat h) false)) H (Dead19I (pu := pu) (ru := ru) (lv := lv) (kv := kv) hL hd hp8 hr8 h (by omega) _ ((H.ro R0).pick [1] [.row (pv) 142 2 (List.length Pg) (List.flatMap entL Pg)] (by kernel_rfl))) fun v4 H => x_b H [.v (.bool (D.getD (Int.toNat h) false))] ?_
          cases h5 : D.getD (Int.toNat h) false
          · skip
            refine x_b H [.n 1 0 12 34, .m] <| z_callB (v := .bool (D.getD (Int.toNat t) false)) H (Dead19I (pu := pu) (ru := ru) (lv := lv) (kv := kv) hL hd hp8 hr8 t (by omega) _ ((H.ro R0).pick [1] [.row (pv) 142 2 (List.length Pg) (List.flatMap entL Pg)] (by kernel_rfl))) fun v5 H => x_b H [.v (.bool (D.getD (Int.toNat t) false)), .v (.bool (D.getD (Int.toNat t) false))] ?_
            cases h6 : D.getD (Int.toNat t) false
            · skip
              refine x_b H [.m, .m, .v (.bool (decide (h = t))), .v (.bool (decide (h = t)))] <| x_nil <| z_fr 60 [(1, .int .i64 h), (2, .int .i64 t), (3, .pointer (some ⟨g1, 0, none⟩)), (6, .pointer (some ⟨g2, 0, none⟩)), (46, .bool (decide (h = t)))] [] fun uf1 => x_then ?_
              cases h7 : decide (h = t)
              · skip
                have h7p := of_decide_eq_false h7
                refine x_f (by kernel_rfl) <| x_skipc <| x_then <| x_seq <| x_region <| x_b H [.m] <| x_nil ?_
                refine x_then <| x_seq <| x_region <| x_b H [.m, .m, .l 1 8] ?_
                replace H := H.nilRow 142 2
                refine x_appendSrc H 0 (.slice none 0 0) 32 142 2 16 0 (.agg #[.int .i64 0, .int .i64 0]) (List.flatMap entL ([] : List Ent)) (pv) (List.length Pg) (List.flatMap entL Pg) rfl (src_row ((H.ro R0) 1 _ rfl : Go.World.ownsRow _ 0 142 2 _ _ _)) (by kernel_rfl) (by kernel_rfl) (by kernel_rfl) (by decide) (oneCellFlat entOne _) (by unfold maxLen; omega) (by omega) (by kernel_rfl) rfl (by kernel_rfl) ?_
                clear H
                intro v6 vr51 H
                rw [show (List.flatMap entL ([] : List Ent)) ++ (List.flatMap entL Pg) = (List.flatMap entL Pg) from (by simp)] at H
                rw [show (0 + (List.length Pg) : Nat) = (List.length Pg) from (by simp)] at H
                refine x_b H [.m] <| x_nil <| x_then <| x_seq <| x_region <| x_b H [.m, .m, .m, .m] <| x_box' H #[.int .i64 h, .int .i64 t] 142 1 (by kernel_rfl) rfl (by kernel_rfl) ?_
                clear H
                intro v7 g3 H
                refine x_append H 1 (vr51) 32 142 2 16 (List.length Pg) (.agg #[.int .i64 0, .int .i64 0]) (List.flatMap entL Pg) ⟨g3, 0, none⟩ 1 1 [.int .i64 h, .int .i64 t] rfl (by kernel_rfl) (by kernel_rfl) rfl (by decide) (by decide) rfl (fun j u hj => by rw [add_none]; exact cellOf (H.blk 0 rfl) (by simpa using hj)) (List.all_eq_true.1 (by kernel_rfl)) (by unfold maxLen; omega) (by omega) (by kernel_rfl) rfl (by kernel_rfl) ?_
                clear H
                intro v8 g4 c4 hc4 H
                rw [show (((List.length Pg) + 1) : Nat) = (List.length (Pg ++ [(h, t)])) from (by simp)] at H ⊢
                rw [show (List.flatMap entL Pg) ++ [.int .i64 h, .int .i64 t] = (List.flatMap entL (Pg ++ [(h, t)])) from (by rw [List.flatMap_append]; rfl)] at H
                replace H := H.pk [1, 2, 3]
                refine x_b H [.m] <| z_store H 2 8 [.slice (some ⟨g4, 0, none⟩) (List.length (Pg ++ [(h, t)])) c4] (fun v9 H => ?_)
                refine x_nil <| x_then <| x_seq <| x_region <| x_b H [.n 2 0 12 34] ?_
                have h8o := (H.ro R0).rowOne 0 rfl
                have h9o := (H.ro R0).rowOne 2 rfl
                refine z_store H 1 0 [.int .i64 r, .int .i64 s, .int .i64 b, .int .i64 o, .int .i64 c, .int .i64 y, .int .i64 z, lv, .slice (some ⟨g4, 0, none⟩) (List.length (Pg ++ [(h, t)])) c4, kv, .int .i64 (pu : Int), .int .i64 (ru : Int)] (fun v10 H => ?_) (h1 := (by simp only [List.all_cons, List.all_nil, h8o, h9o, Bool.and_true, Bool.true_and] <;> rfl))
                refine x_b H [.m] <| x_nil <| x_then <| x_retc <| x_ret (.tuple #[.agg #[.int .i64 r, .int .i64 s, .int .i64 b, .int .i64 o, .int .i64 c, .int .i64 y, .int .i64 z, lv, .slice (some ⟨g4, 0, none⟩) (List.length (Pg ++ [(h, t)])) c4, kv, .int .i64 (pu : Int), .int .i64 (ru : Int)], .int .i64 0]) (by kernel_rfl) (x_results [.cell 6 34, .tmp 7] [.agg #[.int .i64 r, .int .i64 s, .int .i64 b, .int .i64 o, .int .i64 c, .int .i64 y, .int .i64 z, lv, .slice (some ⟨g4, 0, none⟩) (List.length (Pg ++ [(h, t)])) c4, kv, .int .i64 (pu : Int), .int .i64 (ru : Int)], .int .i64 0] _ rfl (AllR.cell (by kernel_rfl) (ldR H 1 g2 0 #[.int .i64 r, .int .i64 s, .int .i64 b, .int .i64 o, .int .i64 c, .int .i64 y, .int .i64 z, lv, .slice (some ⟨g4, 0, none⟩) (List.length (Pg ++ [(h, t)])) c4, kv, .int .i64 (pu : Int), .int .i64 (ru : Int)] 34 [.int .i64 r, .int .i64 s, .int .i64 b, .int .i64 o, .int .i64 c, .int .i64 y, .int .i64 z, lv, .slice (some ⟨g4, 0, none⟩) (List.length (Pg ++ [(h, t)])) c4, kv, .int .i64 (pu : Int), .int .i64 (ru : Int)] (by kernel_rfl) (by kernel_rfl) (by kernel_rfl)) (AllR.tmp (by kernel_rfl) AllR.nil)) (by kernel_rfl)) ?_
                exact ⟨_, rfl, H.pick [0] _ (by decide) (by kernel_rfl)⟩
              have h7p := of_decide_eq_true h7
              refine x_t (by kernel_rfl) <| x_seq <| x_region <| x_b H [.n 1 0 12 34] ?_
              have h10o := (H.ro R0).rowOne 0 rfl
              have h11o := (H.ro R0).rowOne 1 rfl
              have h12o := (H.ro R0).rowOne 2 rfl
              refine z_store H 0 0 [.int .i64 r, .int .i64 s, .int .i64 b, .int .i64 o, .int .i64 c, .int .i64 y, .int .i64 z, lv, pv, kv, .int .i64 (pu : Int), .int .i64 (ru : Int)] (fun v11 H => ?_) (h1 := (by simp only [List.all_cons, List.all_nil, h10o, h11o, h12o, Bool.and_true, Bool.true_and] <;> rfl))
              refine x_b H [.m] <| x_nil <| x_then <| x_retc <| x_then_ret <| x_ret (.tuple #[.agg #[.int .i64 r, .int .i64 s, .int .i64 b, .int .i64 o, .int .i64 c, .int .i64 y, .int .i64 z, lv, pv, kv, .int .i64 (pu : Int), .int .i64 (ru : Int)], .int .i64 15]) (by kernel_rfl) (x_results [.cell 6 34, .tmp 7] [.agg #[.int .i64 r, .int .i64 s, .int .i64 b, .int .i64 o, .int .i64 c, .int .i64 y, .int .i64 z, lv, pv, kv, .int .i64 (pu : Int), .int .i64 (ru : Int)], .int .i64 15] _ rfl (AllR.cell (by kernel_rfl) (ldR H 0 g2 0 #[.int .i64 r, .int .i64 s, .int .i64 b, .int .i64 o, .int .i64 c, .int .i64 y, .int .i64 z, lv, pv, kv, .int .i64 (pu : Int), .int .i64 (ru : Int)] 34 [.int .i64 r, .int .i64 s, .int .i64 b, .int .i64 o, .int .i64 c, .int .i64 y, .int .i64 z, lv, pv, kv, .int .i64 (pu : Int), .int .i64 (ru : Int)] (by kernel_rfl) (by kernel_rfl) (by kernel_rfl)) (AllR.tmp (by kernel_rfl) AllR.nil)) (by kernel_rfl)) ?_
              exfalso
              unfold reE at he
              rw [if_neg (by omega), if_pos (.inr (.inr (by omega)))] at he
              omega
            refine x_b H [.k, .k, .k, .m] <| x_nil <| z_fr 60 [(1, .int .i64 h), (2, .int .i64 t), (3, .pointer (some ⟨g1, 0, none⟩)), (6, .pointer (some ⟨g2, 0, none⟩)), (46, .bool true)] [] fun uf2 => x_then <| x_t (by kernel_rfl) <| x_seq <| x_region ?_
            refine x_b H [.n 1 0 12 34] ?_
            have h13o := (H.ro R0).rowOne 0 rfl
            have h14o := (H.ro R0).rowOne 1 rfl
            have h15o := (H.ro R0).rowOne 2 rfl
            refine z_store H 0 0 [.int .i64 r, .int .i64 s, .int .i64 b, .int .i64 o, .int .i64 c, .int .i64 y, .int .i64 z, lv, pv, kv, .int .i64 (pu : Int), .int .i64 (ru : Int)] (fun v12 H => ?_) (h1 := (by simp only [List.all_cons, List.all_nil, h13o, h14o, h15o, Bool.and_true, Bool.true_and] <;> rfl))
            refine x_b H [.m] <| x_nil <| x_then <| x_retc <| x_then_ret <| x_ret (.tuple #[.agg #[.int .i64 r, .int .i64 s, .int .i64 b, .int .i64 o, .int .i64 c, .int .i64 y, .int .i64 z, lv, pv, kv, .int .i64 (pu : Int), .int .i64 (ru : Int)], .int .i64 15]) (by kernel_rfl) (x_results [.cell 6 34, .tmp 7] [.agg #[.int .i64 r, .int .i64 s, .int .i64 b, .int .i64 o, .int .i64 c, .int .i64 y, .int .i64 z, lv, pv, kv, .int .i64 (pu : Int), .int .i64 (ru : Int)], .int .i64 15] _ rfl (AllR.cell (by kernel_rfl) (ldR H 0 g2 0 #[.int .i64 r, .int .i64 s, .int .i64 b, .int .i64 o, .int .i64 c, .int .i64 y, .int .i64 z, lv, pv, kv, .int .i64 (pu : Int), .int .i64 (ru : Int)] 34 [.int .i64 r, .int .i64 s, .int .i64 b, .int .i64 o, .int .i64 c, .int .i64 y, .int .i64 z, lv, pv, kv, .int .i64 (pu : Int), .int .i64 (ru : Int)] (by kernel_rfl) (by kernel_rfl) (by kernel_rfl)) (AllR.tmp (by kernel_rfl) AllR.nil)) (by kernel_rfl)) ?_
            exfalso
            unfold reE at he
            rw [if_neg (by omega), if_pos (.inr (.inl h6))] at he
            omega
          refine x_b H [.k, .k, .k, .m, .m, .k, .k, .k, .m] <| x_nil <| z_fr 60 [(1, .int .i64 h), (2, .int .i64 t), (3, .pointer (some ⟨g1, 0, none⟩)), (6, .pointer (some ⟨g2, 0, none⟩)), (46, .bool true)] [] fun uf3 => x_then <| x_t (by kernel_rfl) <| x_seq <| x_region ?_
          refine x_b H [.n 1 0 12 34] ?_
          have h16o := (H.ro R0).rowOne 0 rfl
          have h17o := (H.ro R0).rowOne 1 rfl
          have h18o := (H.ro R0).rowOne 2 rfl
          refine z_store H 0 0 [.int .i64 r, .int .i64 s, .int .i64 b, .int .i64 o, .int .i64 c, .int .i64 y, .int .i64 z, lv, pv, kv, .int .i64 (pu : Int), .int .i64 (ru : Int)] (fun v13 H => ?_) (h1 := (by simp only [List.all_cons, List.all_nil, h16o, h17o, h18o, Bool.and_true, Bool.true_and] <;> rfl))
          refine x_b H [.m] <| x_nil <| x_then <| x_retc <| x_then_ret <| x_ret (.tuple #[.agg #[.int .i64 r, .int .i64 s, .int .i64 b, .int .i64 o, .int .i64 c, .int .i64 y, .int .i64 z, lv, pv, kv, .int .i64 (pu : Int), .int .i64 (ru : Int)], .int .i64 15]) (by kernel_rfl) (x_results [.cell 6 34, .tmp 7] [.agg #[.int .i64 r, .int .i64 s, .int .i64 b, .int .i64 o, .int .i64 c, .int .i64 y, .int .i64 z, lv, pv, kv, .int .i64 (pu : Int), .int .i64 (ru : Int)], .int .i64 15] _ rfl (AllR.cell (by kernel_rfl) (ldR H 0 g2 0 #[.int .i64 r, .int .i64 s, .int .i64 b, .int .i64 o, .int .i64 c, .int .i64 y, .int .i64 z, lv, pv, kv, .int .i64 (pu : Int), .int .i64 (ru : Int)] 34 [.int .i64 r, .int .i64 s, .int .i64 b, .int .i64 o, .int .i64 c, .int .i64 y, .int .i64 z, lv, pv, kv, .int .i64 (pu : Int), .int .i64 (ru : Int)] (by kernel_rfl) (by kernel_rfl) (by kernel_rfl)) (AllR.tmp (by kernel_rfl) AllR.nil)) (by kernel_rfl)) ?_
          exfalso
          unfold reE at he
          rw [if_neg (by omega), if_pos (.inl h5)] at he
          omega
        have h4p := of_decide_eq_true h4
        refine x_t (by kernel_rfl) <| x_seq <| x_region <| x_b H [.n 1 0 12 34] ?_
        have h19o := (H.ro R0).rowOne 0 rfl
        have h20o := (H.ro R0).rowOne 1 rfl
        have h21o := (H.ro R0).rowOne 2 rfl
        refine z_store H 0 0 [.int .i64 r, .int .i64 s, .int .i64 b, .int .i64 o, .int .i64 c, .int .i64 y, .int .i64 z, lv, pv, kv, .int .i64 (pu : Int), .int .i64 (ru : Int)] (fun v14 H => ?_) (h1 := (by simp only [List.all_cons, List.all_nil, h19o, h20o, h21o, Bool.and_true, Bool.true_and] <;> rfl))
        refine x_b H [.m] <| x_nil <| x_then <| x_retc <| x_then_ret <| x_ret (.tuple #[.agg #[.int .i64 r, .int .i64 s, .int .i64 b, .int .i64 o, .int .i64 c, .int .i64 y, .int .i64 z, lv, pv, kv, .int .i64 (pu : Int), .int .i64 (ru : Int)], .int .i64 12]) (by kernel_rfl) (x_results [.cell 6 34, .tmp 7] [.agg #[.int .i64 r, .int .i64 s, .int .i64 b, .int .i64 o, .int .i64 c, .int .i64 y, .int .i64 z, lv, pv, kv, .int .i64 (pu : Int), .int .i64 (ru : Int)], .int .i64 12] _ rfl (AllR.cell (by kernel_rfl) (ldR H 0 g2 0 #[.int .i64 r, .int .i64 s, .int .i64 b, .int .i64 o, .int .i64 c, .int .i64 y, .int .i64 z, lv, pv, kv, .int .i64 (pu : Int), .int .i64 (ru : Int)] 34 [.int .i64 r, .int .i64 s, .int .i64 b, .int .i64 o, .int .i64 c, .int .i64 y, .int .i64 z, lv, pv, kv, .int .i64 (pu : Int), .int .i64 (ru : Int)] (by kernel_rfl) (by kernel_rfl) (by kernel_rfl)) (AllR.tmp (by kernel_rfl) AllR.nil)) (by kernel_rfl)) ?_
        exfalso
        unfold reE at he
        rw [if_pos (by omega)] at he
        omega
      have h3p := of_decide_eq_true h3
      refine q_b [.k, .k, .k, .k, .k, .k, .k, .m] <| q_nil ?_
      clear H
      intro v15 H
      refine x_then <| x_t (by kernel_rfl) <| x_seq <| x_region <| x_b H [.n 1 0 12 34] ?_
      have h22o := (H.ro R0).rowOne 0 rfl
      have h23o := (H.ro R0).rowOne 1 rfl
      have h24o := (H.ro R0).rowOne 2 rfl
      refine z_store H 0 0 [.int .i64 r, .int .i64 s, .int .i64 b, .int .i64 o, .int .i64 c, .int .i64 y, .int .i64 z, lv, pv, kv, .int .i64 (pu : Int), .int .i64 (ru : Int)] (fun v16 H => ?_) (h1 := (by simp only [List.all_cons, List.all_nil, h22o, h23o, h24o, Bool.and_true, Bool.true_and] <;> rfl))
      refine x_b H [.m] <| x_nil <| x_then <| x_retc <| x_then_ret <| x_ret (.tuple #[.agg #[.int .i64 r, .int .i64 s, .int .i64 b, .int .i64 o, .int .i64 c, .int .i64 y, .int .i64 z, lv, pv, kv, .int .i64 (pu : Int), .int .i64 (ru : Int)], .int .i64 12]) (by kernel_rfl) (x_results [.cell 6 34, .tmp 7] [.agg #[.int .i64 r, .int .i64 s, .int .i64 b, .int .i64 o, .int .i64 c, .int .i64 y, .int .i64 z, lv, pv, kv, .int .i64 (pu : Int), .int .i64 (ru : Int)], .int .i64 12] _ rfl (AllR.cell (by kernel_rfl) (ldR H 0 g2 0 #[.int .i64 r, .int .i64 s, .int .i64 b, .int .i64 o, .int .i64 c, .int .i64 y, .int .i64 z, lv, pv, kv, .int .i64 (pu : Int), .int .i64 (ru : Int)] 34 [.int .i64 r, .int .i64 s, .int .i64 b, .int .i64 o, .int .i64 c, .int .i64 y, .int .i64 z, lv, pv, kv, .int .i64 (pu : Int), .int .i64 (ru : Int)] (by kernel_rfl) (by kernel_rfl) (by kernel_rfl)) (AllR.tmp (by kernel_rfl) AllR.nil)) (by kernel_rfl)) ?_
      exfalso
      unfold reE at he
      rw [if_pos (by omega)] at he
      omega
    have h2p := of_decide_eq_true h2
    refine q_b [.k, .k, .k, .k, .m, .m, .k, .k, .k, .k, .k, .k, .k, .m] <| q_nil ?_
    clear H
    intro v17 H
    refine x_then <| x_t (by kernel_rfl) <| x_seq <| x_region <| x_b H [.n 1 0 12 34] ?_
    have h25o := (H.ro R0).rowOne 0 rfl
    have h26o := (H.ro R0).rowOne 1 rfl
    have h27o := (H.ro R0).rowOne 2 rfl
    refine z_store H 0 0 [.int .i64 r, .int .i64 s, .int .i64 b, .int .i64 o, .int .i64 c, .int .i64 y, .int .i64 z, lv, pv, kv, .int .i64 (pu : Int), .int .i64 (ru : Int)] (fun v18 H => ?_) (h1 := (by simp only [List.all_cons, List.all_nil, h25o, h26o, h27o, Bool.and_true, Bool.true_and] <;> rfl))
    refine x_b H [.m] <| x_nil <| x_then <| x_retc <| x_then_ret <| x_ret (.tuple #[.agg #[.int .i64 r, .int .i64 s, .int .i64 b, .int .i64 o, .int .i64 c, .int .i64 y, .int .i64 z, lv, pv, kv, .int .i64 (pu : Int), .int .i64 (ru : Int)], .int .i64 12]) (by kernel_rfl) (x_results [.cell 6 34, .tmp 7] [.agg #[.int .i64 r, .int .i64 s, .int .i64 b, .int .i64 o, .int .i64 c, .int .i64 y, .int .i64 z, lv, pv, kv, .int .i64 (pu : Int), .int .i64 (ru : Int)], .int .i64 12] _ rfl (AllR.cell (by kernel_rfl) (ldR H 0 g2 0 #[.int .i64 r, .int .i64 s, .int .i64 b, .int .i64 o, .int .i64 c, .int .i64 y, .int .i64 z, lv, pv, kv, .int .i64 (pu : Int), .int .i64 (ru : Int)] 34 [.int .i64 r, .int .i64 s, .int .i64 b, .int .i64 o, .int .i64 c, .int .i64 y, .int .i64 z, lv, pv, kv, .int .i64 (pu : Int), .int .i64 (ru : Int)] (by kernel_rfl) (by kernel_rfl) (by kernel_rfl)) (AllR.tmp (by kernel_rfl) AllR.nil)) (by kernel_rfl)) ?_
    exfalso
    unfold reE at he
    rw [if_pos (by omega)] at he
    omega
  have h1p := of_decide_eq_true h1
  refine q_b [.k, .k, .k, .k, .k, .m, .m, .k, .k, .k, .k, .m, .m, .k, .k, .k, .k, .k, .k, .k, .m] <| q_nil ?_
  clear H
  intro v19 H
  refine x_then <| x_t (by kernel_rfl) <| x_seq <| x_region <| x_b H [.n 1 0 12 34] ?_
  have h28o := (H.ro R0).rowOne 0 rfl
  have h29o := (H.ro R0).rowOne 1 rfl
  have h30o := (H.ro R0).rowOne 2 rfl
  refine z_store H 0 0 [.int .i64 r, .int .i64 s, .int .i64 b, .int .i64 o, .int .i64 c, .int .i64 y, .int .i64 z, lv, pv, kv, .int .i64 (pu : Int), .int .i64 (ru : Int)] (fun v20 H => ?_) (h1 := (by simp only [List.all_cons, List.all_nil, h28o, h29o, h30o, Bool.and_true, Bool.true_and] <;> rfl))
  refine x_b H [.m] <| x_nil <| x_then <| x_retc <| x_then_ret <| x_ret (.tuple #[.agg #[.int .i64 r, .int .i64 s, .int .i64 b, .int .i64 o, .int .i64 c, .int .i64 y, .int .i64 z, lv, pv, kv, .int .i64 (pu : Int), .int .i64 (ru : Int)], .int .i64 12]) (by kernel_rfl) (x_results [.cell 6 34, .tmp 7] [.agg #[.int .i64 r, .int .i64 s, .int .i64 b, .int .i64 o, .int .i64 c, .int .i64 y, .int .i64 z, lv, pv, kv, .int .i64 (pu : Int), .int .i64 (ru : Int)], .int .i64 12] _ rfl (AllR.cell (by kernel_rfl) (ldR H 0 g2 0 #[.int .i64 r, .int .i64 s, .int .i64 b, .int .i64 o, .int .i64 c, .int .i64 y, .int .i64 z, lv, pv, kv, .int .i64 (pu : Int), .int .i64 (ru : Int)] 34 [.int .i64 r, .int .i64 s, .int .i64 b, .int .i64 o, .int .i64 c, .int .i64 y, .int .i64 z, lv, pv, kv, .int .i64 (pu : Int), .int .i64 (ru : Int)] (by kernel_rfl) (by kernel_rfl) (by kernel_rfl)) (AllR.tmp (by kernel_rfl) AllR.nil)) (by kernel_rfl)) ?_
  exfalso
  unfold reE at he
  rw [if_pos (by omega)] at he
  omega
set_option maxRecDepth 100000 in
set_option maxHeartbeats 4000000 in
theorem Rep19_yes {r s b o c y z : Int} {pg sn ns : Nat} (hL : Lay r s b o c y z pg sn ns) {L : List Int} {D : List Bool} {S : List Int} {Pg Rk : List Ent} {pu ru : Nat} {lv pv kv : Value} (hd : DocM pg sn ns L D S Pg Rk) (hp8 : Pg.length ≤ 4000) (hr8 : Rk.length ≤ 4000) (hV : MapV r s z sn pg ns L D S pu ru) (h t : Int) (he : (rpE r ns ru S h t) = 0) (w0 : World) (hR : Ro w0 [.row (lv) 3 1 pg (List.map (Value.int .i64) (layL y r b o pg)), .row (pv) 142 2 (List.length Pg) (List.flatMap entL Pg), .row (kv) 142 2 (List.length Rk) (List.flatMap entL Rk)]) :
    Calls Tryz.prog 67 #[.agg #[.int .i64 r, .int .i64 s, .int .i64 b, .int .i64 o, .int .i64 c, .int .i64 y, .int .i64 z, lv, pv, kv, .int .i64 ((pu : Nat) : Int), .int .i64 ((ru : Nat) : Int)], .int .i64 h, .int .i64 t] w0 fun e w' => ∃ u, e = .returned (.tuple #[.agg #[.int .i64 r, .int .i64 s, .int .i64 b, .int .i64 o, .int .i64 c, .int .i64 y, .int .i64 z, lv, pv, u, .int .i64 ((pu : Nat) : Int), .int .i64 ((ru : Nat) : Int)], .int .i64 0]) ∧ Hs [] w0 w' [.row (u) 142 2 (List.length (Rk ++ [(h, t)])) (List.flatMap entL (Rk ++ [(h, t)]))] := by
  refine z_enter Tryz.func67 rfl ?_
  have H := Hs.nil w0
  have R0 := hR
  have hp := hV.m.hp
  have hru := hV.m.hr
  have hsn := hL.hsn
  have hns := hL.hns
  have hpg2 := hL.pg2
  have hs8 := hL.s8
  have hr1 := hL.r1
  refine x_seq <| x_region <| z_box H #[.int .i64 r, .int .i64 s, .int .i64 b, .int .i64 o, .int .i64 c, .int .i64 y, .int .i64 z, lv, pv, kv, .int .i64 (pu : Int), .int .i64 (ru : Int)] 34 (fun v1 g1 H => ?_)
  refine z_box H #[.int .i64 0, .int .i64 0, .int .i64 0, .int .i64 0, .int .i64 0, .int .i64 0, .int .i64 0, .slice none 0 0, .slice none 0 0, .slice none 0 0, .int .i64 0, .int .i64 0] 34 (fun v2 g2 H => ?_)
  refine x_b H [.m] <| x_nil <| x_then <| x_seq <| x_seq <| x_region <| x_b H [.m, .v (.bool (decide (h < 0))), .v (.bool (decide (h < 0)))] ?_
  cases h1 : decide (h < 0)
  · skip
    have h1p := of_decide_eq_false h1
    refine x_b H [.m, .m, .m, .l 1 0, .v (.bool (decide (r ≤ h))), .v (.bool (decide (r ≤ h))), .v (.bool (decide (r ≤ h)))] ?_
    cases h2 : decide (r ≤ h)
    · skip
      have h2p := of_decide_eq_false h2
      refine x_b H [.m, .m, .m, .l 1 0, .v (.bool (decide (t < r))), .v (.bool (decide (t < r))), .v (.bool (decide (t < r)))] ?_
      cases h3 : decide (t < r)
      · skip
        have h3p := of_decide_eq_false h3
        refine x_b H [.m, .m, .m, .l 1 0, .m, .l 1 11] <| z_ar (r + (ru : Int)) <| x_b H [.v (.bool (decide ((r + (ru : Int)) ≤ t))), .v (.bool (decide ((r + (ru : Int)) ≤ t)))] <| x_nil <| x_then ?_
        cases h4 : decide ((r + (ru : Int)) ≤ t)
        · skip
          have h4p := of_decide_eq_false h4
          refine x_f (by kernel_rfl) <| x_skipc <| x_then <| x_seq <| x_seq <| x_region <| x_b H [.n 1 0 12 34, .m] ?_
          have hge : -1 ≤ S.getD (Int.toNat h) 0 := by rcases hV.sv (Int.toNat h) (by omega) with z | z <;> omega
          refine z_callB (v := .int .i64 (S.getD (Int.toNat h) 0)) H (Spare19I (pu := pu) (ru := ru) (lv := lv) (pv := pv) hL hd hp8 hr8 h (by omega) _ ((H.ro R0).pick [2] [.row (kv) 142 2 (List.length Rk) (List.flatMap entL Rk)] (by kernel_rfl))) fun v3 H => x_b H [.v (.bool (decide (0 ≤ (S.getD (Int.toNat h) 0))))] <| x_nil <| x_then ?_
          cases h5 : decide (0 ≤ (S.getD (Int.toNat h) 0))
          · skip
            have h5p := of_decide_eq_false h5
            refine x_f (by kernel_rfl) <| x_skipc <| x_then <| x_seq <| x_region <| x_b H [.m] <| x_nil ?_
            refine x_then <| x_seq <| x_region <| x_b H [.m, .m, .l 1 9] ?_
            replace H := H.nilRow 142 2
            refine x_appendSrc H 0 (.slice none 0 0) 32 142 2 16 0 (.agg #[.int .i64 0, .int .i64 0]) (List.flatMap entL ([] : List Ent)) (kv) (List.length Rk) (List.flatMap entL Rk) rfl (src_row ((H.ro R0) 2 _ rfl : Go.World.ownsRow _ 0 142 2 _ _ _)) (by kernel_rfl) (by kernel_rfl) (by kernel_rfl) (by decide) (oneCellFlat entOne _) (by unfold maxLen; omega) (by omega) (by kernel_rfl) rfl (by kernel_rfl) ?_
            clear H
            intro v4 vr44 H
            rw [show (List.flatMap entL ([] : List Ent)) ++ (List.flatMap entL Rk) = (List.flatMap entL Rk) from (by simp)] at H
            rw [show (0 + (List.length Rk) : Nat) = (List.length Rk) from (by simp)] at H
            refine x_b H [.m] <| x_nil <| x_then <| x_seq <| x_region <| x_b H [.m, .m, .m, .m] <| x_box' H #[.int .i64 h, .int .i64 t] 142 1 (by kernel_rfl) rfl (by kernel_rfl) ?_
            clear H
            intro v5 g3 H
            refine x_append H 1 (vr44) 32 142 2 16 (List.length Rk) (.agg #[.int .i64 0, .int .i64 0]) (List.flatMap entL Rk) ⟨g3, 0, none⟩ 1 1 [.int .i64 h, .int .i64 t] rfl (by kernel_rfl) (by kernel_rfl) rfl (by decide) (by decide) rfl (fun j u hj => by rw [add_none]; exact cellOf (H.blk 0 rfl) (by simpa using hj)) (List.all_eq_true.1 (by kernel_rfl)) (by unfold maxLen; omega) (by omega) (by kernel_rfl) rfl (by kernel_rfl) ?_
            clear H
            intro v6 g4 c4 hc4 H
            rw [show (((List.length Rk) + 1) : Nat) = (List.length (Rk ++ [(h, t)])) from (by simp)] at H ⊢
            rw [show (List.flatMap entL Rk) ++ [.int .i64 h, .int .i64 t] = (List.flatMap entL (Rk ++ [(h, t)])) from (by rw [List.flatMap_append]; rfl)] at H
            replace H := H.pk [1, 2, 3]
            refine x_b H [.m] <| z_store H 2 9 [.slice (some ⟨g4, 0, none⟩) (List.length (Rk ++ [(h, t)])) c4] (fun v7 H => ?_)
            refine x_nil <| z_fr 53 [(3, .pointer (some ⟨g1, 0, none⟩)), (6, .pointer (some ⟨g2, 0, none⟩))] [] fun uf1 => x_then <| x_seq <| x_region <| x_b H [.n 2 0 12 34] ?_
            have h6o := (H.ro R0).rowOne 0 rfl
            have h7o := (H.ro R0).rowOne 1 rfl
            refine z_store H 1 0 [.int .i64 r, .int .i64 s, .int .i64 b, .int .i64 o, .int .i64 c, .int .i64 y, .int .i64 z, lv, pv, .slice (some ⟨g4, 0, none⟩) (List.length (Rk ++ [(h, t)])) c4, .int .i64 (pu : Int), .int .i64 (ru : Int)] (fun v8 H => ?_) (h1 := (by simp only [List.all_cons, List.all_nil, h6o, h7o, Bool.and_true, Bool.true_and] <;> rfl))
            refine x_b H [.m] <| x_nil <| x_then <| x_retc <| x_ret (.tuple #[.agg #[.int .i64 r, .int .i64 s, .int .i64 b, .int .i64 o, .int .i64 c, .int .i64 y, .int .i64 z, lv, pv, .slice (some ⟨g4, 0, none⟩) (List.length (Rk ++ [(h, t)])) c4, .int .i64 (pu : Int), .int .i64 (ru : Int)], .int .i64 0]) (by kernel_rfl) (x_results [.cell 6 34, .tmp 7] [.agg #[.int .i64 r, .int .i64 s, .int .i64 b, .int .i64 o, .int .i64 c, .int .i64 y, .int .i64 z, lv, pv, .slice (some ⟨g4, 0, none⟩) (List.length (Rk ++ [(h, t)])) c4, .int .i64 (pu : Int), .int .i64 (ru : Int)], .int .i64 0] _ rfl (AllR.cell (by kernel_rfl) (ldR H 1 g2 0 #[.int .i64 r, .int .i64 s, .int .i64 b, .int .i64 o, .int .i64 c, .int .i64 y, .int .i64 z, lv, pv, .slice (some ⟨g4, 0, none⟩) (List.length (Rk ++ [(h, t)])) c4, .int .i64 (pu : Int), .int .i64 (ru : Int)] 34 [.int .i64 r, .int .i64 s, .int .i64 b, .int .i64 o, .int .i64 c, .int .i64 y, .int .i64 z, lv, pv, .slice (some ⟨g4, 0, none⟩) (List.length (Rk ++ [(h, t)])) c4, .int .i64 (pu : Int), .int .i64 (ru : Int)] (by kernel_rfl) (by kernel_rfl) (by kernel_rfl)) (AllR.tmp (by kernel_rfl) AllR.nil)) (by kernel_rfl)) ?_
            exact ⟨_, rfl, H.pick [0] _ (by decide) (by kernel_rfl)⟩
          have h5p := of_decide_eq_true h5
          refine x_t (by kernel_rfl) <| x_seq <| x_region <| x_b H [.n 1 0 12 34] ?_
          have h8o := (H.ro R0).rowOne 0 rfl
          have h9o := (H.ro R0).rowOne 1 rfl
          have h10o := (H.ro R0).rowOne 2 rfl
          refine z_store H 0 0 [.int .i64 r, .int .i64 s, .int .i64 b, .int .i64 o, .int .i64 c, .int .i64 y, .int .i64 z, lv, pv, kv, .int .i64 (pu : Int), .int .i64 (ru : Int)] (fun v9 H => ?_) (h1 := (by simp only [List.all_cons, List.all_nil, h8o, h9o, h10o, Bool.and_true, Bool.true_and] <;> rfl))
          refine x_b H [.m] <| x_nil <| x_then <| x_retc <| x_then_ret <| x_ret (.tuple #[.agg #[.int .i64 r, .int .i64 s, .int .i64 b, .int .i64 o, .int .i64 c, .int .i64 y, .int .i64 z, lv, pv, kv, .int .i64 (pu : Int), .int .i64 (ru : Int)], .int .i64 15]) (by kernel_rfl) (x_results [.cell 6 34, .tmp 7] [.agg #[.int .i64 r, .int .i64 s, .int .i64 b, .int .i64 o, .int .i64 c, .int .i64 y, .int .i64 z, lv, pv, kv, .int .i64 (pu : Int), .int .i64 (ru : Int)], .int .i64 15] _ rfl (AllR.cell (by kernel_rfl) (ldR H 0 g2 0 #[.int .i64 r, .int .i64 s, .int .i64 b, .int .i64 o, .int .i64 c, .int .i64 y, .int .i64 z, lv, pv, kv, .int .i64 (pu : Int), .int .i64 (ru : Int)] 34 [.int .i64 r, .int .i64 s, .int .i64 b, .int .i64 o, .int .i64 c, .int .i64 y, .int .i64 z, lv, pv, kv, .int .i64 (pu : Int), .int .i64 (ru : Int)] (by kernel_rfl) (by kernel_rfl) (by kernel_rfl)) (AllR.tmp (by kernel_rfl) AllR.nil)) (by kernel_rfl)) ?_
          exfalso
          unfold rpE at he
          rw [if_neg (by omega), if_pos (by omega)] at he
          omega
        have h4p := of_decide_eq_true h4
        refine x_t (by kernel_rfl) <| x_seq <| x_region <| x_b H [.n 1 0 12 34] ?_
        have h11o := (H.ro R0).rowOne 0 rfl
        have h12o := (H.ro R0).rowOne 1 rfl
        have h13o := (H.ro R0).rowOne 2 rfl
        refine z_store H 0 0 [.int .i64 r, .int .i64 s, .int .i64 b, .int .i64 o, .int .i64 c, .int .i64 y, .int .i64 z, lv, pv, kv, .int .i64 (pu : Int), .int .i64 (ru : Int)] (fun v10 H => ?_) (h1 := (by simp only [List.all_cons, List.all_nil, h11o, h12o, h13o, Bool.and_true, Bool.true_and] <;> rfl))
        refine x_b H [.m] <| x_nil <| x_then <| x_retc <| x_then_ret <| x_ret (.tuple #[.agg #[.int .i64 r, .int .i64 s, .int .i64 b, .int .i64 o, .int .i64 c, .int .i64 y, .int .i64 z, lv, pv, kv, .int .i64 (pu : Int), .int .i64 (ru : Int)], .int .i64 12]) (by kernel_rfl) (x_results [.cell 6 34, .tmp 7] [.agg #[.int .i64 r, .int .i64 s, .int .i64 b, .int .i64 o, .int .i64 c, .int .i64 y, .int .i64 z, lv, pv, kv, .int .i64 (pu : Int), .int .i64 (ru : Int)], .int .i64 12] _ rfl (AllR.cell (by kernel_rfl) (ldR H 0 g2 0 #[.int .i64 r, .int .i64 s, .int .i64 b, .int .i64 o, .int .i64 c, .int .i64 y, .int .i64 z, lv, pv, kv, .int .i64 (pu : Int), .int .i64 (ru : Int)] 34 [.int .i64 r, .int .i64 s, .int .i64 b, .int .i64 o, .int .i64 c, .int .i64 y, .int .i64 z, lv, pv, kv, .int .i64 (pu : Int), .int .i64 (ru : Int)] (by kernel_rfl) (by kernel_rfl) (by kernel_rfl)) (AllR.tmp (by kernel_rfl) AllR.nil)) (by kernel_rfl)) ?_
        exfalso
        unfold rpE at he
        rw [if_pos (by omega)] at he
        omega
      have h3p := of_decide_eq_true h3
      refine x_b H [.k, .k, .k, .k, .k, .k, .k, .k, .m] <| x_nil <| x_then <| x_t (by kernel_rfl) <| x_seq <| x_region <| x_b H [.n 1 0 12 34] ?_
      have h14o := (H.ro R0).rowOne 0 rfl
      have h15o := (H.ro R0).rowOne 1 rfl
      have h16o := (H.ro R0).rowOne 2 rfl
      refine z_store H 0 0 [.int .i64 r, .int .i64 s, .int .i64 b, .int .i64 o, .int .i64 c, .int .i64 y, .int .i64 z, lv, pv, kv, .int .i64 (pu : Int), .int .i64 (ru : Int)] (fun v11 H => ?_) (h1 := (by simp only [List.all_cons, List.all_nil, h14o, h15o, h16o, Bool.and_true, Bool.true_and] <;> rfl))
      refine x_b H [.m] <| x_nil <| x_then <| x_retc <| x_then_ret <| x_ret (.tuple #[.agg #[.int .i64 r, .int .i64 s, .int .i64 b, .int .i64 o, .int .i64 c, .int .i64 y, .int .i64 z, lv, pv, kv, .int .i64 (pu : Int), .int .i64 (ru : Int)], .int .i64 12]) (by kernel_rfl) (x_results [.cell 6 34, .tmp 7] [.agg #[.int .i64 r, .int .i64 s, .int .i64 b, .int .i64 o, .int .i64 c, .int .i64 y, .int .i64 z, lv, pv, kv, .int .i64 (pu : Int), .int .i64 (ru : Int)], .int .i64 12] _ rfl (AllR.cell (by kernel_rfl) (ldR H 0 g2 0 #[.int .i64 r, .int .i64 s, .int .i64 b, .int .i64 o, .int .i64 c, .int .i64 y, .int .i64 z, lv, pv, kv, .int .i64 (pu : Int), .int .i64 (ru : Int)] 34 [.int .i64 r, .int .i64 s, .int .i64 b, .int .i64 o, .int .i64 c, .int .i64 y, .int .i64 z, lv, pv, kv, .int .i64 (pu : Int), .int .i64 (ru : Int)] (by kernel_rfl) (by kernel_rfl) (by kernel_rfl)) (AllR.tmp (by kernel_rfl) AllR.nil)) (by kernel_rfl)) ?_
      exfalso
      unfold rpE at he
      rw [if_pos (by omega)] at he
      omega
    have h2p := of_decide_eq_true h2
    refine x_b H [.k, .k, .k, .k, .k, .m, .m, .k, .k, .k, .k, .k, .k, .k, .k, .m] <| x_nil <| x_then <| x_t (by kernel_rfl) <| x_seq <| x_region <| x_b H [.n 1 0 12 34] ?_
    have h17o := (H.ro R0).rowOne 0 rfl
    have h18o := (H.ro R0).rowOne 1 rfl
    have h19o := (H.ro R0).rowOne 2 rfl
    refine z_store H 0 0 [.int .i64 r, .int .i64 s, .int .i64 b, .int .i64 o, .int .i64 c, .int .i64 y, .int .i64 z, lv, pv, kv, .int .i64 (pu : Int), .int .i64 (ru : Int)] (fun v12 H => ?_) (h1 := (by simp only [List.all_cons, List.all_nil, h17o, h18o, h19o, Bool.and_true, Bool.true_and] <;> rfl))
    refine x_b H [.m] <| x_nil <| x_then <| x_retc <| x_then_ret <| x_ret (.tuple #[.agg #[.int .i64 r, .int .i64 s, .int .i64 b, .int .i64 o, .int .i64 c, .int .i64 y, .int .i64 z, lv, pv, kv, .int .i64 (pu : Int), .int .i64 (ru : Int)], .int .i64 12]) (by kernel_rfl) (x_results [.cell 6 34, .tmp 7] [.agg #[.int .i64 r, .int .i64 s, .int .i64 b, .int .i64 o, .int .i64 c, .int .i64 y, .int .i64 z, lv, pv, kv, .int .i64 (pu : Int), .int .i64 (ru : Int)], .int .i64 12] _ rfl (AllR.cell (by kernel_rfl) (ldR H 0 g2 0 #[.int .i64 r, .int .i64 s, .int .i64 b, .int .i64 o, .int .i64 c, .int .i64 y, .int .i64 z, lv, pv, kv, .int .i64 (pu : Int), .int .i64 (ru : Int)] 34 [.int .i64 r, .int .i64 s, .int .i64 b, .int .i64 o, .int .i64 c, .int .i64 y, .int .i64 z, lv, pv, kv, .int .i64 (pu : Int), .int .i64 (ru : Int)] (by kernel_rfl) (by kernel_rfl) (by kernel_rfl)) (AllR.tmp (by kernel_rfl) AllR.nil)) (by kernel_rfl)) ?_
    exfalso
    unfold rpE at he
    rw [if_pos (by omega)] at he
    omega
  have h1p := of_decide_eq_true h1
  refine x_b H [.k, .k, .k, .k, .k, .m, .m, .k, .k, .k, .k, .k, .m, .m, .k, .k, .k, .k, .k, .k, .k, .k, .m] <| x_nil <| x_then <| x_t (by kernel_rfl) <| x_seq <| x_region <| x_b H [.n 1 0 12 34] ?_
  have h20o := (H.ro R0).rowOne 0 rfl
  have h21o := (H.ro R0).rowOne 1 rfl
  have h22o := (H.ro R0).rowOne 2 rfl
  refine z_store H 0 0 [.int .i64 r, .int .i64 s, .int .i64 b, .int .i64 o, .int .i64 c, .int .i64 y, .int .i64 z, lv, pv, kv, .int .i64 (pu : Int), .int .i64 (ru : Int)] (fun v13 H => ?_) (h1 := (by simp only [List.all_cons, List.all_nil, h20o, h21o, h22o, Bool.and_true, Bool.true_and] <;> rfl))
  refine x_b H [.m] <| x_nil <| x_then <| x_retc <| x_then_ret <| x_ret (.tuple #[.agg #[.int .i64 r, .int .i64 s, .int .i64 b, .int .i64 o, .int .i64 c, .int .i64 y, .int .i64 z, lv, pv, kv, .int .i64 (pu : Int), .int .i64 (ru : Int)], .int .i64 12]) (by kernel_rfl) (x_results [.cell 6 34, .tmp 7] [.agg #[.int .i64 r, .int .i64 s, .int .i64 b, .int .i64 o, .int .i64 c, .int .i64 y, .int .i64 z, lv, pv, kv, .int .i64 (pu : Int), .int .i64 (ru : Int)], .int .i64 12] _ rfl (AllR.cell (by kernel_rfl) (ldR H 0 g2 0 #[.int .i64 r, .int .i64 s, .int .i64 b, .int .i64 o, .int .i64 c, .int .i64 y, .int .i64 z, lv, pv, kv, .int .i64 (pu : Int), .int .i64 (ru : Int)] 34 [.int .i64 r, .int .i64 s, .int .i64 b, .int .i64 o, .int .i64 c, .int .i64 y, .int .i64 z, lv, pv, kv, .int .i64 (pu : Int), .int .i64 (ru : Int)] (by kernel_rfl) (by kernel_rfl) (by kernel_rfl)) (AllR.tmp (by kernel_rfl) AllR.nil)) (by kernel_rfl)) ?_
  exfalso
  unfold rpE at he
  rw [if_pos (by omega)] at he
  omega
end Go.Proofs.YtpmnnijjohlloaaGreat
