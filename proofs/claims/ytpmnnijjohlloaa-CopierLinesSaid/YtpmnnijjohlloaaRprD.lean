/- Contracts of a job over a map. -/
import Derived.Test.YtpmnnijjohlloaaRprG
import Derived.Test.YtpmnnijjohlloaaPxZ
namespace Go.Proofs.Ytpmnnijjohlloaa
open Go Go.RowKit
set_option linter.unusedVariables false
set_option linter.unusedSimpArgs false
set_option maxRecDepth 100000 in
set_option maxHeartbeats 4000000 in
theorem cbelow_any (i n : Int) (w0 : World) :
    Calls Try.prog 97 #[.int .i64 i, .int .i64 n] w0 fun e w' => e = .returned (.bool (decide (0 ≤ i) && decide (i < n))) ∧ Below w0.heap.size w0 w' := by
  refine z_enter Try.func97 rfl ?_
  have H := Hs.nil w0
  refine x_seq <| x_region <| x_b H [.m] <| x_nil <| x_then <| x_seq <| x_region ?_
  refine x_b H [.m, .v (.bool (decide (0 ≤ i))), .v (.bool (decide (0 ≤ i)))] ?_
  cases h1 : decide (0 ≤ i)
  · skip
    have h1p := of_decide_eq_false h1
    refine x_b H [.k, .k, .k, .m, .m] <| x_nil <| x_then <| x_retc <| x_ret (.bool false) (by kernel_rfl) (by kernel_rfl) ?_
    exact ⟨by simp [h1], H.below⟩
  have h1p := of_decide_eq_true h1
  refine x_b H [.m, .m, .v (.bool (decide (i < n))), .v (.bool (decide (i < n))), .v (.bool (decide (i < n)))] <| x_nil <| x_then <| x_retc <| x_ret (.bool (decide (i < n))) (by kernel_rfl) (by kernel_rfl) ?_
  exact ⟨by simp [h1], H.below⟩
set_option maxRecDepth 100000 in
set_option maxHeartbeats 4000000 in
theorem PerRank_of {r s b o c : Int} (hg : geomOk r s b o c = true) (w0 : World) :
    Calls Try.prog 100 #[.agg #[.int .i64 r, .int .i64 s, .int .i64 b, .int .i64 o, .int .i64 c]] w0 fun e w' => e = .returned (.int .i64 (b * o * c)) ∧ Below w0.heap.size w0 w' := by
  refine z_enter Try.func100 rfl ?_
  have H := Hs.nil w0
  obtain ⟨⟨d1, d2⟩, ⟨d3, d4⟩, ⟨d5, d6⟩, ⟨d7, d8⟩, ⟨d9, d10⟩, _⟩ := geom_bd hg
  obtain ⟨u1, u2⟩ := mul_bd (x := b) (y := o) (p := 16) (q := 1024) (by omega) (by omega) (by omega) (by omega)
  obtain ⟨u3, u4⟩ := mul_bd (x := b * o) (y := c) (p := 16384) (q := 64) (by omega) (by omega) (by omega) (by omega)
  refine x_seq <| x_region <| z_box H #[.int .i64 r, .int .i64 s, .int .i64 b, .int .i64 o, .int .i64 c] 23 (fun v1 g1 H => ?_)
  refine x_b H [.m] <| x_nil <| x_then <| x_seq <| x_seq <| x_region <| x_b H [.n 0 0 5 23] ?_
  refine z_callB (v := .bool (geomOk r s b o c)) H (gRight_any _ _ _ _ _ (by omega) (by omega) (by omega) (by omega) _) fun v2 H => x_b H [.v (.bool (!(geomOk r s b o c)))] <| x_nil <| x_then ?_
  rw [hg]
  refine x_f (by kernel_rfl) <| x_skipc <| x_then <| x_seq <| x_region <| x_b H [.m, .l 0 2, .m, .l 0 3] <| z_ar (b * o) ?_
  refine x_b H [.m, .l 0 4] <| z_ar ((b * o) * c) <| x_b H [.m] <| x_nil <| x_then <| x_retc <| x_ret (.int .i64 ((b * o) * c)) (by kernel_rfl) (by kernel_rfl) ?_
  exact ⟨rfl, H.below⟩
set_option maxRecDepth 100000 in
set_option maxHeartbeats 4000000 in
theorem Count_any {r s b o c y z : Int} {pg sn ns : Nat} (hL : Lay r s b o c y z pg sn ns) (j : Job4) (w0 : World) :
    Calls Try.prog 51 #[.agg #[.int .i64 j.1, .int .i64 j.2.1, .int .i64 j.2.2.1, .int .i64 j.2.2.2], .agg #[.int .i64 r, .int .i64 s, .int .i64 b, .int .i64 o, .int .i64 c, .int .i64 y, .int .i64 z]] w0 fun e w' => e = .returned (.int .i64 (Rp.cnt b o c j)) ∧ Below w0.heap.size w0 w' := by
  refine z_enter Try.func51 rfl ?_
  have H := Hs.nil w0
  have hg := geom_of hL
  refine x_seq <| x_region <| z_box H #[.int .i64 j.1, .int .i64 j.2.1, .int .i64 j.2.2.1, .int .i64 j.2.2.2] 77 (fun v1 g1 H => ?_)
  refine z_box H #[.int .i64 r, .int .i64 s, .int .i64 b, .int .i64 o, .int .i64 c, .int .i64 y, .int .i64 z] 25 (fun v2 g2 H => ?_)
  refine x_b H [.m] <| x_nil <| x_then <| x_seq <| x_seq <| x_region <| x_b H [.m, .l 1 0] ?_
  refine x_nil <| x_then <| x_block <| x_seq <| x_region <| x_b H [.v (.bool (decide (j.1 = 1))), .v (.bool (decide (j.1 = 1)))] <| x_nil ?_
  refine x_then ?_
  cases h1 : decide (j.1 = 1)
  · skip
    have h1p := of_decide_eq_false h1
    refine x_f (by kernel_rfl) <| x_seq <| x_region <| x_b H [.v (.bool (decide (j.1 = 2))), .v (.bool (decide (j.1 = 2)))] <| x_nil <| x_then ?_
    cases h2 : decide (j.1 = 2)
    · skip
      have h2p := of_decide_eq_false h2
      refine x_f (by kernel_rfl) <| x_skipc <| x_blk <| x_then <| x_seq <| x_region <| x_b H [.m] ?_
      refine x_nil <| x_then <| x_retc <| x_ret (.int .i64 0) (by kernel_rfl) (by kernel_rfl) ?_
      exact ⟨by unfold Rp.cnt; rw [if_neg h1p, if_neg h2p], H.below⟩
    have h2p := of_decide_eq_true h2
    refine x_t (by kernel_rfl) <| x_seq <| x_region <| x_b H [.m, .n 0 0 5 23] <| z_callB H (PerRank_of hg _) fun v3 H => x_b H [.m] <| x_nil ?_
    refine x_then <| x_retc <| x_blk_ret <| x_then_ret <| x_ret (.int .i64 (b * o * c)) (by kernel_rfl) (by kernel_rfl) ?_
    exact ⟨by unfold Rp.cnt; rw [if_neg h1p, if_pos h2p], H.below⟩
  have h1p := of_decide_eq_true h1
  refine x_t (by kernel_rfl) <| x_seq <| x_region <| x_b H [.m, .m, .l 0 4, .m] <| x_nil <| x_then <| x_retc ?_
  refine x_blk_ret <| x_then_ret <| x_ret (.int .i64 c) (by kernel_rfl) (by kernel_rfl) ?_
  exact ⟨by unfold Rp.cnt; rw [if_pos h1p], H.below⟩
set_option maxRecDepth 100000 in
set_option maxHeartbeats 4000000 in
theorem Done_any {r s b o c y z : Int} {pg sn ns : Nat} (hL : Lay r s b o c y z pg sn ns) (j : Job4) (w0 : World) :
    Calls Try.prog 55 #[.agg #[.int .i64 j.1, .int .i64 j.2.1, .int .i64 j.2.2.1, .int .i64 j.2.2.2], .agg #[.int .i64 r, .int .i64 s, .int .i64 b, .int .i64 o, .int .i64 c, .int .i64 y, .int .i64 z]] w0 fun e w' => e = .returned (.bool (!(decide (j.1 = 0)) && decide (j.2.2.2 = (Rp.cnt b o c j)))) ∧ Below w0.heap.size w0 w' := by
  refine z_enter Try.func55 rfl ?_
  have H := Hs.nil w0
  refine x_seq <| x_region <| z_box H #[.int .i64 j.1, .int .i64 j.2.1, .int .i64 j.2.2.1, .int .i64 j.2.2.2] 77 (fun v1 g1 H => ?_)
  refine z_box H #[.int .i64 r, .int .i64 s, .int .i64 b, .int .i64 o, .int .i64 c, .int .i64 y, .int .i64 z] 25 (fun v2 g2 H => ?_)
  refine x_b H [.m] <| x_nil <| x_then <| x_seq <| z_region_whole H <| q_b [.m, .l 1 0, .v (.bool (!(decide (j.1 = 0)))), .v (.bool (!(decide (j.1 = 0))))] ?_
  cases h1 : decide (j.1 = 0)
  · skip
    have h1p := of_decide_eq_false h1
    refine q_b [.m, .l 1 3, .n 1 0 4 77, .n 0 0 7 25] <| q_callB (.int .i64 (Rp.cnt b o c j)) (by kernel_rfl) (fun _ => by kernel_rfl) (fun _ => (Count_any hL j _)) <| q_b [.v (.bool (decide (j.2.2.2 = (Rp.cnt b o c j)))), .v (.bool (decide (j.2.2.2 = (Rp.cnt b o c j)))), .v (.bool (decide (j.2.2.2 = (Rp.cnt b o c j))))] <| q_nil ?_
    clear H
    intro v3 H
    refine x_then <| x_retc <| x_ret (.bool (decide (j.2.2.2 = (Rp.cnt b o c j)))) (by kernel_rfl) (by kernel_rfl) ?_
    exact ⟨by first | rfl | (congr 2; simp [h1]) | (congr 2; simp_all), H.below⟩
  have h1p := of_decide_eq_true h1
  refine q_b [.k, .k, .k, .k, .k, .k, .m, .m] <| q_nil ?_
  clear H
  intro v4 H
  refine x_then <| x_retc <| x_ret (.bool false) (by kernel_rfl) (by kernel_rfl) ?_
  exact ⟨by first | rfl | (congr 2; simp [h1]) | (congr 2; simp_all), H.below⟩
set_option maxRecDepth 100000 in
set_option maxHeartbeats 4000000 in
theorem cpages_any {r s b o c y z : Int} {pg sn ns : Nat} (hL : Lay r s b o c y z pg sn ns) {p gl cl gd cd gs cs : Nat} {L : List Int} {D : List Bool} {S : List Int} {pu ru : Nat} (hV : MapV r s z sn pg ns L D S pu ru) (j : Job4) (w0 : World) (hR : Ro w0 [.blk p #[.int .i64 r, .int .i64 s, .int .i64 b, .int .i64 o, .int .i64 c, .int .i64 y, .int .i64 z, .slice (some ⟨gl, 0, none⟩) sn cl, .slice (some ⟨gd, 0, none⟩) pg cd, .slice (some ⟨gs, 0, none⟩) ns cs, .int .i64 ((pu : Nat) : Int), .int .i64 ((ru : Nat) : Int)] 118, .row (.slice (some ⟨gl, 0, none⟩) sn cl) 3 1 sn (List.map (Value.int .i64) L), .row (.slice (some ⟨gd, 0, none⟩) pg cd) 4 1 pg (List.map Value.bool D), .row (.slice (some ⟨gs, 0, none⟩) ns cs) 3 1 ns (List.map (Value.int .i64) S)]) :
    Calls Try.prog 98 #[.agg #[.int .i64 j.1, .int .i64 j.2.1, .int .i64 j.2.2.1, .int .i64 j.2.2.2], .pointer (some ⟨p, 0, none⟩)] w0 fun e w' => e = .returned (.bool (cpgB pg D j)) ∧ Below w0.heap.size w0 w' := by
  refine z_enter Try.func98 rfl ?_
  have H := Hs.nil w0
  have R0 := hR
  have hg := geom_of hL
  have hm := hV.m
  have hpu := hm.hp
  have hru := hm.hr
  have hsn := hL.hsn
  have hz0 := hL.z0
  have hz2 := hL.z2
  have hpg2 := hL.pg2
  have hr8 := hL.r8
  have hs8 := hL.s8
  have hr1 := hL.r1
  have hs0 := hL.s0
  have hns := hL.hns
  have hc1 := hL.c1
  have hc2 := hL.c2
  have hb1 := hL.b1
  have hb2 := hL.b2
  have ho1 := hL.o1
  have ho2 := hL.o2
  refine x_seq <| x_region <| z_box H #[.int .i64 j.1, .int .i64 j.2.1, .int .i64 j.2.2.1, .int .i64 j.2.2.2] 77 (fun v1 g1 H => ?_)
  refine x_b H [.m] <| x_nil <| x_then <| x_seq <| x_region <| x_b H [.m] <| z_callB H (Layout_of hL hV.m _ (H.ro R0)) fun v2 H => ?_
  refine x_b H [.m] <| z_callB H (pages_of hL _) fun v3 H => x_b H [.m] <| x_nil <| x_then <| x_seq <| x_region ?_
  refine x_b H [.m, .l 0 1, .m] <| z_callB (v := .bool (decide (0 ≤ j.2.1) && decide (j.2.1 < (pg : Int)))) H (cbelow_any _ _ _) fun v4 H => x_b H [.v (.bool (decide (0 ≤ j.2.1) && decide (j.2.1 < (pg : Int))))] ?_
  cases h1 : decide (0 ≤ j.2.1) && decide (j.2.1 < (pg : Int))
  · skip
    have h1p := and2_f h1
    refine x_b H [.k, .k, .k, .k, .m, .m, .k, .k, .k, .k, .k, .m, .m, .k, .k, .k, .k, .k, .m, .m, .k, .k, .k, .k, .k, .m, .m] <| x_nil <| x_then <| x_retc <| x_ret (.bool false) (by kernel_rfl) (by kernel_rfl) ?_
    have e : cpgB pg D j = false := decide_eq_false fun h => by omega
    exact ⟨by rw [e], H.below⟩
  have h1p := and2_t h1
  refine x_b H [.m, .l 0 2, .m] <| z_callB (v := .bool (decide (0 ≤ j.2.2.1) && decide (j.2.2.1 < (pg : Int)))) H (cbelow_any _ _ _) fun v5 H => x_b H [.v (.bool (decide (0 ≤ j.2.2.1) && decide (j.2.2.1 < (pg : Int)))), .v (.bool (decide (0 ≤ j.2.2.1) && decide (j.2.2.1 < (pg : Int))))] ?_
  cases h2 : decide (0 ≤ j.2.2.1) && decide (j.2.2.1 < (pg : Int))
  · skip
    have h2p := and2_f h2
    refine x_b H [.k, .k, .k, .k, .k, .m, .m, .k, .k, .k, .k, .k, .m, .m, .k, .k, .k, .k, .k, .m, .m] <| x_nil <| x_then <| x_retc <| x_ret (.bool false) (by kernel_rfl) (by kernel_rfl) ?_
    have e : cpgB pg D j = false := decide_eq_false fun h => by omega
    exact ⟨by rw [e], H.below⟩
  have h2p := and2_t h2
  refine x_b H [.m, .l 0 1, .m, .l 0 2, .v (.bool (!(decide (j.2.1 = j.2.2.1)))), .v (.bool (!(decide (j.2.1 = j.2.2.1)))), .v (.bool (!(decide (j.2.1 = j.2.2.1))))] ?_
  cases h3 : decide (j.2.1 = j.2.2.1)
  · skip
    have h3p := of_decide_eq_false h3
    refine x_b H [.m, .m, .l 0 1] ?_
    cases h4 : D.getD (Int.toNat j.2.1) false
    · skip
      refine z_callB (v := .bool false) H (by have h := Dead_any hL hV j.2.1 _ (H.ro R0); unfold ddV at h; rw [decide_eq_true (show 0 ≤ j.2.1 ∧ j.2.1 < (pg : Int) by omega), Bool.true_and, h4] at h; exact h) fun v6 H => x_b H [.m, .m, .m, .m, .m, .l 0 2] ?_
      cases h5 : D.getD (Int.toNat j.2.2.1) false
      · skip
        refine z_callB (v := .bool false) H (by have h := Dead_any hL hV j.2.2.1 _ (H.ro R0); unfold ddV at h; rw [decide_eq_true (show 0 ≤ j.2.2.1 ∧ j.2.2.1 < (pg : Int) by omega), Bool.true_and, h5] at h; exact h) fun v7 H => x_b H [.m, .m, .m] <| x_nil <| x_then <| x_retc <| x_ret (.bool true) (by kernel_rfl) (by kernel_rfl) ?_
        have e : cpgB pg D j = true := decide_eq_true ⟨by omega, by omega, by omega, by assumption, by assumption⟩
        exact ⟨by rw [e], H.below⟩
      refine z_callB (v := .bool true) H (by have h := Dead_any hL hV j.2.2.1 _ (H.ro R0); unfold ddV at h; rw [decide_eq_true (show 0 ≤ j.2.2.1 ∧ j.2.2.1 < (pg : Int) by omega), Bool.true_and, h5] at h; exact h) fun v8 H => x_b H [.m, .m, .m] <| x_nil <| x_then <| x_retc <| x_ret (.bool false) (by kernel_rfl) (by kernel_rfl) ?_
      have e : cpgB pg D j = false := decide_eq_false fun h => absurd (h.2.2.2.2.symm.trans h5) (by decide)
      exact ⟨by rw [e], H.below⟩
    refine z_callB (v := .bool true) H (by have h := Dead_any hL hV j.2.1 _ (H.ro R0); unfold ddV at h; rw [decide_eq_true (show 0 ≤ j.2.1 ∧ j.2.1 < (pg : Int) by omega), Bool.true_and, h4] at h; exact h) fun v9 H => x_b H [.m, .m, .m, .k, .k, .k, .k, .k, .m, .m] <| x_nil <| x_then <| x_retc <| x_ret (.bool false) (by kernel_rfl) (by kernel_rfl) ?_
    have e : cpgB pg D j = false := decide_eq_false fun h => absurd (h.2.2.2.1.symm.trans h4) (by decide)
    exact ⟨by rw [e], H.below⟩
  have h3p := of_decide_eq_true h3
  refine x_b H [.k, .k, .k, .k, .k, .m, .m, .k, .k, .k, .k, .k, .m, .m] <| x_nil <| x_then <| x_retc <| x_ret (.bool false) (by kernel_rfl) (by kernel_rfl) ?_
  have e : cpgB pg D j = false := decide_eq_false fun h => by omega
  exact ⟨by rw [e], H.below⟩
set_option maxRecDepth 100000 in
set_option maxHeartbeats 4000000 in
theorem cranks_any {r s b o c y z : Int} {pg sn ns : Nat} (hL : Lay r s b o c y z pg sn ns) {p gl cl gd cd gs cs : Nat} {L : List Int} {D : List Bool} {S : List Int} {pu ru : Nat} (hV : MapV r s z sn pg ns L D S pu ru) (j : Job4) (ht : -9223372036854775808 ≤ j.2.2.1 ∧ j.2.2.1 ≤ 9223372036854775807) (w0 : World) (hR : Ro w0 [.blk p #[.int .i64 r, .int .i64 s, .int .i64 b, .int .i64 o, .int .i64 c, .int .i64 y, .int .i64 z, .slice (some ⟨gl, 0, none⟩) sn cl, .slice (some ⟨gd, 0, none⟩) pg cd, .slice (some ⟨gs, 0, none⟩) ns cs, .int .i64 ((pu : Nat) : Int), .int .i64 ((ru : Nat) : Int)] 118, .row (.slice (some ⟨gl, 0, none⟩) sn cl) 3 1 sn (List.map (Value.int .i64) L), .row (.slice (some ⟨gd, 0, none⟩) pg cd) 4 1 pg (List.map Value.bool D), .row (.slice (some ⟨gs, 0, none⟩) ns cs) 3 1 ns (List.map (Value.int .i64) S)]) :
    Calls Try.prog 99 #[.agg #[.int .i64 j.1, .int .i64 j.2.1, .int .i64 j.2.2.1, .int .i64 j.2.2.2], .pointer (some ⟨p, 0, none⟩)] w0 fun e w' => e = .returned (.bool (crkB r s ns S j)) ∧ Below w0.heap.size w0 w' := by
  refine z_enter Try.func99 rfl ?_
  have H := Hs.nil w0
  have R0 := hR
  have hg := geom_of hL
  have hm := hV.m
  have hpu := hm.hp
  have hru := hm.hr
  have hsn := hL.hsn
  have hz0 := hL.z0
  have hz2 := hL.z2
  have hpg2 := hL.pg2
  have hr8 := hL.r8
  have hs8 := hL.s8
  have hr1 := hL.r1
  have hs0 := hL.s0
  have hns := hL.hns
  have hc1 := hL.c1
  have hc2 := hL.c2
  have hb1 := hL.b1
  have hb2 := hL.b2
  have ho1 := hL.o1
  have ho2 := hL.o2
  have hwr := wrap_range (t := j.2.2.1) (a := r) (n := s) ht (by omega) (by omega)
  refine x_seq <| x_region <| z_box H #[.int .i64 j.1, .int .i64 j.2.1, .int .i64 j.2.2.1, .int .i64 j.2.2.2] 77 (fun v1 g1 H => ?_)
  refine x_b H [.m] <| x_nil <| x_then <| x_seq <| x_region <| x_b H [.m] <| z_callB H (Layout_of hL hV.m _ (H.ro R0)) fun v2 H => ?_
  refine x_b H [.m] <| z_box H #[.int .i64 0, .int .i64 0, .int .i64 0, .int .i64 0, .int .i64 0] 23 (fun v3 g2 H => ?_)
  refine z_store H 0 0 [.int .i64 r, .int .i64 s, .int .i64 b, .int .i64 o, .int .i64 c] (fun v4 H => ?_)
  refine x_nil <| x_then <| x_seq <| x_region <| x_b H [.m, .m, .l 1 1] ?_
  cases h1 : decide (0 ≤ j.2.1 ∧ j.2.1 < (ns : Int))
  · skip
    have h1p := of_decide_eq_false h1
    refine z_callB (v := .tuple #[.int .i64 0, .bool false]) H (by have h := Spare_any hL hV j.2.1 _ (H.ro R0); unfold spV spK at h; rw [h1, Bool.false_and] at h; exact h) fun v5 H => x_b H [.m, .m, .m, .m, .m] <| x_nil <| x_then <| x_seq <| x_region <| x_b H [.m, .l 1 1, .m, .l 0 0] ?_
    refine z_callB (v := .bool (decide (0 ≤ j.2.1) && decide (j.2.1 < r))) H (cbelow_any _ _ _) fun v6 H => x_b H [.v (.bool (decide (0 ≤ j.2.1) && decide (j.2.1 < r)))] ?_
    cases h2 : decide (0 ≤ j.2.1) && decide (j.2.1 < r)
    · skip
      have h2p := and2_f h2
      refine x_b H [.k, .k, .m, .m, .k, .k, .k, .k, .k, .k, .k, .k, .m, .m] <| x_nil <| x_then <| x_retc <| x_ret (.bool false) (by kernel_rfl) (by kernel_rfl) ?_
      have e : crkB r s ns S j = (false) := decide_eq_false fun h => by omega
      exact ⟨by rw [e], H.below⟩
    have h2p := and2_t h2
    refine x_b H [.m, .m, .m, .m, .m, .l 1 2, .m, .l 0 0] <| x_val (.int .i64 (IntKind.i64.wrap (j.2.2.1 - r))) (by kernel_rfl) rfl (by kernel_rfl) <| x_b H [.m, .l 0 1] <| z_callB (v := .bool (decide (0 ≤ (IntKind.i64.wrap (j.2.2.1 - r))) && decide ((IntKind.i64.wrap (j.2.2.1 - r)) < s))) H (cbelow_any _ _ _) fun v7 H => x_b H [.v (.bool (decide (0 ≤ (IntKind.i64.wrap (j.2.2.1 - r))) && decide ((IntKind.i64.wrap (j.2.2.1 - r)) < s))), .v (.bool (decide (0 ≤ (IntKind.i64.wrap (j.2.2.1 - r))) && decide ((IntKind.i64.wrap (j.2.2.1 - r)) < s)))] <| x_nil <| x_then ?_
    refine x_retc <| x_ret (.bool (decide (0 ≤ (IntKind.i64.wrap (j.2.2.1 - r))) && decide ((IntKind.i64.wrap (j.2.2.1 - r)) < s))) (by kernel_rfl) (by kernel_rfl) ?_
    have e : crkB r s ns S j = ((decide (0 ≤ (IntKind.i64.wrap (j.2.2.1 - r))) && decide ((IntKind.i64.wrap (j.2.2.1 - r)) < s))) := by
      unfold crkB
      rw [Bool.eq_iff_iff]
      simp only [Bool.and_eq_true, decide_eq_true_eq]
      refine ⟨fun h => by omega, fun h => ⟨by omega, by omega, by omega⟩⟩
    exact ⟨by rw [e], H.below⟩
  have h1p := of_decide_eq_true h1
  cases h3 : decide (S.getD (Int.toNat j.2.1) 0 = -1)
  · skip
    have h3p := of_decide_eq_false h3
    refine z_callB (v := .tuple #[.int .i64 (S.getD (Int.toNat j.2.1) 0), .bool true]) H (by have h := Spare_any hL hV j.2.1 _ (H.ro R0); unfold spV spK at h; rw [h1, h3] at h; exact h) fun v8 H => x_b H [.m, .m, .m, .m, .m] <| x_nil <| x_then <| x_seq <| x_region <| x_b H [.m, .l 1 1, .m, .l 0 0] ?_
    refine z_callB (v := .bool (decide (0 ≤ j.2.1) && decide (j.2.1 < r))) H (cbelow_any _ _ _) fun v9 H => x_b H [.v (.bool (decide (0 ≤ j.2.1) && decide (j.2.1 < r)))] ?_
    cases h4 : decide (0 ≤ j.2.1) && decide (j.2.1 < r)
    · skip
      have h4p := and2_f h4
      refine x_b H [.k, .k, .m, .m, .k, .k, .k, .k, .k, .k, .k, .k, .m, .m] <| x_nil <| x_then <| x_retc <| x_ret (.bool false) (by kernel_rfl) (by kernel_rfl) ?_
      have e : crkB r s ns S j = (false) := decide_eq_false fun h => by omega
      exact ⟨by rw [e], H.below⟩
    have h4p := and2_t h4
    refine x_b H [.m, .m, .m, .m, .k, .k, .k, .k, .k, .k, .k, .k, .m, .m] <| x_nil <| x_then <| x_retc <| x_ret (.bool false) (by kernel_rfl) (by kernel_rfl) ?_
    have e : crkB r s ns S j = (false) := decide_eq_false fun h => by omega
    exact ⟨by rw [e], H.below⟩
  have h3p := of_decide_eq_true h3
  refine z_callB (v := .tuple #[.int .i64 0, .bool false]) H (by have h := Spare_any hL hV j.2.1 _ (H.ro R0); unfold spV spK at h; rw [h1, h3] at h; exact h) fun v10 H => x_b H [.m, .m, .m, .m, .m] <| x_nil <| x_then <| x_seq <| x_region <| x_b H [.m, .l 1 1, .m, .l 0 0] ?_
  refine z_callB (v := .bool (decide (0 ≤ j.2.1) && decide (j.2.1 < r))) H (cbelow_any _ _ _) fun v11 H => x_b H [.v (.bool (decide (0 ≤ j.2.1) && decide (j.2.1 < r)))] ?_
  cases h5 : decide (0 ≤ j.2.1) && decide (j.2.1 < r)
  · skip
    have h5p := and2_f h5
    refine x_b H [.k, .k, .m, .m, .k, .k, .k, .k, .k, .k, .k, .k, .m, .m] <| x_nil <| x_then <| x_retc <| x_ret (.bool false) (by kernel_rfl) (by kernel_rfl) ?_
    have e : crkB r s ns S j = (false) := decide_eq_false fun h => by omega
    exact ⟨by rw [e], H.below⟩
  have h5p := and2_t h5
  refine x_b H [.m, .m, .m, .m, .m, .l 1 2, .m, .l 0 0] <| x_val (.int .i64 (IntKind.i64.wrap (j.2.2.1 - r))) (by kernel_rfl) rfl (by kernel_rfl) <| x_b H [.m, .l 0 1] <| z_callB (v := .bool (decide (0 ≤ (IntKind.i64.wrap (j.2.2.1 - r))) && decide ((IntKind.i64.wrap (j.2.2.1 - r)) < s))) H (cbelow_any _ _ _) fun v12 H => x_b H [.v (.bool (decide (0 ≤ (IntKind.i64.wrap (j.2.2.1 - r))) && decide ((IntKind.i64.wrap (j.2.2.1 - r)) < s))), .v (.bool (decide (0 ≤ (IntKind.i64.wrap (j.2.2.1 - r))) && decide ((IntKind.i64.wrap (j.2.2.1 - r)) < s)))] <| x_nil <| x_then ?_
  refine x_retc <| x_ret (.bool (decide (0 ≤ (IntKind.i64.wrap (j.2.2.1 - r))) && decide ((IntKind.i64.wrap (j.2.2.1 - r)) < s))) (by kernel_rfl) (by kernel_rfl) ?_
  have e : crkB r s ns S j = ((decide (0 ≤ (IntKind.i64.wrap (j.2.2.1 - r))) && decide ((IntKind.i64.wrap (j.2.2.1 - r)) < s))) := by
    unfold crkB
    rw [Bool.eq_iff_iff]
    simp only [Bool.and_eq_true, decide_eq_true_eq]
    refine ⟨fun h => by omega, fun h => ⟨by omega, by omega, by omega⟩⟩
  exact ⟨by rw [e], H.below⟩
set_option maxRecDepth 100000 in
set_option maxHeartbeats 4000000 in
theorem Right_any {r s b o c y z : Int} {pg sn ns : Nat} (hL : Lay r s b o c y z pg sn ns) {p gl cl gd cd gs cs : Nat} {L : List Int} {D : List Bool} {S : List Int} {pu ru : Nat} (hV : MapV r s z sn pg ns L D S pu ru) (j : Job4) (ht : -9223372036854775808 ≤ j.2.2.1 ∧ j.2.2.1 ≤ 9223372036854775807) (w0 : World) (hR : Ro w0 [.blk p #[.int .i64 r, .int .i64 s, .int .i64 b, .int .i64 o, .int .i64 c, .int .i64 y, .int .i64 z, .slice (some ⟨gl, 0, none⟩) sn cl, .slice (some ⟨gd, 0, none⟩) pg cd, .slice (some ⟨gs, 0, none⟩) ns cs, .int .i64 ((pu : Nat) : Int), .int .i64 ((ru : Nat) : Int)] 118, .row (.slice (some ⟨gl, 0, none⟩) sn cl) 3 1 sn (List.map (Value.int .i64) L), .row (.slice (some ⟨gd, 0, none⟩) pg cd) 4 1 pg (List.map Value.bool D), .row (.slice (some ⟨gs, 0, none⟩) ns cs) 3 1 ns (List.map (Value.int .i64) S)]) :
    Calls Try.prog 49 #[.agg #[.int .i64 j.1, .int .i64 j.2.1, .int .i64 j.2.2.1, .int .i64 j.2.2.2], .pointer (some ⟨p, 0, none⟩)] w0 fun e w' => e = .returned (.bool (decide (jrP r s b o c pg ns D S j))) ∧ Below w0.heap.size w0 w' := by
  refine z_enter Try.func49 rfl ?_
  have H := Hs.nil w0
  have R0 := hR
  have hg := geom_of hL
  have hm := hV.m
  have hpu := hm.hp
  have hru := hm.hr
  have hsn := hL.hsn
  have hz0 := hL.z0
  have hz2 := hL.z2
  have hpg2 := hL.pg2
  have hr8 := hL.r8
  have hs8 := hL.s8
  have hr1 := hL.r1
  have hs0 := hL.s0
  have hns := hL.hns
  have hc1 := hL.c1
  have hc2 := hL.c2
  have hb1 := hL.b1
  have hb2 := hL.b2
  have ho1 := hL.o1
  have ho2 := hL.o2
  obtain ⟨hcn0, hcn1⟩ := cnt_bd hg j
  have hcp : ¬ j.1 = 1 ∨ Rp.cnt b o c j = c := by by_cases e : j.1 = 1; exact .inr (by unfold Rp.cnt; rw [if_pos e]); exact .inl e
  have hcr : ¬ j.1 = 2 ∨ Rp.cnt b o c j = b * o * c := by by_cases e : j.1 = 2; exact .inr (by unfold Rp.cnt; rw [if_neg (by omega), if_pos e]); exact .inl e
  refine x_seq <| x_region <| z_box H #[.int .i64 j.1, .int .i64 j.2.1, .int .i64 j.2.2.1, .int .i64 j.2.2.2] 77 (fun v1 g1 H => ?_)
  refine x_b H [.m] <| x_nil <| x_then <| x_seq <| z_region_whole H <| q_b [.m, .l 0 3, .n 0 0 4 77, .m] <| q_callR (.agg #[.int .i64 r, .int .i64 s, .int .i64 b, .int .i64 o, .int .i64 c, .int .i64 y, .int .i64 z]) (by kernel_rfl) (fun _ => by kernel_rfl) (fun _ H => (Layout_of hL hV.m _ (H.ro R0))) ?_
  refine q_callB (.int .i64 (Rp.cnt b o c j)) (by kernel_rfl) (fun _ => by kernel_rfl) (fun _ => (Count_any hL j _)) <| q_ar ((Rp.cnt b o c j) + 1) ⟨by omega, by omega⟩ (by kernel_rfl) (fun _ => by kernel_rfl) <| q_callB (.bool (decide (0 ≤ j.2.2.2) && decide (j.2.2.2 < ((Rp.cnt b o c j) + 1)))) (by kernel_rfl) (fun _ => by kernel_rfl) (fun _ => (cbelow_any _ _ _)) <| q_b [.v (.bool (decide (0 ≤ j.2.2.2) && decide (j.2.2.2 < ((Rp.cnt b o c j) + 1))))] <| q_nil ?_
  clear H
  intro v2 H
  refine x_then <| x_seq <| x_seq <| x_region <| x_b H [.m, .l 0 0] <| x_nil <| x_then ?_
  refine x_block <| x_seq <| x_region <| x_b H [.v (.bool (decide (j.1 = 0))), .v (.bool (decide (j.1 = 0)))] <| x_nil <| x_then ?_
  cases h1 : decide (j.1 = 0)
  · skip
    have h1p := of_decide_eq_false h1
    refine x_f (by kernel_rfl) <| x_seq <| x_region <| x_b H [.v (.bool (decide (j.1 = 1))), .v (.bool (decide (j.1 = 1)))] <| x_nil <| x_then ?_
    cases h2 : decide (j.1 = 1)
    · skip
      have h2p := of_decide_eq_false h2
      refine x_f (by kernel_rfl) <| x_seq <| x_region <| x_b H [.v (.bool (decide (j.1 = 2))), .v (.bool (decide (j.1 = 2)))] <| x_nil <| x_then ?_
      cases h3 : decide (j.1 = 2)
      · skip
        have h3p := of_decide_eq_false h3
        refine x_f (by kernel_rfl) <| x_skipc <| x_blk <| x_then <| x_seq <| x_region <| x_b H [.m] ?_
        refine x_nil <| x_then <| x_retc <| x_ret (.bool false) (by kernel_rfl) (by kernel_rfl) ?_
        have e : decide (jrP r s b o c pg ns D S j) = (false) := decide_eq_false (by unfold jrP; rintro (h | h | h) <;> omega)
        exact ⟨by rw [e], H.below⟩
      have h3p := of_decide_eq_true h3
      refine x_t (by kernel_rfl) <| x_seq <| x_region <| x_b H [.v (.bool (decide (0 ≤ j.2.2.2) && decide (j.2.2.2 < ((Rp.cnt b o c j) + 1)))), .v (.bool (decide (0 ≤ j.2.2.2) && decide (j.2.2.2 < ((Rp.cnt b o c j) + 1))))] ?_
      cases h4 : decide (0 ≤ j.2.2.2) && decide (j.2.2.2 < ((Rp.cnt b o c j) + 1))
      · skip
        have h4p := and2_f h4
        refine x_b H [.k, .k, .k, .m, .m] <| x_nil <| x_then <| x_retc <| x_blk_ret <| x_then_ret <| x_ret (.bool false) (by kernel_rfl) (by kernel_rfl) ?_
        have e : decide (jrP r s b o c pg ns D S j) = (false) := decide_eq_false (by unfold jrP; rintro (h | h | h) <;> omega)
        exact ⟨by rw [e], H.below⟩
      have h4p := and2_t h4
      refine x_b H [.n 0 0 4 77, .m] <| z_callB (v := .bool (crkB r s ns S j)) H (cranks_any hL hV j ht _ (H.ro R0)) fun v3 H => x_b H [.v (.bool (crkB r s ns S j)), .v (.bool (crkB r s ns S j))] <| x_nil <| x_then <| x_retc <| x_blk_ret ?_
      refine x_then_ret <| x_ret (.bool (crkB r s ns S j)) (by kernel_rfl) (by kernel_rfl) ?_
      have e : decide (jrP r s b o c pg ns D S j) = ((crkB r s ns S j)) := by
        unfold crkB
        rw [Bool.eq_iff_iff, decide_eq_true_eq, decide_eq_true_eq]
        unfold jrP
        refine ⟨?_, ?_⟩
        · rintro (h | h | h)
          · omega
          · omega
          · exact h.2.2
        · intro h
          exact .inr (.inr ⟨by omega, by omega, h⟩)
      exact ⟨by rw [e], H.below⟩
    have h2p := of_decide_eq_true h2
    refine x_t (by kernel_rfl) <| x_seq <| x_region <| x_b H [.v (.bool (decide (0 ≤ j.2.2.2) && decide (j.2.2.2 < ((Rp.cnt b o c j) + 1)))), .v (.bool (decide (0 ≤ j.2.2.2) && decide (j.2.2.2 < ((Rp.cnt b o c j) + 1))))] ?_
    cases h5 : decide (0 ≤ j.2.2.2) && decide (j.2.2.2 < ((Rp.cnt b o c j) + 1))
    · skip
      have h5p := and2_f h5
      refine x_b H [.k, .k, .k, .m, .m] <| x_nil <| x_then <| x_retc <| x_blk_ret <| x_then_ret <| x_ret (.bool false) (by kernel_rfl) (by kernel_rfl) ?_
      have e : decide (jrP r s b o c pg ns D S j) = (false) := decide_eq_false (by unfold jrP; rintro (h | h | h) <;> omega)
      exact ⟨by rw [e], H.below⟩
    have h5p := and2_t h5
    refine x_b H [.n 0 0 4 77, .m] <| z_callB (v := .bool (cpgB pg D j)) H (cpages_any hL hV j _ (H.ro R0)) fun v4 H => x_b H [.v (.bool (cpgB pg D j)), .v (.bool (cpgB pg D j))] <| x_nil <| x_then <| x_retc <| x_blk_ret ?_
    refine x_then_ret <| x_ret (.bool (cpgB pg D j)) (by kernel_rfl) (by kernel_rfl) ?_
    have e : decide (jrP r s b o c pg ns D S j) = ((cpgB pg D j)) := by
      unfold cpgB
      rw [Bool.eq_iff_iff, decide_eq_true_eq, decide_eq_true_eq]
      unfold jrP
      refine ⟨?_, ?_⟩
      · rintro (h | h | h)
        · omega
        · exact h.2.2
        · omega
      · intro h
        exact .inr (.inl ⟨by omega, by omega, h⟩)
    exact ⟨by rw [e], H.below⟩
  have h1p := of_decide_eq_true h1
  refine x_t (by kernel_rfl) <| x_seq <| x_region <| x_b H [.n 0 0 4 77, .m] <| x_val (.bool (decide ((j.1 : Int) = 0) && (decide ((j.2.1 : Int) = 0) && (decide ((j.2.2.1 : Int) = 0) && (decide ((j.2.2.2 : Int) = 0) && true))))) (by kernel_rfl) rfl (run_eqS (t := 77) (x := .tmp 18) (y := .tmp 19) (xs := #[.int .i64 j.1, .int .i64 j.2.1, .int .i64 j.2.2.1, .int .i64 j.2.2.2]) (ys := #[.int .i64 0, .int .i64 0, .int .i64 0, .int .i64 0]) (B := decide ((j.1 : Int) = 0) && (decide ((j.2.1 : Int) = 0) && (decide ((j.2.2.1 : Int) = 0) && (decide ((j.2.2.2 : Int) = 0) && true)))) (by kernel_rfl) (by kernel_rfl) (by kernel_rfl)) <| x_b H [.v (.bool (decide ((j.1 : Int) = 0) && (decide ((j.2.1 : Int) = 0) && (decide ((j.2.2.1 : Int) = 0) && (decide ((j.2.2.2 : Int) = 0) && true)))))] <| x_nil ?_
  refine x_then <| x_retc <| x_blk_ret <| x_then_ret <| x_ret (.bool (decide ((j.1 : Int) = 0) && (decide ((j.2.1 : Int) = 0) && (decide ((j.2.2.1 : Int) = 0) && (decide ((j.2.2.2 : Int) = 0) && true))))) (by kernel_rfl) (by kernel_rfl) ?_
  have e : decide (jrP r s b o c pg ns D S j) = ((decide ((j.1 : Int) = 0) && (decide ((j.2.1 : Int) = 0) && (decide ((j.2.2.1 : Int) = 0) && (decide ((j.2.2.2 : Int) = 0) && true))))) := by
    rw [Bool.eq_iff_iff]
    simp only [Bool.and_eq_true, decide_eq_true_eq, and_true]
    unfold jrP
    refine ⟨?_, ?_⟩
    · rintro (h | h | h) <;> omega
    · intro h
      exact .inl (by omega)
  exact ⟨by rw [e], H.below⟩
set_option maxRecDepth 100000 in
set_option maxHeartbeats 4000000 in
theorem at_page {r s b o c y z : Int} {pg sn ns : Nat} (hL : Lay r s b o c y z pg sn ns) {p gl cl gd cd gs cs : Nat} {L : List Int} {D : List Bool} {S : List Int} {pu ru : Nat} (hV : MapV r s z sn pg ns L D S pu ru) (j : Job4) (hj : jrP r s b o c pg ns D S j) (ht : -9223372036854775808 ≤ j.2.2.1 ∧ j.2.2.1 ≤ 9223372036854775807) (hk : j.1 = 1) (wh i : Int) (hw : 0 ≤ wh ∧ wh < (pg : Int)) (hi : 0 ≤ i ∧ i < (Rp.cnt b o c j)) (w0 : World) (hR : Ro w0 [.blk p #[.int .i64 r, .int .i64 s, .int .i64 b, .int .i64 o, .int .i64 c, .int .i64 y, .int .i64 z, .slice (some ⟨gl, 0, none⟩) sn cl, .slice (some ⟨gd, 0, none⟩) pg cd, .slice (some ⟨gs, 0, none⟩) ns cs, .int .i64 ((pu : Nat) : Int), .int .i64 ((ru : Nat) : Int)] 118, .row (.slice (some ⟨gl, 0, none⟩) sn cl) 3 1 sn (List.map (Value.int .i64) L), .row (.slice (some ⟨gd, 0, none⟩) pg cd) 4 1 pg (List.map Value.bool D), .row (.slice (some ⟨gs, 0, none⟩) ns cs) 3 1 ns (List.map (Value.int .i64) S)]) :
    Calls Try.prog 96 #[.agg #[.int .i64 j.1, .int .i64 j.2.1, .int .i64 j.2.2.1, .int .i64 j.2.2.2], .pointer (some ⟨p, 0, none⟩), .int .i64 wh, .int .i64 i] w0 fun e w' => e = .returned (.tuple #[.int .i64 (idxP y r b o S wh * 64 + i), .int .i64 0]) ∧ Below w0.heap.size w0 w' := by
  refine z_enter Try.func96 rfl ?_
  have H := Hs.nil w0
  have R0 := hR
  have hg := geom_of hL
  have hm := hV.m
  have hpu := hm.hp
  have hru := hm.hr
  have hsn := hL.hsn
  have hz0 := hL.z0
  have hz2 := hL.z2
  have hpg2 := hL.pg2
  have hr8 := hL.r8
  have hs8 := hL.s8
  have hr1 := hL.r1
  have hs0 := hL.s0
  have hns := hL.hns
  have hc1 := hL.c1
  have hc2 := hL.c2
  have hb1 := hL.b1
  have hb2 := hL.b2
  have ho1 := hL.o1
  have ho2 := hL.o2
  obtain ⟨hcn0, hcn1⟩ := cnt_bd hg j
  have hcp : ¬ j.1 = 1 ∨ Rp.cnt b o c j = c := by by_cases e : j.1 = 1; exact .inr (by unfold Rp.cnt; rw [if_pos e]); exact .inl e
  have hcr : ¬ j.1 = 2 ∨ Rp.cnt b o c j = b * o * c := by by_cases e : j.1 = 2; exact .inr (by unfold Rp.cnt; rw [if_neg (by omega), if_pos e]); exact .inl e
  have kb : (decide (0 ≤ i) && decide (i < (Rp.cnt b o c j))) = true := by simp; omega
  have k2 : decide (j.1 = 2) = false := by simp; omega
  obtain ⟨hx1, hx2⟩ := idxP_in hL hV hw.1 hw.2
  refine x_seq <| x_region <| z_box H #[.int .i64 j.1, .int .i64 j.2.1, .int .i64 j.2.2.1, .int .i64 j.2.2.2] 77 (fun v1 g1 H => ?_)
  refine x_b H [.m, .m] <| x_nil <| x_then <| x_seq <| x_seq <| z_region_whole H <| q_b [.n 0 0 4 77, .m] ?_
  refine q_callR (.bool true) (by kernel_rfl) (fun _ => by kernel_rfl) (fun _ H => (by have h := Right_any hL hV j ht _ (H.ro R0); rw [decide_eq_true hj] at h; exact h)) <| q_b [.m, .m, .m, .n 0 0 4 77, .m] <| q_callR (.agg #[.int .i64 r, .int .i64 s, .int .i64 b, .int .i64 o, .int .i64 c, .int .i64 y, .int .i64 z]) (by kernel_rfl) (fun _ => by kernel_rfl) (fun _ H => (Layout_of hL hV.m _ (H.ro R0))) <| q_callB (.int .i64 (Rp.cnt b o c j)) (by kernel_rfl) (fun _ => by kernel_rfl) (fun _ => (Count_any hL j _)) <| q_callB (.bool (decide (0 ≤ i) && decide (i < (Rp.cnt b o c j)))) (by kernel_rfl) (fun _ => by kernel_rfl) (fun _ => (cbelow_any _ _ _)) <| q_b [.v (.bool (!(decide (0 ≤ i) && decide (i < (Rp.cnt b o c j))))), .v (.bool (!(decide (0 ≤ i) && decide (i < (Rp.cnt b o c j)))))] <| q_nil ?_
  clear H
  intro v2 H
  refine x_then ?_
  rw [kb]
  refine x_f (by kernel_rfl) <| x_skipc <| x_then <| x_seq <| x_seq <| x_region <| x_b H [.m, .l 0 0, .v (.bool (decide (j.1 = 2)))] ?_
  refine x_nil <| x_then ?_
  rw [k2]
  refine x_f (by kernel_rfl) <| x_skipc <| x_then <| x_seq <| x_region <| x_b H [.m, .m] <| z_callB (v := .tuple #[.int .i64 (idxP y r b o S wh), .int .i64 0]) H (by have h := Lies_any hL hV wh _ (H.ro R0); unfold liV rngE at h; rw [if_pos hw, if_pos hw] at h; exact h) fun v3 H => ?_
  refine x_b H [.m, .m, .m, .m, .m] <| x_nil <| x_then <| x_seq <| x_seq <| x_region <| x_b H [.m, .m] ?_
  refine x_nil <| x_then <| x_f (by kernel_rfl) <| x_skipc <| x_then <| x_seq <| x_region ?_
  refine x_b H [.m] <| z_ar ((idxP y r b o S wh) * 64) <| x_b H [.m] <| x_eq (.int .i64 ((idxP y r b o S wh) * 64 + i)) (e_or _ _ (idxP y r b o S wh) 6 (by decide) rfl (by omega) (by omega) (by omega) (by omega)) (by kernel_rfl) rfl (by kernel_rfl) <| x_b H [.m, .m] <| x_nil <| x_then ?_
  refine x_retc <| x_ret (.tuple #[.int .i64 ((idxP y r b o S wh) * 64 + i), .int .i64 0]) (by kernel_rfl) (by kernel_rfl) ?_
  exact ⟨rfl, H.below⟩
set_option maxRecDepth 100000 in
set_option maxHeartbeats 4000000 in
theorem at_rank {r s b o c y z : Int} {pg sn ns : Nat} (hL : Lay r s b o c y z pg sn ns) {p gl cl gd cd gs cs : Nat} {L : List Int} {D : List Bool} {S : List Int} {pu ru : Nat} (hV : MapV r s z sn pg ns L D S pu ru) (j : Job4) (hj : jrP r s b o c pg ns D S j) (ht : -9223372036854775808 ≤ j.2.2.1 ∧ j.2.2.1 ≤ 9223372036854775807) (hk : j.1 = 2) (wh i : Int) (hw : 0 ≤ wh ∧ wh < r + s) (hi : 0 ≤ i ∧ i < (Rp.cnt b o c j)) (w0 : World) (hR : Ro w0 [.blk p #[.int .i64 r, .int .i64 s, .int .i64 b, .int .i64 o, .int .i64 c, .int .i64 y, .int .i64 z, .slice (some ⟨gl, 0, none⟩) sn cl, .slice (some ⟨gd, 0, none⟩) pg cd, .slice (some ⟨gs, 0, none⟩) ns cs, .int .i64 ((pu : Nat) : Int), .int .i64 ((ru : Nat) : Int)] 118, .row (.slice (some ⟨gl, 0, none⟩) sn cl) 3 1 sn (List.map (Value.int .i64) L), .row (.slice (some ⟨gd, 0, none⟩) pg cd) 4 1 pg (List.map Value.bool D), .row (.slice (some ⟨gs, 0, none⟩) ns cs) 3 1 ns (List.map (Value.int .i64) S)]) :
    Calls Try.prog 96 #[.agg #[.int .i64 j.1, .int .i64 j.2.1, .int .i64 j.2.2.1, .int .i64 j.2.2.2], .pointer (some ⟨p, 0, none⟩), .int .i64 wh, .int .i64 i] w0 fun e w' => e = .returned (.tuple #[.int .i64 (nthI o c wh i), .int .i64 0]) ∧ Below w0.heap.size w0 w' := by
  refine z_enter Try.func96 rfl ?_
  have H := Hs.nil w0
  have R0 := hR
  have hg := geom_of hL
  have hm := hV.m
  have hpu := hm.hp
  have hru := hm.hr
  have hsn := hL.hsn
  have hz0 := hL.z0
  have hz2 := hL.z2
  have hpg2 := hL.pg2
  have hr8 := hL.r8
  have hs8 := hL.s8
  have hr1 := hL.r1
  have hs0 := hL.s0
  have hns := hL.hns
  have hc1 := hL.c1
  have hc2 := hL.c2
  have hb1 := hL.b1
  have hb2 := hL.b2
  have ho1 := hL.o1
  have ho2 := hL.o2
  obtain ⟨hcn0, hcn1⟩ := cnt_bd hg j
  have hcp : ¬ j.1 = 1 ∨ Rp.cnt b o c j = c := by by_cases e : j.1 = 1; exact .inr (by unfold Rp.cnt; rw [if_pos e]); exact .inl e
  have hcr : ¬ j.1 = 2 ∨ Rp.cnt b o c j = b * o * c := by by_cases e : j.1 = 2; exact .inr (by unfold Rp.cnt; rw [if_neg (by omega), if_pos e]); exact .inl e
  have kb : (decide (0 ≤ i) && decide (i < (Rp.cnt b o c j))) = true := by simp; omega
  have k2 : decide (j.1 = 2) = true := by simp; omega
  refine x_seq <| x_region <| z_box H #[.int .i64 j.1, .int .i64 j.2.1, .int .i64 j.2.2.1, .int .i64 j.2.2.2] 77 (fun v1 g1 H => ?_)
  refine x_b H [.m, .m] <| x_nil <| x_then <| x_seq <| x_seq <| z_region_whole H <| q_b [.n 0 0 4 77, .m] ?_
  refine q_callR (.bool true) (by kernel_rfl) (fun _ => by kernel_rfl) (fun _ H => (by have h := Right_any hL hV j ht _ (H.ro R0); rw [decide_eq_true hj] at h; exact h)) <| q_b [.m, .m, .m, .n 0 0 4 77, .m] <| q_callR (.agg #[.int .i64 r, .int .i64 s, .int .i64 b, .int .i64 o, .int .i64 c, .int .i64 y, .int .i64 z]) (by kernel_rfl) (fun _ => by kernel_rfl) (fun _ H => (Layout_of hL hV.m _ (H.ro R0))) <| q_callB (.int .i64 (Rp.cnt b o c j)) (by kernel_rfl) (fun _ => by kernel_rfl) (fun _ => (Count_any hL j _)) <| q_callB (.bool (decide (0 ≤ i) && decide (i < (Rp.cnt b o c j)))) (by kernel_rfl) (fun _ => by kernel_rfl) (fun _ => (cbelow_any _ _ _)) <| q_b [.v (.bool (!(decide (0 ≤ i) && decide (i < (Rp.cnt b o c j))))), .v (.bool (!(decide (0 ≤ i) && decide (i < (Rp.cnt b o c j)))))] <| q_nil ?_
  clear H
  intro v2 H
  refine x_then ?_
  rw [kb]
  refine x_f (by kernel_rfl) <| x_skipc <| x_then <| x_seq <| x_seq <| x_region <| x_b H [.m, .l 0 0, .v (.bool (decide (j.1 = 2)))] ?_
  refine x_nil <| x_then ?_
  rw [k2]
  refine x_t (by kernel_rfl) <| x_seq <| x_region <| x_b H [.m] <| z_callB H (Layout_of hL hV.m _ (H.ro R0)) fun v3 H => x_b H [.m, .m, .m] <| z_callB (v := .tuple #[.int .i64 (nthI o c wh i), .int .i64 0]) H (nth_in hg wh i hw (by omega) (by omega) _) fun v4 H => ?_
  refine x_b H [.m, .m, .m, .m] <| x_nil <| x_then <| x_retc <| x_then_ret <| x_ret (.tuple #[.int .i64 (nthI o c wh i), .int .i64 0]) (by kernel_rfl) (by kernel_rfl) ?_
  exact ⟨rfl, H.below⟩
theorem at_in {r s b o c y z : Int} {pg sn ns : Nat} (hL : Lay r s b o c y z pg sn ns) {p gl cl gd cd gs cs : Nat} {L : List Int} {D : List Bool} {S : List Int} {pu ru : Nat} (hV : MapV r s z sn pg ns L D S pu ru) (j : Job4) (hj : jrP r s b o c pg ns D S j) (ht : -9223372036854775808 ≤ j.2.2.1 ∧ j.2.2.1 ≤ 9223372036854775807) (hk : j.1 = 1 ∨ j.1 = 2) (wh i : Int) (hw : wh = j.2.1 ∨ wh = j.2.2.1) (hi : 0 ≤ i ∧ i < (Rp.cnt b o c j)) (w0 : World) (hR : Ro w0 [.blk p #[.int .i64 r, .int .i64 s, .int .i64 b, .int .i64 o, .int .i64 c, .int .i64 y, .int .i64 z, .slice (some ⟨gl, 0, none⟩) sn cl, .slice (some ⟨gd, 0, none⟩) pg cd, .slice (some ⟨gs, 0, none⟩) ns cs, .int .i64 ((pu : Nat) : Int), .int .i64 ((ru : Nat) : Int)] 118, .row (.slice (some ⟨gl, 0, none⟩) sn cl) 3 1 sn (List.map (Value.int .i64) L), .row (.slice (some ⟨gd, 0, none⟩) pg cd) 4 1 pg (List.map Value.bool D), .row (.slice (some ⟨gs, 0, none⟩) ns cs) 3 1 ns (List.map (Value.int .i64) S)]) :
    Calls Try.prog 96 #[.agg #[.int .i64 j.1, .int .i64 j.2.1, .int .i64 j.2.2.1, .int .i64 j.2.2.2], .pointer (some ⟨p, 0, none⟩), .int .i64 wh, .int .i64 i] w0 fun e w' => e = .returned (.tuple #[.int .i64 (atI y r b o c S j.1 wh i), .int .i64 0]) ∧ Below w0.heap.size w0 w' := by
  have hns := hL.hns
  have hs0 := hL.s0
  have hr1 := hL.r1
  rcases hk with hk | hk
  · have e : atI y r b o c S j.1 wh i = idxP y r b o S wh * 64 + i := by unfold atI; rw [if_neg (by omega)]
    rw [e]
    exact at_page hL hV j hj ht hk wh i (by unfold jrP at hj; omega) hi w0 hR
  · have e : atI y r b o c S j.1 wh i = nthI o c wh i := by unfold atI; rw [if_pos hk]
    rw [e]
    exact at_rank hL hV j hj ht hk wh i (by unfold jrP at hj; omega) hi w0 hR
set_option maxRecDepth 100000 in
set_option maxHeartbeats 4000000 in
theorem Source_in {r s b o c y z : Int} {pg sn ns : Nat} (hL : Lay r s b o c y z pg sn ns) {p gl cl gd cd gs cs : Nat} {L : List Int} {D : List Bool} {S : List Int} {pu ru : Nat} (hV : MapV r s z sn pg ns L D S pu ru) (j : Job4) (hj : jrP r s b o c pg ns D S j) (ht : -9223372036854775808 ≤ j.2.2.1 ∧ j.2.2.1 ≤ 9223372036854775807) (hk : j.1 = 1 ∨ j.1 = 2) (i : Int) (hi : 0 ≤ i ∧ i < (Rp.cnt b o c j)) (w0 : World) (hR : Ro w0 [.blk p #[.int .i64 r, .int .i64 s, .int .i64 b, .int .i64 o, .int .i64 c, .int .i64 y, .int .i64 z, .slice (some ⟨gl, 0, none⟩) sn cl, .slice (some ⟨gd, 0, none⟩) pg cd, .slice (some ⟨gs, 0, none⟩) ns cs, .int .i64 ((pu : Nat) : Int), .int .i64 ((ru : Nat) : Int)] 118, .row (.slice (some ⟨gl, 0, none⟩) sn cl) 3 1 sn (List.map (Value.int .i64) L), .row (.slice (some ⟨gd, 0, none⟩) pg cd) 4 1 pg (List.map Value.bool D), .row (.slice (some ⟨gs, 0, none⟩) ns cs) 3 1 ns (List.map (Value.int .i64) S)]) :
    Calls Try.prog 47 #[.agg #[.int .i64 j.1, .int .i64 j.2.1, .int .i64 j.2.2.1, .int .i64 j.2.2.2], .pointer (some ⟨p, 0, none⟩), .int .i64 i] w0 fun e w' => e = .returned (.tuple #[.int .i64 (atI y r b o c S j.1 j.2.1 i), .int .i64 0]) ∧ Below w0.heap.size w0 w' := by
  refine z_enter Try.func47 rfl ?_
  have H := Hs.nil w0
  have R0 := hR
  refine x_seq <| x_region <| z_box H #[.int .i64 j.1, .int .i64 j.2.1, .int .i64 j.2.2.1, .int .i64 j.2.2.2] 77 (fun v1 g1 H => ?_)
  refine x_b H [.m, .m] <| x_nil <| x_then <| x_seq <| x_region <| x_b H [.n 0 0 4 77, .m, .m, .l 0 1, .m] <| z_callB H (at_in hL hV j hj ht hk _ i (.inl rfl) hi _ (H.ro R0)) fun v2 H => ?_
  refine x_b H [.m, .m, .m, .m] <| x_nil <| x_then <| x_retc <| x_ret (.tuple #[.int .i64 (atI y r b o c S j.1 j.2.1 i), .int .i64 0]) (by kernel_rfl) (by kernel_rfl) ?_
  exact ⟨rfl, H.below⟩
set_option maxRecDepth 100000 in
set_option maxHeartbeats 4000000 in
theorem Goal_in {r s b o c y z : Int} {pg sn ns : Nat} (hL : Lay r s b o c y z pg sn ns) {p gl cl gd cd gs cs : Nat} {L : List Int} {D : List Bool} {S : List Int} {pu ru : Nat} (hV : MapV r s z sn pg ns L D S pu ru) (j : Job4) (hj : jrP r s b o c pg ns D S j) (ht : -9223372036854775808 ≤ j.2.2.1 ∧ j.2.2.1 ≤ 9223372036854775807) (hk : j.1 = 1 ∨ j.1 = 2) (i : Int) (hi : 0 ≤ i ∧ i < (Rp.cnt b o c j)) (w0 : World) (hR : Ro w0 [.blk p #[.int .i64 r, .int .i64 s, .int .i64 b, .int .i64 o, .int .i64 c, .int .i64 y, .int .i64 z, .slice (some ⟨gl, 0, none⟩) sn cl, .slice (some ⟨gd, 0, none⟩) pg cd, .slice (some ⟨gs, 0, none⟩) ns cs, .int .i64 ((pu : Nat) : Int), .int .i64 ((ru : Nat) : Int)] 118, .row (.slice (some ⟨gl, 0, none⟩) sn cl) 3 1 sn (List.map (Value.int .i64) L), .row (.slice (some ⟨gd, 0, none⟩) pg cd) 4 1 pg (List.map Value.bool D), .row (.slice (some ⟨gs, 0, none⟩) ns cs) 3 1 ns (List.map (Value.int .i64) S)]) :
    Calls Try.prog 48 #[.agg #[.int .i64 j.1, .int .i64 j.2.1, .int .i64 j.2.2.1, .int .i64 j.2.2.2], .pointer (some ⟨p, 0, none⟩), .int .i64 i] w0 fun e w' => e = .returned (.tuple #[.int .i64 (atI y r b o c S j.1 j.2.2.1 i), .int .i64 0]) ∧ Below w0.heap.size w0 w' := by
  refine z_enter Try.func48 rfl ?_
  have H := Hs.nil w0
  have R0 := hR
  refine x_seq <| x_region <| z_box H #[.int .i64 j.1, .int .i64 j.2.1, .int .i64 j.2.2.1, .int .i64 j.2.2.2] 77 (fun v1 g1 H => ?_)
  refine x_b H [.m, .m] <| x_nil <| x_then <| x_seq <| x_region <| x_b H [.n 0 0 4 77, .m, .m, .l 0 2, .m] <| z_callB H (at_in hL hV j hj ht hk _ i (.inr rfl) hi _ (H.ro R0)) fun v2 H => ?_
  refine x_b H [.m, .m, .m, .m] <| x_nil <| x_then <| x_retc <| x_ret (.tuple #[.int .i64 (atI y r b o c S j.1 j.2.2.1 i), .int .i64 0]) (by kernel_rfl) (by kernel_rfl) ?_
  exact ⟨rfl, H.below⟩
set_option maxRecDepth 100000 in
set_option maxHeartbeats 4000000 in
theorem Route_in {r s b o c y z : Int} {pg sn ns : Nat} (hL : Lay r s b o c y z pg sn ns) {p gl cl gd cd gs cs : Nat} {L : List Int} {D : List Bool} {S : List Int} {pu ru : Nat} (hV : MapV r s z sn pg ns L D S pu ru) (j : Job4) (hj : jrP r s b o c pg ns D S j) (ht : -9223372036854775808 ≤ j.2.2.1 ∧ j.2.2.1 ≤ 9223372036854775807) (n : Int) (hn : 0 ≤ n ∧ n < (sn : Int) * c) (w0 : World) (hR : Ro w0 [.blk p #[.int .i64 r, .int .i64 s, .int .i64 b, .int .i64 o, .int .i64 c, .int .i64 y, .int .i64 z, .slice (some ⟨gl, 0, none⟩) sn cl, .slice (some ⟨gd, 0, none⟩) pg cd, .slice (some ⟨gs, 0, none⟩) ns cs, .int .i64 ((pu : Nat) : Int), .int .i64 ((ru : Nat) : Int)] 118, .row (.slice (some ⟨gl, 0, none⟩) sn cl) 3 1 sn (List.map (Value.int .i64) L), .row (.slice (some ⟨gd, 0, none⟩) pg cd) 4 1 pg (List.map Value.bool D), .row (.slice (some ⟨gs, 0, none⟩) ns cs) 3 1 ns (List.map (Value.int .i64) S)]) :
    Calls Try.prog 95 #[.agg #[.int .i64 j.1, .int .i64 j.2.1, .int .i64 j.2.2.1, .int .i64 j.2.2.2], .pointer (some ⟨p, 0, none⟩), .int .i64 n] w0 fun e w' => e = .returned (.tuple #[.int .i64 (rtI y r b o c S j (L.getD (n / c).toNat 0) (pgAt y r b o (L.getD (n / c).toNat 0) / 16384) (idxP y r b o S (L.getD (n / c).toNat 0) * 64 + n % c) (n % c)), .int .i64 (L.getD (n / c).toNat 0), .int .i64 (pgAt y r b o (L.getD (n / c).toNat 0) / 16384), .int .i64 0]) ∧ Below w0.heap.size w0 w' := by
  refine z_enter Try.func95 rfl ?_
  have H := Hs.nil w0
  have R0 := hR
  have hg := geom_of hL
  have hm := hV.m
  have hpu := hm.hp
  have hru := hm.hr
  have hsn := hL.hsn
  have hz0 := hL.z0
  have hz2 := hL.z2
  have hpg2 := hL.pg2
  have hr8 := hL.r8
  have hs8 := hL.s8
  have hr1 := hL.r1
  have hs0 := hL.s0
  have hns := hL.hns
  have hc1 := hL.c1
  have hc2 := hL.c2
  have hb1 := hL.b1
  have hb2 := hL.b2
  have ho1 := hL.o1
  have ho2 := hL.o2
  obtain ⟨hcn0, hcn1⟩ := cnt_bd hg j
  have hcp : ¬ j.1 = 1 ∨ Rp.cnt b o c j = c := by by_cases e : j.1 = 1; exact .inr (by unfold Rp.cnt; rw [if_pos e]); exact .inl e
  have hcr : ¬ j.1 = 2 ∨ Rp.cnt b o c j = b * o * c := by by_cases e : j.1 = 2; exact .inr (by unfold Rp.cnt; rw [if_neg (by omega), if_pos e]); exact .inl e
  have hq : 0 ≤ n / c ∧ n / c < (sn : Int) := ⟨Int.ediv_nonneg hn.1 (by omega), Int.ediv_lt_of_lt_mul (by omega) hn.2⟩
  have hlv := hV.lv (n / c).toNat (by omega)
  have hcl : 0 ≤ n % c ∧ n % c < c := ⟨Int.emod_nonneg _ (by omega), Int.emod_lt_of_pos _ (by omega)⟩
  obtain ⟨hx1, hx2⟩ := idxP_in hL hV hlv.1 hlv.2
  refine x_seq <| x_region <| z_box H #[.int .i64 j.1, .int .i64 j.2.1, .int .i64 j.2.2.1, .int .i64 j.2.2.2] 77 (fun v1 g1 H => ?_)
  refine x_b H [.m, .m, .m, .m] <| x_nil <| x_then <| x_seq <| x_region <| x_b H [.m, .m] <| z_callB (v := .tuple #[.int .i64 (idxP y r b o S (L.getD (n / c).toNat 0) * 64 + n % c), .int .i64 (L.getD (n / c).toNat 0), .int .i64 (pgAt y r b o (L.getD (n / c).toNat 0) / 16384), .int .i64 0]) H (by have h := Index_any hL hV n _ (H.ro R0); unfold ixI ixH ixR ixE at h; rw [if_pos hn, if_pos hn, if_pos hn, if_pos hn] at h; exact h) fun v2 H => ?_
  refine x_b H [.m, .m, .m, .m, .m, .m, .m, .m, .m] <| x_nil <| x_then <| x_seq <| x_seq <| x_region <| x_b H [.m, .m, .m, .n 0 0 4 77, .m] ?_
  refine z_callB (v := .bool true) H (by have h := Right_any hL hV j ht _ (H.ro R0); rw [decide_eq_true hj] at h; exact h) fun v3 H => x_b H [.m, .m] <| x_nil <| x_then <| x_f (by kernel_rfl) <| x_skipc <| x_then ?_
  refine x_seq <| x_region <| x_b H [.m] <| z_callB H (Layout_of hL hV.m _ (H.ro R0)) fun v4 H => x_b H [.m] <| z_box H #[.int .i64 0, .int .i64 0, .int .i64 0, .int .i64 0, .int .i64 0] 23 (fun v5 g2 H => ?_)
  refine z_store H 0 0 [.int .i64 r, .int .i64 s, .int .i64 b, .int .i64 o, .int .i64 c] (fun v6 H => ?_)
  refine x_nil <| x_then <| x_seq <| x_region <| x_b H [.m] <| x_nil <| x_then ?_
  refine x_seq <| x_block <| x_seq <| x_region <| x_b H [.m, .l 1 0, .v (.bool (decide (j.1 = 1))), .v (.bool (decide (j.1 = 1)))] ?_
  cases h1 : decide (j.1 = 1)
  · skip
    have h1p := of_decide_eq_false h1
    refine x_b H [.k, .k, .k, .k, .m, .m] <| x_nil <| z_fr 81 [(1, .pointer (some ⟨p, 0, none⟩)), (2, .int .i64 n), (3, .pointer (some ⟨g1, 0, none⟩)), (6, .int .i64 (idxP y r b o S (L.getD (n / c).toNat 0) * 64 + n % c)), (7, .int .i64 (L.getD (n / c).toNat 0)), (8, .int .i64 (pgAt y r b o (L.getD (n / c).toNat 0) / 16384)), (9, .int .i64 0), (10, .pointer (some ⟨g2, 0, none⟩)), (39, .bool false)] [] fun uf1 => x_then <| x_f (by kernel_rfl) <| x_seq <| x_region ?_
    refine x_b H [.m, .l 1 0, .v (.bool (decide (j.1 = 2))), .v (.bool (decide (j.1 = 2)))] ?_
    cases h2 : decide (j.1 = 2)
    · skip
      have h2p := of_decide_eq_false h2
      refine x_b H [.k, .k, .k, .k, .m, .m] <| x_nil <| x_then <| x_f (by kernel_rfl) <| x_seq <| x_region <| x_b H [.m, .m, .m, .m, .m, .m, .m, .m] ?_
      refine x_nil <| x_then <| x_retc <| x_blk_ret <| x_then_ret <| x_ret (.tuple #[.int .i64 (idxP y r b o S (L.getD (n / c).toNat 0) * 64 + n % c), .int .i64 (L.getD (n / c).toNat 0), .int .i64 (pgAt y r b o (L.getD (n / c).toNat 0) / 16384), .int .i64 0]) (by kernel_rfl) (by kernel_rfl) ?_
      have e : (rtI y r b o c S j (L.getD (n / c).toNat 0) (pgAt y r b o (L.getD (n / c).toNat 0) / 16384) (idxP y r b o S (L.getD (n / c).toNat 0) * 64 + n % c) (n % c)) = (idxP y r b o S (L.getD (n / c).toNat 0) * 64 + n % c) := by unfold rtI; rw [if_neg (by omega), if_neg (by omega)]
      exact ⟨by rw [e], H.below⟩
    have h2p := of_decide_eq_true h2
    refine x_b H [.m, .m, .l 1 1, .v (.bool (decide ((pgAt y r b o (L.getD (n / c).toNat 0) / 16384) = j.2.1))), .v (.bool (decide ((pgAt y r b o (L.getD (n / c).toNat 0) / 16384) = j.2.1))), .v (.bool (decide ((pgAt y r b o (L.getD (n / c).toNat 0) / 16384) = j.2.1)))] <| x_nil <| x_then ?_
    cases h3 : decide ((pgAt y r b o (L.getD (n / c).toNat 0) / 16384) = j.2.1)
    · skip
      have h3p := of_decide_eq_false h3
      refine x_f (by kernel_rfl) <| x_seq <| x_region <| x_b H [.m, .m, .m, .m, .m, .m, .m, .m] <| x_nil <| x_then <| x_retc ?_
      refine x_blk_ret <| x_then_ret <| x_ret (.tuple #[.int .i64 (idxP y r b o S (L.getD (n / c).toNat 0) * 64 + n % c), .int .i64 (L.getD (n / c).toNat 0), .int .i64 (pgAt y r b o (L.getD (n / c).toNat 0) / 16384), .int .i64 0]) (by kernel_rfl) (by kernel_rfl) ?_
      have e : (rtI y r b o c S j (L.getD (n / c).toNat 0) (pgAt y r b o (L.getD (n / c).toNat 0) / 16384) (idxP y r b o S (L.getD (n / c).toNat 0) * 64 + n % c) (n % c)) = (idxP y r b o S (L.getD (n / c).toNat 0) * 64 + n % c) := by unfold rtI; rw [if_neg (by omega), if_neg (by omega)]
      exact ⟨by rw [e], H.below⟩
    have h3p := of_decide_eq_true h3
    refine x_t (by kernel_rfl) <| x_region <| x_b H [.n 0 0 5 23, .m] ?_
    have hob := ord_bd hL hV hlv.1 hlv.2 hcl.1 hcl.2 (by unfold jrP at hj; rw [show (pgAt y r b o (L.getD (n / c).toNat 0) / 16384) = j.2.1 by omega]; omega)
    refine z_callB H (order_in hg _ hob.1.1 hob.1.2 hob.2.1 hob.2.2.1 hob.2.2.2.1 hob.2.2.2.2.1 _) fun v7 H => x_b H [.m] <| x_nil <| x_blk <| x_then <| x_seq <| x_seq ?_
    refine x_region <| x_b H [.m, .m, .l 1 3, .v (.bool (decide ((ordI o c (idxP y r b o S (L.getD (n / c).toNat 0) * 64 + n % c)) < j.2.2.2)))] <| x_nil <| x_then ?_
    cases h4 : decide ((ordI o c (idxP y r b o S (L.getD (n / c).toNat 0) * 64 + n % c)) < j.2.2.2)
    · skip
      have h4p := of_decide_eq_false h4
      refine x_f (by kernel_rfl) <| x_skipc <| x_then <| x_seq <| x_region <| x_b H [.m, .m, .m, .m, .m, .m, .m, .m] <| x_nil ?_
      refine x_then <| x_retc <| x_ret (.tuple #[.int .i64 (idxP y r b o S (L.getD (n / c).toNat 0) * 64 + n % c), .int .i64 (L.getD (n / c).toNat 0), .int .i64 (pgAt y r b o (L.getD (n / c).toNat 0) / 16384), .int .i64 0]) (by kernel_rfl) (by kernel_rfl) ?_
      have e : (rtI y r b o c S j (L.getD (n / c).toNat 0) (pgAt y r b o (L.getD (n / c).toNat 0) / 16384) (idxP y r b o S (L.getD (n / c).toNat 0) * 64 + n % c) (n % c)) = (idxP y r b o S (L.getD (n / c).toNat 0) * 64 + n % c) := by unfold rtI; rw [if_neg (by omega), if_pos ⟨h2p, h3p⟩, if_neg h4p]
      exact ⟨by rw [e], H.below⟩
    have h4p := of_decide_eq_true h4
    refine x_t (by kernel_rfl) <| x_region <| x_b H [.n 1 0 4 77, .m, .m] <| z_callB (v := .tuple #[.int .i64 (atI y r b o c S j.1 j.2.2.1 (ordI o c (idxP y r b o S (L.getD (n / c).toNat 0) * 64 + n % c))), .int .i64 0]) H (Goal_in hL hV j hj ht (by omega) (ordI o c (idxP y r b o S (L.getD (n / c).toNat 0) * 64 + n % c)) (by unfold jrP at hj; omega) _ (H.ro R0)) fun v8 H => x_b H [.m, .m, .m, .m, .m] <| x_nil <| x_then ?_
    refine x_seq <| x_region <| x_b H [.m, .m, .m, .m, .m, .m, .m, .m] <| x_nil <| x_then <| x_retc <| x_ret (.tuple #[.int .i64 (atI y r b o c S j.1 j.2.2.1 (ordI o c (idxP y r b o S (L.getD (n / c).toNat 0) * 64 + n % c))), .int .i64 (L.getD (n / c).toNat 0), .int .i64 (pgAt y r b o (L.getD (n / c).toNat 0) / 16384), .int .i64 0]) (by kernel_rfl) (by kernel_rfl) ?_
    have e : (rtI y r b o c S j (L.getD (n / c).toNat 0) (pgAt y r b o (L.getD (n / c).toNat 0) / 16384) (idxP y r b o S (L.getD (n / c).toNat 0) * 64 + n % c) (n % c)) = (atI y r b o c S 2 j.2.2.1 (ordI o c (idxP y r b o S (L.getD (n / c).toNat 0) * 64 + n % c))) := by unfold rtI; rw [if_neg (by omega), if_pos ⟨h2p, h3p⟩, if_pos h4p]
    rw [show (2 : Int) = j.1 by omega] at e
    exact ⟨by rw [e], H.below⟩
  have h1p := of_decide_eq_true h1
  refine x_b H [.m, .m, .l 1 1, .v (.bool (decide ((L.getD (n / c).toNat 0) = j.2.1))), .v (.bool (decide ((L.getD (n / c).toNat 0) = j.2.1))), .v (.bool (decide ((L.getD (n / c).toNat 0) = j.2.1)))] <| x_nil <| z_fr 81 [(1, .pointer (some ⟨p, 0, none⟩)), (2, .int .i64 n), (3, .pointer (some ⟨g1, 0, none⟩)), (6, .int .i64 (idxP y r b o S (L.getD (n / c).toNat 0) * 64 + n % c)), (7, .int .i64 (L.getD (n / c).toNat 0)), (8, .int .i64 (pgAt y r b o (L.getD (n / c).toNat 0) / 16384)), (9, .int .i64 0), (10, .pointer (some ⟨g2, 0, none⟩)), (39, .bool (decide ((L.getD (n / c).toNat 0) = j.2.1)))] [] fun uf2 => x_then ?_
  cases h5 : decide ((L.getD (n / c).toNat 0) = j.2.1)
  · skip
    have h5p := of_decide_eq_false h5
    refine x_f (by kernel_rfl) <| x_seq <| x_region <| x_b H [.m, .l 1 0, .v (.bool (decide (j.1 = 2))), .v (.bool (decide (j.1 = 2)))] ?_
    cases h6 : decide (j.1 = 2)
    · skip
      have h6p := of_decide_eq_false h6
      refine x_b H [.k, .k, .k, .k, .m, .m] <| x_nil <| x_then <| x_f (by kernel_rfl) <| x_seq <| x_region <| x_b H [.m, .m, .m, .m, .m, .m, .m, .m] ?_
      refine x_nil <| x_then <| x_retc <| x_blk_ret <| x_then_ret <| x_ret (.tuple #[.int .i64 (idxP y r b o S (L.getD (n / c).toNat 0) * 64 + n % c), .int .i64 (L.getD (n / c).toNat 0), .int .i64 (pgAt y r b o (L.getD (n / c).toNat 0) / 16384), .int .i64 0]) (by kernel_rfl) (by kernel_rfl) ?_
      have e : (rtI y r b o c S j (L.getD (n / c).toNat 0) (pgAt y r b o (L.getD (n / c).toNat 0) / 16384) (idxP y r b o S (L.getD (n / c).toNat 0) * 64 + n % c) (n % c)) = (idxP y r b o S (L.getD (n / c).toNat 0) * 64 + n % c) := by unfold rtI; rw [if_neg (by omega), if_neg (by omega)]
      exact ⟨by rw [e], H.below⟩
    have h6p := of_decide_eq_true h6
    refine x_b H [.m, .m, .l 1 1, .v (.bool (decide ((pgAt y r b o (L.getD (n / c).toNat 0) / 16384) = j.2.1))), .v (.bool (decide ((pgAt y r b o (L.getD (n / c).toNat 0) / 16384) = j.2.1))), .v (.bool (decide ((pgAt y r b o (L.getD (n / c).toNat 0) / 16384) = j.2.1)))] <| x_nil <| x_then ?_
    cases h7 : decide ((pgAt y r b o (L.getD (n / c).toNat 0) / 16384) = j.2.1)
    · skip
      have h7p := of_decide_eq_false h7
      refine x_f (by kernel_rfl) <| x_seq <| x_region <| x_b H [.m, .m, .m, .m, .m, .m, .m, .m] <| x_nil <| x_then <| x_retc ?_
      refine x_blk_ret <| x_then_ret <| x_ret (.tuple #[.int .i64 (idxP y r b o S (L.getD (n / c).toNat 0) * 64 + n % c), .int .i64 (L.getD (n / c).toNat 0), .int .i64 (pgAt y r b o (L.getD (n / c).toNat 0) / 16384), .int .i64 0]) (by kernel_rfl) (by kernel_rfl) ?_
      have e : (rtI y r b o c S j (L.getD (n / c).toNat 0) (pgAt y r b o (L.getD (n / c).toNat 0) / 16384) (idxP y r b o S (L.getD (n / c).toNat 0) * 64 + n % c) (n % c)) = (idxP y r b o S (L.getD (n / c).toNat 0) * 64 + n % c) := by unfold rtI; rw [if_neg (by omega), if_neg (by omega)]
      exact ⟨by rw [e], H.below⟩
    have h7p := of_decide_eq_true h7
    refine x_t (by kernel_rfl) <| x_region <| x_b H [.n 0 0 5 23, .m] ?_
    have hob := ord_bd hL hV hlv.1 hlv.2 hcl.1 hcl.2 (by unfold jrP at hj; rw [show (pgAt y r b o (L.getD (n / c).toNat 0) / 16384) = j.2.1 by omega]; omega)
    refine z_callB H (order_in hg _ hob.1.1 hob.1.2 hob.2.1 hob.2.2.1 hob.2.2.2.1 hob.2.2.2.2.1 _) fun v9 H => x_b H [.m] <| x_nil <| x_blk <| x_then <| x_seq <| x_seq ?_
    refine x_region <| x_b H [.m, .m, .l 1 3, .v (.bool (decide ((ordI o c (idxP y r b o S (L.getD (n / c).toNat 0) * 64 + n % c)) < j.2.2.2)))] <| x_nil <| x_then ?_
    cases h8 : decide ((ordI o c (idxP y r b o S (L.getD (n / c).toNat 0) * 64 + n % c)) < j.2.2.2)
    · skip
      have h8p := of_decide_eq_false h8
      refine x_f (by kernel_rfl) <| x_skipc <| x_then <| x_seq <| x_region <| x_b H [.m, .m, .m, .m, .m, .m, .m, .m] <| x_nil ?_
      refine x_then <| x_retc <| x_ret (.tuple #[.int .i64 (idxP y r b o S (L.getD (n / c).toNat 0) * 64 + n % c), .int .i64 (L.getD (n / c).toNat 0), .int .i64 (pgAt y r b o (L.getD (n / c).toNat 0) / 16384), .int .i64 0]) (by kernel_rfl) (by kernel_rfl) ?_
      have e : (rtI y r b o c S j (L.getD (n / c).toNat 0) (pgAt y r b o (L.getD (n / c).toNat 0) / 16384) (idxP y r b o S (L.getD (n / c).toNat 0) * 64 + n % c) (n % c)) = (idxP y r b o S (L.getD (n / c).toNat 0) * 64 + n % c) := by unfold rtI; rw [if_neg (by omega), if_pos ⟨h6p, h7p⟩, if_neg h8p]
      exact ⟨by rw [e], H.below⟩
    have h8p := of_decide_eq_true h8
    refine x_t (by kernel_rfl) <| x_region <| x_b H [.n 1 0 4 77, .m, .m] <| z_callB (v := .tuple #[.int .i64 (atI y r b o c S j.1 j.2.2.1 (ordI o c (idxP y r b o S (L.getD (n / c).toNat 0) * 64 + n % c))), .int .i64 0]) H (Goal_in hL hV j hj ht (by omega) (ordI o c (idxP y r b o S (L.getD (n / c).toNat 0) * 64 + n % c)) (by unfold jrP at hj; omega) _ (H.ro R0)) fun v10 H => x_b H [.m, .m, .m, .m, .m] <| x_nil <| x_then ?_
    refine x_seq <| x_region <| x_b H [.m, .m, .m, .m, .m, .m, .m, .m] <| x_nil <| x_then <| x_retc <| x_ret (.tuple #[.int .i64 (atI y r b o c S j.1 j.2.2.1 (ordI o c (idxP y r b o S (L.getD (n / c).toNat 0) * 64 + n % c))), .int .i64 (L.getD (n / c).toNat 0), .int .i64 (pgAt y r b o (L.getD (n / c).toNat 0) / 16384), .int .i64 0]) (by kernel_rfl) (by kernel_rfl) ?_
    have e : (rtI y r b o c S j (L.getD (n / c).toNat 0) (pgAt y r b o (L.getD (n / c).toNat 0) / 16384) (idxP y r b o S (L.getD (n / c).toNat 0) * 64 + n % c) (n % c)) = (atI y r b o c S 2 j.2.2.1 (ordI o c (idxP y r b o S (L.getD (n / c).toNat 0) * 64 + n % c))) := by unfold rtI; rw [if_neg (by omega), if_pos ⟨h6p, h7p⟩, if_pos h8p]
    rw [show (2 : Int) = j.1 by omega] at e
    exact ⟨by rw [e], H.below⟩
  have h5p := of_decide_eq_true h5
  refine x_t (by kernel_rfl) <| x_region <| x_b H [.m, .m, .l 0 4] <| x_rem n c (n % c) rfl (by omega) (by omega) (by kernel_rfl) rfl (by kernel_rfl) <| x_b H [.m] <| x_nil <| x_blk ?_
  refine x_then <| x_seq <| x_seq <| x_region <| x_b H [.m, .m, .l 1 3, .v (.bool (decide ((n % c) < j.2.2.2)))] <| x_nil <| x_then ?_
  cases h9 : decide ((n % c) < j.2.2.2)
  · skip
    have h9p := of_decide_eq_false h9
    refine x_f (by kernel_rfl) <| x_skipc <| x_then <| x_seq <| x_region <| x_b H [.m, .m, .m, .m, .m, .m, .m, .m] <| x_nil ?_
    refine x_then <| x_retc <| x_ret (.tuple #[.int .i64 (idxP y r b o S (L.getD (n / c).toNat 0) * 64 + n % c), .int .i64 (L.getD (n / c).toNat 0), .int .i64 (pgAt y r b o (L.getD (n / c).toNat 0) / 16384), .int .i64 0]) (by kernel_rfl) (by kernel_rfl) ?_
    have e : (rtI y r b o c S j (L.getD (n / c).toNat 0) (pgAt y r b o (L.getD (n / c).toNat 0) / 16384) (idxP y r b o S (L.getD (n / c).toNat 0) * 64 + n % c) (n % c)) = (idxP y r b o S (L.getD (n / c).toNat 0) * 64 + n % c) := by unfold rtI; rw [if_pos ⟨h1p, h5p⟩, if_neg h9p]
    exact ⟨by rw [e], H.below⟩
  have h9p := of_decide_eq_true h9
  refine x_t (by kernel_rfl) <| x_region <| x_b H [.n 1 0 4 77, .m, .m] <| z_callB (v := .tuple #[.int .i64 (atI y r b o c S j.1 j.2.2.1 (n % c)), .int .i64 0]) H (Goal_in hL hV j hj ht (by omega) (n % c) (by unfold jrP at hj; omega) _ (H.ro R0)) fun v11 H => x_b H [.m, .m, .m, .m, .m] <| x_nil <| x_then ?_
  refine x_seq <| x_region <| x_b H [.m, .m, .m, .m, .m, .m, .m, .m] <| x_nil <| x_then <| x_retc <| x_ret (.tuple #[.int .i64 (atI y r b o c S j.1 j.2.2.1 (n % c)), .int .i64 (L.getD (n / c).toNat 0), .int .i64 (pgAt y r b o (L.getD (n / c).toNat 0) / 16384), .int .i64 0]) (by kernel_rfl) (by kernel_rfl) ?_
  have e : (rtI y r b o c S j (L.getD (n / c).toNat 0) (pgAt y r b o (L.getD (n / c).toNat 0) / 16384) (idxP y r b o S (L.getD (n / c).toNat 0) * 64 + n % c) (n % c)) = (atI y r b o c S 1 j.2.2.1 (n % c)) := by unfold rtI; rw [if_pos ⟨h1p, h5p⟩, if_pos h9p]
  rw [show (1 : Int) = j.1 by omega] at e
  exact ⟨by rw [e], H.below⟩
end Go.Proofs.Ytpmnnijjohlloaa
