/- Contracts of a repair. -/
import Derived.Test.YtpmnnijjohlloaaGreatRprA
import Derived.Test.YtpmnnijjohlloaaGreatRemapS
import Derived.Test.YtpmnnijjohlloaaGreatPxZ
namespace Go.Proofs.YtpmnnijjohlloaaGreat
open Go Go.RowKit
set_option linter.unusedVariables false
set_option linter.unusedSimpArgs false
section
variable {sn ns pu : Nat} {D : List Bool} {S : List Int} {j : Int × Int × Int × Int} {a : Ent}
theorem vb1o (h1 : a.1 = 1) (h : ¬ (0 ≤ a.2 ∧ a.2 < (sn : Int) + pu)) : voidB sn ns pu D S j a = true := by
  unfold voidB; rw [if_pos h1, decide_eq_true h]; rfl
theorem vb1d (h1 : a.1 = 1) (h : D.getD a.2.toNat false = true) : voidB sn ns pu D S j a = true := by
  unfold voidB; rw [if_pos h1, h, Bool.or_true]; rfl
theorem vb1n (h1 : a.1 = 1) (hr : 0 ≤ a.2 ∧ a.2 < (sn : Int) + pu) (h : D.getD a.2.toNat false = false) : voidB sn ns pu D S j a = (decide (j.1 = 1) && decide (j.2.1 = a.2)) := by
  unfold voidB; rw [if_pos h1, h, decide_eq_false (fun z => z hr)]; rfl
theorem vb1y (h1 : a.1 = 1) (hr : 0 ≤ a.2 ∧ a.2 < (sn : Int) + pu) (h : D.getD a.2.toNat false = false) (hj : j.1 = a.1) : voidB sn ns pu D S j a = decide (j.2.1 = a.2) := by
  rw [vb1n h1 hr h, decide_eq_true (by omega), Bool.true_and]
theorem vb1x (h1 : a.1 = 1) (hr : 0 ≤ a.2 ∧ a.2 < (sn : Int) + pu) (h : D.getD a.2.toNat false = false) (hj : ¬ j.1 = a.1) : voidB sn ns pu D S j a = false := by
  rw [vb1n h1 hr h, decide_eq_false (by omega), Bool.false_and]
theorem vb2o (h1 : a.1 = 2) (h : ¬ (0 ≤ a.2 ∧ a.2 < (ns : Int))) : voidB sn ns pu D S j a = true := by
  unfold voidB; rw [if_neg (by omega), if_pos h1, decide_eq_true h]; rfl
theorem vb2s (h1 : a.1 = 2) (h : ¬ S.getD a.2.toNat 0 = -1) : voidB sn ns pu D S j a = true := by
  unfold voidB; rw [if_neg (by omega), if_pos h1, decide_eq_false h, Bool.not_false, Bool.or_true]; rfl
theorem vb2n (h1 : a.1 = 2) (hr : 0 ≤ a.2 ∧ a.2 < (ns : Int)) (h : S.getD a.2.toNat 0 = -1) : voidB sn ns pu D S j a = (decide (j.1 = 2) && decide (j.2.1 = a.2)) := by
  unfold voidB; rw [if_neg (by omega), if_pos h1, decide_eq_true h, decide_eq_false (fun z => z hr)]; rfl
theorem vb2y (h1 : a.1 = 2) (hr : 0 ≤ a.2 ∧ a.2 < (ns : Int)) (h : S.getD a.2.toNat 0 = -1) (hj : j.1 = a.1) : voidB sn ns pu D S j a = decide (j.2.1 = a.2) := by
  rw [vb2n h1 hr h, decide_eq_true (by omega), Bool.true_and]
theorem vb2x (h1 : a.1 = 2) (hr : 0 ≤ a.2 ∧ a.2 < (ns : Int)) (h : S.getD a.2.toNat 0 = -1) (hj : ¬ j.1 = a.1) : voidB sn ns pu D S j a = false := by
  rw [vb2n h1 hr h, decide_eq_false (by omega), Bool.false_and]
theorem vb0 (h1 : ¬ a.1 = 1) (h2 : ¬ a.1 = 2) : voidB sn ns pu D S j a = true := by
  unfold voidB; rw [if_neg h1, if_neg h2]
end
set_option maxRecDepth 100000 in
set_option maxHeartbeats 4000000 in
theorem void_any {r s b o c y z : Int} {pg sn ns : Nat} (hL : Lay r s b o c y z pg sn ns) {p gl cl gd cd gs cs q rp : Nat} {x : Rp}  (hx : RpOk r s b o c z sn pg ns x) (a : Ent) (w0 : World) (hR : Ro w0 [.blk rp #[.pointer (some ⟨p, 0, none⟩), .int .i64 x.j.1, .int .i64 x.j.2.1, .int .i64 x.j.2.2.1, .int .i64 x.j.2.2.2, .pointer (some ⟨q, 0, none⟩)] 74, .blk p #[.int .i64 r, .int .i64 s, .int .i64 b, .int .i64 o, .int .i64 c, .int .i64 y, .int .i64 z, .slice (some ⟨gl, 0, none⟩) sn cl, .slice (some ⟨gd, 0, none⟩) pg cd, .slice (some ⟨gs, 0, none⟩) ns cs, .int .i64 ((x.pu : Nat) : Int), .int .i64 ((x.ru : Nat) : Int)] 109, .row (.slice (some ⟨gl, 0, none⟩) sn cl) 3 1 sn (List.map (Value.int .i64) x.L), .row (.slice (some ⟨gd, 0, none⟩) pg cd) 4 1 pg (List.map Value.bool x.D), .row (.slice (some ⟨gs, 0, none⟩) ns cs) 3 1 ns (List.map (Value.int .i64) x.S)]) :
    Calls Tryz.prog 41 #[.pointer (some ⟨rp, 0, none⟩), .agg #[.int .i64 a.1, .int .i64 a.2]] w0 fun e w' => e = .returned (.bool (Rp.void sn ns x a)) ∧ Below w0.heap.size w0 w' := by
  refine z_enter Tryz.func41 rfl ?_
  have H := Hs.nil w0
  have R0 := hR
  have hm := hx.v.m
  have hpu := hm.hp
  have hru := hm.hr
  have hsn := hL.hsn
  have hz0 := hL.z0
  have hz2 := hL.z2
  have hpg2 := hL.pg2
  have hr8 := hL.r8
  have hs8 := hL.s8
  have hr1 := hL.r1
  have hs0 := hL.s0
  have hns := hL.hns
  refine x_seq <| x_region <| z_box H #[.int .i64 a.1, .int .i64 a.2] 52 (fun v1 g1 H => ?_)
  refine x_b H [.m] <| x_nil <| x_then <| x_seq <| x_region <| x_b H [.m, .m, .m] <| x_loadc rp 0 (.pointer (some ⟨p, 0, none⟩)) ((H.ro R0).cell 0 rfl 0 rfl) (by kernel_rfl) rfl (by kernel_rfl) ?_
  refine z_callB H (Layout_of hL hx.v.m _ ((H.ro R0).pick [1, 2, 3, 4] [.blk p #[.int .i64 r, .int .i64 s, .int .i64 b, .int .i64 o, .int .i64 c, .int .i64 y, .int .i64 z, .slice (some ⟨gl, 0, none⟩) sn cl, .slice (some ⟨gd, 0, none⟩) pg cd, .slice (some ⟨gs, 0, none⟩) ns cs, .int .i64 ((x.pu : Nat) : Int), .int .i64 ((x.ru : Nat) : Int)] 109, .row (.slice (some ⟨gl, 0, none⟩) sn cl) 3 1 sn (List.map (Value.int .i64) x.L), .row (.slice (some ⟨gd, 0, none⟩) pg cd) 4 1 pg (List.map Value.bool x.D), .row (.slice (some ⟨gs, 0, none⟩) ns cs) 3 1 ns (List.map (Value.int .i64) x.S)] (by kernel_rfl))) fun v2 H => x_b H [.m] <| z_box H #[.int .i64 0, .int .i64 0, .int .i64 0, .int .i64 0, .int .i64 0] 23 (fun v3 g2 H => ?_)
  refine z_store H 0 0 [.int .i64 r, .int .i64 s, .int .i64 b, .int .i64 o, .int .i64 c] (fun v4 H => ?_)
  refine x_nil <| x_then <| x_seq <| x_seq <| x_region <| x_b H [.m, .l 1 0] <| x_nil ?_
  refine x_then <| x_block <| x_seq <| x_region <| x_b H [.v (.bool (decide (a.1 = 1))), .v (.bool (decide (a.1 = 1)))] <| x_nil <| x_then ?_
  cases h1 : decide (a.1 = 1)
  · skip
    have h1p := of_decide_eq_false h1
    refine x_f (by kernel_rfl) <| x_seq <| x_region <| x_b H [.v (.bool (decide (a.1 = 2))), .v (.bool (decide (a.1 = 2)))] <| x_nil <| x_then ?_
    cases h2 : decide (a.1 = 2)
    · skip
      have h2p := of_decide_eq_false h2
      refine x_f (by kernel_rfl) <| x_seq <| x_region <| x_b H [.m] <| x_nil <| x_then <| x_retc ?_
      refine x_blk_ret <| x_then_ret <| x_ret (.bool true) (by kernel_rfl) (by kernel_rfl) ?_
      have e : Rp.void sn ns x a = (true) := by
        unfold Rp.void
        have hpz : (sn : Int) + x.pu ≤ pg := by omega
        first | exact vb1o (by omega) (by omega) | exact vb1d (by omega) (by assumption) | exact vb2o (by omega) (by omega) | exact vb2s (by omega) (by omega) | exact vb1y (by omega) (by omega) (by assumption) (by omega) | exact vb1x (by omega) (by omega) (by assumption) (by omega) | exact vb2y (by omega) (by omega) (by omega) (by omega) | exact vb2x (by omega) (by omega) (by omega) (by omega) | exact vb0 (by omega) (by omega)
      exact ⟨by rw [e], H.below⟩
    have h2p := of_decide_eq_true h2
    refine x_t (by kernel_rfl) <| x_seq <| z_region_whole H <| q_b [.m, .m, .m] <| q_loadc rp 0 (.pointer (some ⟨p, 0, none⟩)) (fun _ H => (H.ro R0).cell 0 rfl 0 rfl) (by kernel_rfl) (fun _ => by kernel_rfl) <| q_b [.m, .l 1 1] ?_
    cases h3 : decide (0 ≤ a.2 ∧ a.2 < (ns : Int))
    · skip
      have h3p := of_decide_eq_false h3
      refine q_callR (.tuple #[.int .i64 0, .bool false]) (by kernel_rfl) (fun _ => by kernel_rfl) (fun _ H => (by have h := Spare_any hL hx.v a.2 _ ((H.ro R0).pick [1, 2, 3, 4] [.blk p #[.int .i64 r, .int .i64 s, .int .i64 b, .int .i64 o, .int .i64 c, .int .i64 y, .int .i64 z, .slice (some ⟨gl, 0, none⟩) sn cl, .slice (some ⟨gd, 0, none⟩) pg cd, .slice (some ⟨gs, 0, none⟩) ns cs, .int .i64 ((x.pu : Nat) : Int), .int .i64 ((x.ru : Nat) : Int)] 109, .row (.slice (some ⟨gl, 0, none⟩) sn cl) 3 1 sn (List.map (Value.int .i64) x.L), .row (.slice (some ⟨gd, 0, none⟩) pg cd) 4 1 pg (List.map Value.bool x.D), .row (.slice (some ⟨gs, 0, none⟩) ns cs) 3 1 ns (List.map (Value.int .i64) x.S)] (by kernel_rfl)); unfold spV spK at h; rw [h3, Bool.false_and] at h; exact h)) <| q_b [.m, .m, .m, .m, .m] <| q_nil ?_
      clear H
      intro v5 H
      refine x_then <| x_seq <| x_region <| x_b H [.m, .m, .m, .l 1 1, .v (.bool (decide (a.2 < 0))), .v (.bool (decide (a.2 < 0))), .v (.bool (decide (a.2 < 0)))] ?_
      cases h4 : decide (a.2 < 0)
      · skip
        have h4p := of_decide_eq_false h4
        refine x_b H [.m, .l 1 1, .m, .l 0 0, .v (.bool (decide (r ≤ a.2))), .v (.bool (decide (r ≤ a.2)))] <| x_nil <| z_fr 99 [(0, .pointer (some ⟨rp, 0, none⟩)), (3, .pointer (some ⟨g1, 0, none⟩)), (80, .bool (decide (r ≤ a.2)))] [] fun uf1 => x_then ?_
        cases h5 : decide (r ≤ a.2)
        · skip
          have h5p := of_decide_eq_false h5
          exfalso; have := h3p; omega
        have h5p := of_decide_eq_true h5
        refine x_t (by kernel_rfl) <| x_seq <| x_region <| x_b H [.m] <| x_nil <| x_then <| x_retc ?_
        refine x_blk_ret <| x_then_ret <| x_ret (.bool true) (by kernel_rfl) (by kernel_rfl) ?_
        have e : Rp.void sn ns x a = (true) := by
          unfold Rp.void
          have hpz : (sn : Int) + x.pu ≤ pg := by omega
          first | exact vb1o (by omega) (by omega) | exact vb1d (by omega) (by assumption) | exact vb2o (by omega) (by omega) | exact vb2s (by omega) (by omega) | exact vb1y (by omega) (by omega) (by assumption) (by omega) | exact vb1x (by omega) (by omega) (by assumption) (by omega) | exact vb2y (by omega) (by omega) (by omega) (by omega) | exact vb2x (by omega) (by omega) (by omega) (by omega) | exact vb0 (by omega) (by omega)
        exact ⟨by rw [e], H.below⟩
      have h4p := of_decide_eq_true h4
      refine x_b H [.k, .k, .k, .k, .k, .m] <| x_nil <| z_fr 99 [(0, .pointer (some ⟨rp, 0, none⟩)), (3, .pointer (some ⟨g1, 0, none⟩)), (80, .bool true)] [] fun uf2 => x_then <| x_t (by kernel_rfl) <| x_seq <| x_region ?_
      refine x_b H [.m] <| x_nil <| x_then <| x_retc <| x_blk_ret <| x_then_ret <| x_ret (.bool true) (by kernel_rfl) (by kernel_rfl) ?_
      have e : Rp.void sn ns x a = (true) := by
        unfold Rp.void
        have hpz : (sn : Int) + x.pu ≤ pg := by omega
        first | exact vb1o (by omega) (by omega) | exact vb1d (by omega) (by assumption) | exact vb2o (by omega) (by omega) | exact vb2s (by omega) (by omega) | exact vb1y (by omega) (by omega) (by assumption) (by omega) | exact vb1x (by omega) (by omega) (by assumption) (by omega) | exact vb2y (by omega) (by omega) (by omega) (by omega) | exact vb2x (by omega) (by omega) (by omega) (by omega) | exact vb0 (by omega) (by omega)
      exact ⟨by rw [e], H.below⟩
    have h3p := of_decide_eq_true h3
    cases h6 : decide (x.S.getD a.2.toNat 0 = -1)
    · skip
      have h6p := of_decide_eq_false h6
      refine q_callR (.tuple #[.int .i64 (x.S.getD a.2.toNat 0), .bool true]) (by kernel_rfl) (fun _ => by kernel_rfl) (fun _ H => (by have h := Spare_any hL hx.v a.2 _ ((H.ro R0).pick [1, 2, 3, 4] [.blk p #[.int .i64 r, .int .i64 s, .int .i64 b, .int .i64 o, .int .i64 c, .int .i64 y, .int .i64 z, .slice (some ⟨gl, 0, none⟩) sn cl, .slice (some ⟨gd, 0, none⟩) pg cd, .slice (some ⟨gs, 0, none⟩) ns cs, .int .i64 ((x.pu : Nat) : Int), .int .i64 ((x.ru : Nat) : Int)] 109, .row (.slice (some ⟨gl, 0, none⟩) sn cl) 3 1 sn (List.map (Value.int .i64) x.L), .row (.slice (some ⟨gd, 0, none⟩) pg cd) 4 1 pg (List.map Value.bool x.D), .row (.slice (some ⟨gs, 0, none⟩) ns cs) 3 1 ns (List.map (Value.int .i64) x.S)] (by kernel_rfl)); unfold spV spK at h; rw [h3, h6] at h; exact h)) <| q_b [.m, .m, .m, .m, .m] <| q_nil ?_
      clear H
      intro v6 H
      refine x_then <| x_seq <| x_region <| x_b H [.m, .m, .k, .k, .k, .m, .m, .k, .k, .k, .k, .k, .m] <| x_nil <| z_fr 99 [(0, .pointer (some ⟨rp, 0, none⟩)), (3, .pointer (some ⟨g1, 0, none⟩)), (80, .bool true)] [] fun uf3 => x_then ?_
      refine x_t (by kernel_rfl) <| x_seq <| x_region <| x_b H [.m] <| x_nil <| x_then <| x_retc ?_
      refine x_blk_ret <| x_then_ret <| x_ret (.bool true) (by kernel_rfl) (by kernel_rfl) ?_
      have e : Rp.void sn ns x a = (true) := by
        unfold Rp.void
        have hpz : (sn : Int) + x.pu ≤ pg := by omega
        first | exact vb1o (by omega) (by omega) | exact vb1d (by omega) (by assumption) | exact vb2o (by omega) (by omega) | exact vb2s (by omega) (by omega) | exact vb1y (by omega) (by omega) (by assumption) (by omega) | exact vb1x (by omega) (by omega) (by assumption) (by omega) | exact vb2y (by omega) (by omega) (by omega) (by omega) | exact vb2x (by omega) (by omega) (by omega) (by omega) | exact vb0 (by omega) (by omega)
      exact ⟨by rw [e], H.below⟩
    have h6p := of_decide_eq_true h6
    refine q_callR (.tuple #[.int .i64 0, .bool false]) (by kernel_rfl) (fun _ => by kernel_rfl) (fun _ H => (by have h := Spare_any hL hx.v a.2 _ ((H.ro R0).pick [1, 2, 3, 4] [.blk p #[.int .i64 r, .int .i64 s, .int .i64 b, .int .i64 o, .int .i64 c, .int .i64 y, .int .i64 z, .slice (some ⟨gl, 0, none⟩) sn cl, .slice (some ⟨gd, 0, none⟩) pg cd, .slice (some ⟨gs, 0, none⟩) ns cs, .int .i64 ((x.pu : Nat) : Int), .int .i64 ((x.ru : Nat) : Int)] 109, .row (.slice (some ⟨gl, 0, none⟩) sn cl) 3 1 sn (List.map (Value.int .i64) x.L), .row (.slice (some ⟨gd, 0, none⟩) pg cd) 4 1 pg (List.map Value.bool x.D), .row (.slice (some ⟨gs, 0, none⟩) ns cs) 3 1 ns (List.map (Value.int .i64) x.S)] (by kernel_rfl)); unfold spV spK at h; rw [h3, h6] at h; exact h)) <| q_b [.m, .m, .m, .m, .m] <| q_nil ?_
    clear H
    intro v7 H
    refine x_then <| x_seq <| x_region <| x_b H [.m, .m, .m, .l 1 1, .v (.bool (decide (a.2 < 0))), .v (.bool (decide (a.2 < 0))), .v (.bool (decide (a.2 < 0)))] ?_
    cases h7 : decide (a.2 < 0)
    · skip
      have h7p := of_decide_eq_false h7
      refine x_b H [.m, .l 1 1, .m, .l 0 0, .v (.bool (decide (r ≤ a.2))), .v (.bool (decide (r ≤ a.2)))] <| x_nil <| z_fr 99 [(0, .pointer (some ⟨rp, 0, none⟩)), (3, .pointer (some ⟨g1, 0, none⟩)), (80, .bool (decide (r ≤ a.2)))] [] fun uf4 => x_then ?_
      cases h8 : decide (r ≤ a.2)
      · skip
        have h8p := of_decide_eq_false h8
        refine x_f (by kernel_rfl) <| x_skipc <| x_blk <| x_then <| x_seq <| z_region_whole H <| q_b [.m, .m, .m, .m] ?_
        refine q_loadc rp 1 (.int .i64 x.j.1) (fun _ H => (H.ro R0).cell 0 rfl 1 rfl) (by kernel_rfl) (fun _ => by kernel_rfl) <| q_b [.m, .l 1 0, .v (.bool (decide (x.j.1 = a.1))), .v (.bool (decide (x.j.1 = a.1)))] ?_
        cases h9 : decide (x.j.1 = a.1)
        · skip
          have h9p := of_decide_eq_false h9
          refine q_b [.k, .k, .k, .k, .k, .k, .k, .k, .m, .m] <| q_nil ?_
          clear H
          intro v8 H
          refine x_then <| x_retc <| x_ret (.bool false) (by kernel_rfl) (by kernel_rfl) ?_
          have e : Rp.void sn ns x a = (false) := by
            unfold Rp.void
            have hpz : (sn : Int) + x.pu ≤ pg := by omega
            first | exact vb1o (by omega) (by omega) | exact vb1d (by omega) (by assumption) | exact vb2o (by omega) (by omega) | exact vb2s (by omega) (by omega) | exact vb1y (by omega) (by omega) (by assumption) (by omega) | exact vb1x (by omega) (by omega) (by assumption) (by omega) | exact vb2y (by omega) (by omega) (by omega) (by omega) | exact vb2x (by omega) (by omega) (by omega) (by omega) | exact vb0 (by omega) (by omega)
          exact ⟨by rw [e], H.below⟩
        have h9p := of_decide_eq_true h9
        refine q_b [.m, .m, .m, .m] <| q_loadc rp 2 (.int .i64 x.j.2.1) (fun _ H => (H.ro R0).cell 0 rfl 2 rfl) (by kernel_rfl) (fun _ => by kernel_rfl) <| q_b [.m, .l 1 1, .v (.bool (decide (x.j.2.1 = a.2))), .v (.bool (decide (x.j.2.1 = a.2))), .v (.bool (decide (x.j.2.1 = a.2)))] <| q_nil ?_
        clear H
        intro v9 H
        refine x_then <| x_retc <| x_ret (.bool (decide (x.j.2.1 = a.2))) (by kernel_rfl) (by kernel_rfl) ?_
        have e : Rp.void sn ns x a = ((decide (x.j.2.1 = a.2))) := by
          unfold Rp.void
          have hpz : (sn : Int) + x.pu ≤ pg := by omega
          first | exact vb1o (by omega) (by omega) | exact vb1d (by omega) (by assumption) | exact vb2o (by omega) (by omega) | exact vb2s (by omega) (by omega) | exact vb1y (by omega) (by omega) (by assumption) (by omega) | exact vb1x (by omega) (by omega) (by assumption) (by omega) | exact vb2y (by omega) (by omega) (by omega) (by omega) | exact vb2x (by omega) (by omega) (by omega) (by omega) | exact vb0 (by omega) (by omega)
        exact ⟨by rw [e], H.below⟩
      have h8p := of_decide_eq_true h8
      exfalso; have := h3p; omega
    have h7p := of_decide_eq_true h7
    exfalso; have := h3p; omega
  have h1p := of_decide_eq_true h1
  refine x_t (by kernel_rfl) <| x_seq <| x_region <| x_b H [.m, .m, .m] <| x_loadc rp 0 (.pointer (some ⟨p, 0, none⟩)) ((H.ro R0).cell 0 rfl 0 rfl) (by kernel_rfl) rfl (by kernel_rfl) ?_
  cases h10 : decide (((x.pu : Nat) : Int) = z)
  · skip
    have h10p := of_decide_eq_false h10
    refine z_callB H (FreePage_yes hL hx.v.m h10p _ ((H.ro R0).pick [1, 2, 3, 4] [.blk p #[.int .i64 r, .int .i64 s, .int .i64 b, .int .i64 o, .int .i64 c, .int .i64 y, .int .i64 z, .slice (some ⟨gl, 0, none⟩) sn cl, .slice (some ⟨gd, 0, none⟩) pg cd, .slice (some ⟨gs, 0, none⟩) ns cs, .int .i64 ((x.pu : Nat) : Int), .int .i64 ((x.ru : Nat) : Int)] 109, .row (.slice (some ⟨gl, 0, none⟩) sn cl) 3 1 sn (List.map (Value.int .i64) x.L), .row (.slice (some ⟨gd, 0, none⟩) pg cd) 4 1 pg (List.map Value.bool x.D), .row (.slice (some ⟨gs, 0, none⟩) ns cs) 3 1 ns (List.map (Value.int .i64) x.S)] (by kernel_rfl))) fun v10 H => x_b H [.m, .m, .m, .m, .m] <| x_nil <| x_then <| x_seq <| z_region_whole H <| q_b [.m, .l 1 1, .v (.bool (decide (a.2 < 0))), .v (.bool (decide (a.2 < 0)))] ?_
    cases h11 : decide (a.2 < 0)
    · skip
      have h11p := of_decide_eq_false h11
      refine q_b [.m, .l 1 1, .n 0 0 5 23] <| q_callB (.int .i64 (pg : Int)) (by kernel_rfl) (fun _ => by kernel_rfl) (fun _ => (pages_of hL _)) <| q_b [.v (.bool (decide ((pg : Int) ≤ a.2))), .v (.bool (decide ((pg : Int) ≤ a.2))), .v (.bool (decide ((pg : Int) ≤ a.2)))] ?_
      cases h12 : decide ((pg : Int) ≤ a.2)
      · skip
        have h12p := of_decide_eq_false h12
        refine q_b [.m, .m, .m] <| q_loadc rp 0 (.pointer (some ⟨p, 0, none⟩)) (fun _ H => (H.ro R0).cell 0 rfl 0 rfl) (by kernel_rfl) (fun _ => by kernel_rfl) <| q_b [.m, .l 1 1] ?_
        cases h13 : x.D.getD a.2.toNat false
        · skip
          refine q_callR (.bool false) (by kernel_rfl) (fun _ => by kernel_rfl) (fun _ H => (by have h := Dead_any hL hx.v a.2 _ ((H.ro R0).pick [1, 2, 3, 4] [.blk p #[.int .i64 r, .int .i64 s, .int .i64 b, .int .i64 o, .int .i64 c, .int .i64 y, .int .i64 z, .slice (some ⟨gl, 0, none⟩) sn cl, .slice (some ⟨gd, 0, none⟩) pg cd, .slice (some ⟨gs, 0, none⟩) ns cs, .int .i64 ((x.pu : Nat) : Int), .int .i64 ((x.ru : Nat) : Int)] 109, .row (.slice (some ⟨gl, 0, none⟩) sn cl) 3 1 sn (List.map (Value.int .i64) x.L), .row (.slice (some ⟨gd, 0, none⟩) pg cd) 4 1 pg (List.map Value.bool x.D), .row (.slice (some ⟨gs, 0, none⟩) ns cs) 3 1 ns (List.map (Value.int .i64) x.S)] (by kernel_rfl)); unfold ddV at h; rw [decide_eq_true (show 0 ≤ a.2 ∧ a.2 < (pg : Int) by omega), Bool.true_and, h13] at h; exact h)) <| q_b [.m, .m, .m, .m, .m, .l 1 1, .m, .v (.bool (decide (((sn : Int) + ((x.pu : Nat) : Int)) ≤ a.2))), .v (.bool (decide (((sn : Int) + ((x.pu : Nat) : Int)) ≤ a.2))), .v (.bool (decide (((sn : Int) + ((x.pu : Nat) : Int)) ≤ a.2)))] ?_
          refine q_nil ?_
          clear H
          intro v11 H
          refine z_fr 99 [(0, .pointer (some ⟨rp, 0, none⟩)), (3, .pointer (some ⟨g1, 0, none⟩)), (55, .bool (decide (((sn : Int) + ((x.pu : Nat) : Int)) ≤ a.2)))] [] fun uf5 => x_then ?_
          cases h14 : decide (((sn : Int) + ((x.pu : Nat) : Int)) ≤ a.2)
          · skip
            have h14p := of_decide_eq_false h14
            refine x_f (by kernel_rfl) <| x_skipc <| x_blk <| x_then <| x_seq <| z_region_whole H <| q_b [.m, .m, .m, .m] ?_
            refine q_loadc rp 1 (.int .i64 x.j.1) (fun _ H => (H.ro R0).cell 0 rfl 1 rfl) (by kernel_rfl) (fun _ => by kernel_rfl) <| q_b [.m, .l 1 0, .v (.bool (decide (x.j.1 = a.1))), .v (.bool (decide (x.j.1 = a.1)))] ?_
            cases h15 : decide (x.j.1 = a.1)
            · skip
              have h15p := of_decide_eq_false h15
              refine q_b [.k, .k, .k, .k, .k, .k, .k, .k, .m, .m] <| q_nil ?_
              clear H
              intro v12 H
              refine x_then <| x_retc <| x_ret (.bool false) (by kernel_rfl) (by kernel_rfl) ?_
              have e : Rp.void sn ns x a = (false) := by
                unfold Rp.void
                have hpz : (sn : Int) + x.pu ≤ pg := by omega
                first | exact vb1o (by omega) (by omega) | exact vb1d (by omega) (by assumption) | exact vb2o (by omega) (by omega) | exact vb2s (by omega) (by omega) | exact vb1y (by omega) (by omega) (by assumption) (by omega) | exact vb1x (by omega) (by omega) (by assumption) (by omega) | exact vb2y (by omega) (by omega) (by omega) (by omega) | exact vb2x (by omega) (by omega) (by omega) (by omega) | exact vb0 (by omega) (by omega)
              exact ⟨by rw [e], H.below⟩
            have h15p := of_decide_eq_true h15
            refine q_b [.m, .m, .m, .m] <| q_loadc rp 2 (.int .i64 x.j.2.1) (fun _ H => (H.ro R0).cell 0 rfl 2 rfl) (by kernel_rfl) (fun _ => by kernel_rfl) <| q_b [.m, .l 1 1, .v (.bool (decide (x.j.2.1 = a.2))), .v (.bool (decide (x.j.2.1 = a.2))), .v (.bool (decide (x.j.2.1 = a.2)))] <| q_nil ?_
            clear H
            intro v13 H
            refine x_then <| x_retc <| x_ret (.bool (decide (x.j.2.1 = a.2))) (by kernel_rfl) (by kernel_rfl) ?_
            have e : Rp.void sn ns x a = ((decide (x.j.2.1 = a.2))) := by
              unfold Rp.void
              have hpz : (sn : Int) + x.pu ≤ pg := by omega
              first | exact vb1o (by omega) (by omega) | exact vb1d (by omega) (by assumption) | exact vb2o (by omega) (by omega) | exact vb2s (by omega) (by omega) | exact vb1y (by omega) (by omega) (by assumption) (by omega) | exact vb1x (by omega) (by omega) (by assumption) (by omega) | exact vb2y (by omega) (by omega) (by omega) (by omega) | exact vb2x (by omega) (by omega) (by omega) (by omega) | exact vb0 (by omega) (by omega)
            exact ⟨by rw [e], H.below⟩
          have h14p := of_decide_eq_true h14
          refine x_t (by kernel_rfl) <| x_seq <| x_region <| x_b H [.m] <| x_nil <| x_then <| x_retc ?_
          refine x_blk_ret <| x_then_ret <| x_ret (.bool true) (by kernel_rfl) (by kernel_rfl) ?_
          have e : Rp.void sn ns x a = (true) := by
            unfold Rp.void
            have hpz : (sn : Int) + x.pu ≤ pg := by omega
            first | exact vb1o (by omega) (by omega) | exact vb1d (by omega) (by assumption) | exact vb2o (by omega) (by omega) | exact vb2s (by omega) (by omega) | exact vb1y (by omega) (by omega) (by assumption) (by omega) | exact vb1x (by omega) (by omega) (by assumption) (by omega) | exact vb2y (by omega) (by omega) (by omega) (by omega) | exact vb2x (by omega) (by omega) (by omega) (by omega) | exact vb0 (by omega) (by omega)
          exact ⟨by rw [e], H.below⟩
        refine q_callR (.bool true) (by kernel_rfl) (fun _ => by kernel_rfl) (fun _ H => (by have h := Dead_any hL hx.v a.2 _ ((H.ro R0).pick [1, 2, 3, 4] [.blk p #[.int .i64 r, .int .i64 s, .int .i64 b, .int .i64 o, .int .i64 c, .int .i64 y, .int .i64 z, .slice (some ⟨gl, 0, none⟩) sn cl, .slice (some ⟨gd, 0, none⟩) pg cd, .slice (some ⟨gs, 0, none⟩) ns cs, .int .i64 ((x.pu : Nat) : Int), .int .i64 ((x.ru : Nat) : Int)] 109, .row (.slice (some ⟨gl, 0, none⟩) sn cl) 3 1 sn (List.map (Value.int .i64) x.L), .row (.slice (some ⟨gd, 0, none⟩) pg cd) 4 1 pg (List.map Value.bool x.D), .row (.slice (some ⟨gs, 0, none⟩) ns cs) 3 1 ns (List.map (Value.int .i64) x.S)] (by kernel_rfl)); unfold ddV at h; rw [decide_eq_true (show 0 ≤ a.2 ∧ a.2 < (pg : Int) by omega), Bool.true_and, h13] at h; exact h)) <| q_b [.m, .m, .k, .k, .k, .k, .k, .k, .k, .m] <| q_nil ?_
        clear H
        intro v14 H
        refine z_fr 99 [(0, .pointer (some ⟨rp, 0, none⟩)), (3, .pointer (some ⟨g1, 0, none⟩)), (55, .bool true)] [] fun uf6 => x_then <| x_t (by kernel_rfl) <| x_seq <| x_region <| x_b H [.m] <| x_nil ?_
        refine x_then <| x_retc <| x_blk_ret <| x_then_ret <| x_ret (.bool true) (by kernel_rfl) (by kernel_rfl) ?_
        have e : Rp.void sn ns x a = (true) := by
          unfold Rp.void
          have hpz : (sn : Int) + x.pu ≤ pg := by omega
          first | exact vb1o (by omega) (by omega) | exact vb1d (by omega) (by assumption) | exact vb2o (by omega) (by omega) | exact vb2s (by omega) (by omega) | exact vb1y (by omega) (by omega) (by assumption) (by omega) | exact vb1x (by omega) (by omega) (by assumption) (by omega) | exact vb2y (by omega) (by omega) (by omega) (by omega) | exact vb2x (by omega) (by omega) (by omega) (by omega) | exact vb0 (by omega) (by omega)
        exact ⟨by rw [e], H.below⟩
      have h12p := of_decide_eq_true h12
      refine q_b [.k, .k, .k, .k, .k, .k, .k, .m, .m, .k, .k, .k, .k, .k, .k, .k, .m] <| q_nil ?_
      clear H
      intro v15 H
      refine z_fr 99 [(0, .pointer (some ⟨rp, 0, none⟩)), (3, .pointer (some ⟨g1, 0, none⟩)), (55, .bool true)] [] fun uf7 => x_then <| x_t (by kernel_rfl) <| x_seq <| x_region <| x_b H [.m] <| x_nil ?_
      refine x_then <| x_retc <| x_blk_ret <| x_then_ret <| x_ret (.bool true) (by kernel_rfl) (by kernel_rfl) ?_
      have e : Rp.void sn ns x a = (true) := by
        unfold Rp.void
        have hpz : (sn : Int) + x.pu ≤ pg := by omega
        first | exact vb1o (by omega) (by omega) | exact vb1d (by omega) (by assumption) | exact vb2o (by omega) (by omega) | exact vb2s (by omega) (by omega) | exact vb1y (by omega) (by omega) (by assumption) (by omega) | exact vb1x (by omega) (by omega) (by assumption) (by omega) | exact vb2y (by omega) (by omega) (by omega) (by omega) | exact vb2x (by omega) (by omega) (by omega) (by omega) | exact vb0 (by omega) (by omega)
      exact ⟨by rw [e], H.below⟩
    have h11p := of_decide_eq_true h11
    refine q_b [.k, .k, .k, .k, .k, .m, .m, .k, .k, .k, .k, .k, .k, .k, .m, .m, .k, .k, .k, .k, .k, .k, .k, .m] <| q_nil ?_
    clear H
    intro v16 H
    refine z_fr 99 [(0, .pointer (some ⟨rp, 0, none⟩)), (3, .pointer (some ⟨g1, 0, none⟩)), (55, .bool true)] [] fun uf8 => x_then <| x_t (by kernel_rfl) <| x_seq <| x_region <| x_b H [.m] <| x_nil ?_
    refine x_then <| x_retc <| x_blk_ret <| x_then_ret <| x_ret (.bool true) (by kernel_rfl) (by kernel_rfl) ?_
    have e : Rp.void sn ns x a = (true) := by
      unfold Rp.void
      have hpz : (sn : Int) + x.pu ≤ pg := by omega
      first | exact vb1o (by omega) (by omega) | exact vb1d (by omega) (by assumption) | exact vb2o (by omega) (by omega) | exact vb2s (by omega) (by omega) | exact vb1y (by omega) (by omega) (by assumption) (by omega) | exact vb1x (by omega) (by omega) (by assumption) (by omega) | exact vb2y (by omega) (by omega) (by omega) (by omega) | exact vb2x (by omega) (by omega) (by omega) (by omega) | exact vb0 (by omega) (by omega)
    exact ⟨by rw [e], H.below⟩
  have h10p := of_decide_eq_true h10
  refine z_callB H (FreePage_no hL hx.v.m h10p _ ((H.ro R0).pick [1, 2, 3, 4] [.blk p #[.int .i64 r, .int .i64 s, .int .i64 b, .int .i64 o, .int .i64 c, .int .i64 y, .int .i64 z, .slice (some ⟨gl, 0, none⟩) sn cl, .slice (some ⟨gd, 0, none⟩) pg cd, .slice (some ⟨gs, 0, none⟩) ns cs, .int .i64 ((x.pu : Nat) : Int), .int .i64 ((x.ru : Nat) : Int)] 109, .row (.slice (some ⟨gl, 0, none⟩) sn cl) 3 1 sn (List.map (Value.int .i64) x.L), .row (.slice (some ⟨gd, 0, none⟩) pg cd) 4 1 pg (List.map Value.bool x.D), .row (.slice (some ⟨gs, 0, none⟩) ns cs) 3 1 ns (List.map (Value.int .i64) x.S)] (by kernel_rfl))) fun v17 H => x_b H [.m, .m, .m, .m, .m] <| x_nil <| x_then <| x_seq <| z_region_whole H <| q_b [.m, .l 1 1, .v (.bool (decide (a.2 < 0))), .v (.bool (decide (a.2 < 0)))] ?_
  cases h16 : decide (a.2 < 0)
  · skip
    have h16p := of_decide_eq_false h16
    refine q_b [.m, .l 1 1, .n 0 0 5 23] <| q_callB (.int .i64 (pg : Int)) (by kernel_rfl) (fun _ => by kernel_rfl) (fun _ => (pages_of hL _)) <| q_b [.v (.bool (decide ((pg : Int) ≤ a.2))), .v (.bool (decide ((pg : Int) ≤ a.2))), .v (.bool (decide ((pg : Int) ≤ a.2)))] ?_
    cases h17 : decide ((pg : Int) ≤ a.2)
    · skip
      have h17p := of_decide_eq_false h17
      refine q_b [.m, .m, .m] <| q_loadc rp 0 (.pointer (some ⟨p, 0, none⟩)) (fun _ H => (H.ro R0).cell 0 rfl 0 rfl) (by kernel_rfl) (fun _ => by kernel_rfl) <| q_b [.m, .l 1 1] ?_
      cases h18 : x.D.getD a.2.toNat false
      · skip
        refine q_callR (.bool false) (by kernel_rfl) (fun _ => by kernel_rfl) (fun _ H => (by have h := Dead_any hL hx.v a.2 _ ((H.ro R0).pick [1, 2, 3, 4] [.blk p #[.int .i64 r, .int .i64 s, .int .i64 b, .int .i64 o, .int .i64 c, .int .i64 y, .int .i64 z, .slice (some ⟨gl, 0, none⟩) sn cl, .slice (some ⟨gd, 0, none⟩) pg cd, .slice (some ⟨gs, 0, none⟩) ns cs, .int .i64 ((x.pu : Nat) : Int), .int .i64 ((x.ru : Nat) : Int)] 109, .row (.slice (some ⟨gl, 0, none⟩) sn cl) 3 1 sn (List.map (Value.int .i64) x.L), .row (.slice (some ⟨gd, 0, none⟩) pg cd) 4 1 pg (List.map Value.bool x.D), .row (.slice (some ⟨gs, 0, none⟩) ns cs) 3 1 ns (List.map (Value.int .i64) x.S)] (by kernel_rfl)); unfold ddV at h; rw [decide_eq_true (show 0 ≤ a.2 ∧ a.2 < (pg : Int) by omega), Bool.true_and, h18] at h; exact h)) <| q_b [.m, .m, .m, .m, .k, .k, .k, .k, .m, .m] <| q_nil ?_
        clear H
        intro v18 H
        refine z_fr 99 [(0, .pointer (some ⟨rp, 0, none⟩)), (3, .pointer (some ⟨g1, 0, none⟩)), (55, .bool false)] [] fun uf9 => x_then <| x_f (by kernel_rfl) <| x_skipc <| x_blk <| x_then <| x_seq ?_
        refine z_region_whole H <| q_b [.m, .m, .m, .m] <| q_loadc rp 1 (.int .i64 x.j.1) (fun _ H => (H.ro R0).cell 0 rfl 1 rfl) (by kernel_rfl) (fun _ => by kernel_rfl) <| q_b [.m, .l 1 0, .v (.bool (decide (x.j.1 = a.1))), .v (.bool (decide (x.j.1 = a.1)))] ?_
        cases h19 : decide (x.j.1 = a.1)
        · skip
          have h19p := of_decide_eq_false h19
          refine q_b [.k, .k, .k, .k, .k, .k, .k, .k, .m, .m] <| q_nil ?_
          clear H
          intro v19 H
          refine x_then <| x_retc <| x_ret (.bool false) (by kernel_rfl) (by kernel_rfl) ?_
          have e : Rp.void sn ns x a = (false) := by
            unfold Rp.void
            have hpz : (sn : Int) + x.pu ≤ pg := by omega
            first | exact vb1o (by omega) (by omega) | exact vb1d (by omega) (by assumption) | exact vb2o (by omega) (by omega) | exact vb2s (by omega) (by omega) | exact vb1y (by omega) (by omega) (by assumption) (by omega) | exact vb1x (by omega) (by omega) (by assumption) (by omega) | exact vb2y (by omega) (by omega) (by omega) (by omega) | exact vb2x (by omega) (by omega) (by omega) (by omega) | exact vb0 (by omega) (by omega)
          exact ⟨by rw [e], H.below⟩
        have h19p := of_decide_eq_true h19
        refine q_b [.m, .m, .m, .m] <| q_loadc rp 2 (.int .i64 x.j.2.1) (fun _ H => (H.ro R0).cell 0 rfl 2 rfl) (by kernel_rfl) (fun _ => by kernel_rfl) <| q_b [.m, .l 1 1, .v (.bool (decide (x.j.2.1 = a.2))), .v (.bool (decide (x.j.2.1 = a.2))), .v (.bool (decide (x.j.2.1 = a.2)))] <| q_nil ?_
        clear H
        intro v20 H
        refine x_then <| x_retc <| x_ret (.bool (decide (x.j.2.1 = a.2))) (by kernel_rfl) (by kernel_rfl) ?_
        have e : Rp.void sn ns x a = ((decide (x.j.2.1 = a.2))) := by
          unfold Rp.void
          have hpz : (sn : Int) + x.pu ≤ pg := by omega
          first | exact vb1o (by omega) (by omega) | exact vb1d (by omega) (by assumption) | exact vb2o (by omega) (by omega) | exact vb2s (by omega) (by omega) | exact vb1y (by omega) (by omega) (by assumption) (by omega) | exact vb1x (by omega) (by omega) (by assumption) (by omega) | exact vb2y (by omega) (by omega) (by omega) (by omega) | exact vb2x (by omega) (by omega) (by omega) (by omega) | exact vb0 (by omega) (by omega)
        exact ⟨by rw [e], H.below⟩
      refine q_callR (.bool true) (by kernel_rfl) (fun _ => by kernel_rfl) (fun _ H => (by have h := Dead_any hL hx.v a.2 _ ((H.ro R0).pick [1, 2, 3, 4] [.blk p #[.int .i64 r, .int .i64 s, .int .i64 b, .int .i64 o, .int .i64 c, .int .i64 y, .int .i64 z, .slice (some ⟨gl, 0, none⟩) sn cl, .slice (some ⟨gd, 0, none⟩) pg cd, .slice (some ⟨gs, 0, none⟩) ns cs, .int .i64 ((x.pu : Nat) : Int), .int .i64 ((x.ru : Nat) : Int)] 109, .row (.slice (some ⟨gl, 0, none⟩) sn cl) 3 1 sn (List.map (Value.int .i64) x.L), .row (.slice (some ⟨gd, 0, none⟩) pg cd) 4 1 pg (List.map Value.bool x.D), .row (.slice (some ⟨gs, 0, none⟩) ns cs) 3 1 ns (List.map (Value.int .i64) x.S)] (by kernel_rfl)); unfold ddV at h; rw [decide_eq_true (show 0 ≤ a.2 ∧ a.2 < (pg : Int) by omega), Bool.true_and, h18] at h; exact h)) <| q_b [.m, .m, .k, .k, .k, .k, .k, .k, .k, .m] <| q_nil ?_
      clear H
      intro v21 H
      refine z_fr 99 [(0, .pointer (some ⟨rp, 0, none⟩)), (3, .pointer (some ⟨g1, 0, none⟩)), (55, .bool true)] [] fun uf10 => x_then <| x_t (by kernel_rfl) <| x_seq <| x_region <| x_b H [.m] <| x_nil ?_
      refine x_then <| x_retc <| x_blk_ret <| x_then_ret <| x_ret (.bool true) (by kernel_rfl) (by kernel_rfl) ?_
      have e : Rp.void sn ns x a = (true) := by
        unfold Rp.void
        have hpz : (sn : Int) + x.pu ≤ pg := by omega
        first | exact vb1o (by omega) (by omega) | exact vb1d (by omega) (by assumption) | exact vb2o (by omega) (by omega) | exact vb2s (by omega) (by omega) | exact vb1y (by omega) (by omega) (by assumption) (by omega) | exact vb1x (by omega) (by omega) (by assumption) (by omega) | exact vb2y (by omega) (by omega) (by omega) (by omega) | exact vb2x (by omega) (by omega) (by omega) (by omega) | exact vb0 (by omega) (by omega)
      exact ⟨by rw [e], H.below⟩
    have h17p := of_decide_eq_true h17
    refine q_b [.k, .k, .k, .k, .k, .k, .k, .m, .m, .k, .k, .k, .k, .k, .k, .k, .m] <| q_nil ?_
    clear H
    intro v22 H
    refine z_fr 99 [(0, .pointer (some ⟨rp, 0, none⟩)), (3, .pointer (some ⟨g1, 0, none⟩)), (55, .bool true)] [] fun uf11 => x_then <| x_t (by kernel_rfl) <| x_seq <| x_region <| x_b H [.m] <| x_nil ?_
    refine x_then <| x_retc <| x_blk_ret <| x_then_ret <| x_ret (.bool true) (by kernel_rfl) (by kernel_rfl) ?_
    have e : Rp.void sn ns x a = (true) := by
      unfold Rp.void
      have hpz : (sn : Int) + x.pu ≤ pg := by omega
      first | exact vb1o (by omega) (by omega) | exact vb1d (by omega) (by assumption) | exact vb2o (by omega) (by omega) | exact vb2s (by omega) (by omega) | exact vb1y (by omega) (by omega) (by assumption) (by omega) | exact vb1x (by omega) (by omega) (by assumption) (by omega) | exact vb2y (by omega) (by omega) (by omega) (by omega) | exact vb2x (by omega) (by omega) (by omega) (by omega) | exact vb0 (by omega) (by omega)
    exact ⟨by rw [e], H.below⟩
  have h16p := of_decide_eq_true h16
  refine q_b [.k, .k, .k, .k, .k, .m, .m, .k, .k, .k, .k, .k, .k, .k, .m, .m, .k, .k, .k, .k, .k, .k, .k, .m] <| q_nil ?_
  clear H
  intro v23 H
  refine z_fr 99 [(0, .pointer (some ⟨rp, 0, none⟩)), (3, .pointer (some ⟨g1, 0, none⟩)), (55, .bool true)] [] fun uf12 => x_then <| x_t (by kernel_rfl) <| x_seq <| x_region <| x_b H [.m] <| x_nil ?_
  refine x_then <| x_retc <| x_blk_ret <| x_then_ret <| x_ret (.bool true) (by kernel_rfl) (by kernel_rfl) ?_
  have e : Rp.void sn ns x a = (true) := by
    unfold Rp.void
    have hpz : (sn : Int) + x.pu ≤ pg := by omega
    first | exact vb1o (by omega) (by omega) | exact vb1d (by omega) (by assumption) | exact vb2o (by omega) (by omega) | exact vb2s (by omega) (by omega) | exact vb1y (by omega) (by omega) (by assumption) (by omega) | exact vb1x (by omega) (by omega) (by assumption) (by omega) | exact vb2y (by omega) (by omega) (by omega) (by omega) | exact vb2x (by omega) (by omega) (by omega) (by omega) | exact vb0 (by omega) (by omega)
  exact ⟨by rw [e], H.below⟩
end Go.Proofs.YtpmnnijjohlloaaGreat
