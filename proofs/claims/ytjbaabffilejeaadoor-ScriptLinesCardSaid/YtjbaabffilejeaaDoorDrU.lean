/- A step with just what it has. -/
import Derived.Test.YtjbaabffilejeaaDoorDrT
import Derived.Test.YtjbaabffilejeaaDoorPxZ
namespace Go.Proofs.YtjbaabffilejeaaDoor
open Go Go.RowKit
set_option linter.unusedVariables false
set_option linter.unusedSimpArgs false
open Go.Lib (decDigits itoa)
theorem stepEq (a b : Stp) : eqW Tryd.prog 10000 41 (.agg (stepA a)) (.agg (stepA b)) = some (decide (SEQ a b)) := by
  rw [← seqB_iff]
  kernel_rfl
theorem roAs {w : World} {A B : List Res} (h : Ro w A) (e : A = B) : Ro w B := e ▸ h
set_option maxRecDepth 100000 in
set_option maxHeartbeats 4000000 in
theorem numbers_1 {g : Nat} {sk sl rk bk ro co ch bi va : Int} {sd : Nat → Nat} {sm : Nat} (w0 : World) (hR : Ro w0 [.blk g (stepA ⟨sk, sl, sd, sm, 1, rk, bk, ro, co, ch, bi, va⟩) 41]) :
    Calls Tryd.prog 37 #[.pointer (some ⟨g, 67, none⟩)] w0 fun e w' => ∃ q, e = .returned (.slice (some ⟨q, 0, none⟩) 5 5) ∧ Hs [] w0 w' [.blk q #[.pointer (some ⟨g, 68, none⟩), .pointer (some ⟨g, 69, none⟩), .pointer (some ⟨g, 70, none⟩), .pointer (some ⟨g, 71, none⟩), .pointer (some ⟨g, 73, none⟩)] 61] := by
  refine z_enter Tryd.func37 rfl ?_
  have H := Hs.nil w0
  have R0 := hR
  refine x_seq <| x_region <| x_b H [.m] <| x_nil <| x_then <| x_seq <| x_region ?_
  refine x_b H [.m, .m, .m, .m] <| x_nil <| x_then <| x_seq <| x_seq <| x_region <| x_b H [.m, .m, .m] ?_
  refine x_loadc g 67 (.int .i64 1) ((H.ro R0).cell 0 rfl 67 rfl) (by kernel_rfl) rfl (by kernel_rfl) <| x_nil <| x_then <| x_block <| x_seq <| x_region <| x_b H [.m, .m] ?_
  refine x_nil <| x_then <| x_t (by kernel_rfl) <| x_seq <| z_region_head H 15 ?_
  simp only [List.take_succ_cons, List.take_zero, List.drop_succ_cons, List.drop_zero]
  refine q_b [.m, .m, .m, .m, .m, .m, .m, .m, .m, .m, .m, .m, .m, .m, .m] <| q_nil ?_
  clear H
  intro v1 H
  refine x_box' H #[.pointer (some ⟨g, 68, none⟩), .pointer (some ⟨g, 69, none⟩), .pointer (some ⟨g, 70, none⟩), .pointer (some ⟨g, 71, none⟩), .pointer (some ⟨g, 73, none⟩)] 61 5 (by kernel_rfl) rfl (by kernel_rfl) ?_
  clear H
  intro v2 g1 H
  refine x_b H [.m] <| x_nil <| x_then <| x_retc <| x_blk_ret <| x_then_ret <| x_ret (.slice (some ⟨g1, 0, none⟩) 5 5) (by kernel_rfl) (by kernel_rfl) ?_
  exact ⟨_, rfl, H⟩
set_option maxRecDepth 100000 in
set_option maxHeartbeats 4000000 in
theorem numbers_2 {g : Nat} {sk sl rk bk ro co ch bi va : Int} {sd : Nat → Nat} {sm : Nat} (w0 : World) (hR : Ro w0 [.blk g (stepA ⟨sk, sl, sd, sm, 2, rk, bk, ro, co, ch, bi, va⟩) 41]) :
    Calls Tryd.prog 37 #[.pointer (some ⟨g, 67, none⟩)] w0 fun e w' => ∃ q, e = .returned (.slice (some ⟨q, 0, none⟩) 6 6) ∧ Hs [] w0 w' [.blk q #[.pointer (some ⟨g, 68, none⟩), .pointer (some ⟨g, 69, none⟩), .pointer (some ⟨g, 70, none⟩), .pointer (some ⟨g, 71, none⟩), .pointer (some ⟨g, 73, none⟩), .pointer (some ⟨g, 74, none⟩)] 61] := by
  refine z_enter Tryd.func37 rfl ?_
  have H := Hs.nil w0
  have R0 := hR
  refine x_seq <| x_region <| x_b H [.m] <| x_nil <| x_then <| x_seq <| x_region ?_
  refine x_b H [.m, .m, .m, .m] <| x_nil <| x_then <| x_seq <| x_seq <| x_region <| x_b H [.m, .m, .m] ?_
  refine x_loadc g 67 (.int .i64 2) ((H.ro R0).cell 0 rfl 67 rfl) (by kernel_rfl) rfl (by kernel_rfl) <| x_nil <| x_then <| x_block <| x_seq <| x_region <| x_b H [.m, .m] ?_
  refine x_nil <| x_then <| x_f (by kernel_rfl) <| x_seq <| x_region <| x_b H [.m, .m] <| x_nil ?_
  refine x_then <| x_t (by kernel_rfl) <| x_seq <| z_region_head H 18 ?_
  simp only [List.take_succ_cons, List.take_zero, List.drop_succ_cons, List.drop_zero]
  refine q_b [.m, .m, .m, .m, .m, .m, .m, .m, .m, .m, .m, .m, .m, .m, .m, .m, .m, .m] <| q_nil ?_
  clear H
  intro v1 H
  refine x_box' H #[.pointer (some ⟨g, 68, none⟩), .pointer (some ⟨g, 69, none⟩), .pointer (some ⟨g, 70, none⟩), .pointer (some ⟨g, 71, none⟩), .pointer (some ⟨g, 73, none⟩), .pointer (some ⟨g, 74, none⟩)] 61 6 (by kernel_rfl) rfl (by kernel_rfl) ?_
  clear H
  intro v2 g1 H
  refine x_b H [.m] <| x_nil <| x_then <| x_retc <| x_blk_ret <| x_then_ret <| x_ret (.slice (some ⟨g1, 0, none⟩) 6 6) (by kernel_rfl) (by kernel_rfl) ?_
  exact ⟨_, rfl, H⟩
set_option maxRecDepth 100000 in
set_option maxHeartbeats 4000000 in
theorem numbers_3 {g : Nat} {sk sl rk bk ro co ch bi va : Int} {sd : Nat → Nat} {sm : Nat} (w0 : World) (hR : Ro w0 [.blk g (stepA ⟨sk, sl, sd, sm, 3, rk, bk, ro, co, ch, bi, va⟩) 41]) :
    Calls Tryd.prog 37 #[.pointer (some ⟨g, 67, none⟩)] w0 fun e w' => ∃ q, e = .returned (.slice (some ⟨q, 0, none⟩) 5 5) ∧ Hs [] w0 w' [.blk q #[.pointer (some ⟨g, 68, none⟩), .pointer (some ⟨g, 69, none⟩), .pointer (some ⟨g, 70, none⟩), .pointer (some ⟨g, 72, none⟩), .pointer (some ⟨g, 74, none⟩)] 61] := by
  refine z_enter Tryd.func37 rfl ?_
  have H := Hs.nil w0
  have R0 := hR
  refine x_seq <| x_region <| x_b H [.m] <| x_nil <| x_then <| x_seq <| x_region ?_
  refine x_b H [.m, .m, .m, .m] <| x_nil <| x_then <| x_seq <| x_seq <| x_region <| x_b H [.m, .m, .m] ?_
  refine x_loadc g 67 (.int .i64 3) ((H.ro R0).cell 0 rfl 67 rfl) (by kernel_rfl) rfl (by kernel_rfl) <| x_nil <| x_then <| x_block <| x_seq <| x_region <| x_b H [.m, .m] ?_
  refine x_nil <| x_then <| x_f (by kernel_rfl) <| x_seq <| x_region <| x_b H [.m, .m] <| x_nil ?_
  refine x_then <| x_f (by kernel_rfl) <| x_seq <| x_region <| x_b H [.m, .m] <| x_nil <| x_then ?_
  refine x_t (by kernel_rfl) <| x_seq <| z_region_head H 15 ?_
  simp only [List.take_succ_cons, List.take_zero, List.drop_succ_cons, List.drop_zero]
  refine q_b [.m, .m, .m, .m, .m, .m, .m, .m, .m, .m, .m, .m, .m, .m, .m] <| q_nil ?_
  clear H
  intro v1 H
  refine x_box' H #[.pointer (some ⟨g, 68, none⟩), .pointer (some ⟨g, 69, none⟩), .pointer (some ⟨g, 70, none⟩), .pointer (some ⟨g, 72, none⟩), .pointer (some ⟨g, 74, none⟩)] 61 5 (by kernel_rfl) rfl (by kernel_rfl) ?_
  clear H
  intro v2 g1 H
  refine x_b H [.m] <| x_nil <| x_then <| x_retc <| x_blk_ret <| x_then_ret <| x_ret (.slice (some ⟨g1, 0, none⟩) 5 5) (by kernel_rfl) (by kernel_rfl) ?_
  exact ⟨_, rfl, H⟩
set_option maxRecDepth 100000 in
set_option maxHeartbeats 4000000 in
theorem numbers_4 {g : Nat} {sk sl rk bk ro co ch bi va : Int} {sd : Nat → Nat} {sm : Nat} (w0 : World) (hR : Ro w0 [.blk g (stepA ⟨sk, sl, sd, sm, 4, rk, bk, ro, co, ch, bi, va⟩) 41]) :
    Calls Tryd.prog 37 #[.pointer (some ⟨g, 67, none⟩)] w0 fun e w' => ∃ q, e = .returned (.slice (some ⟨q, 0, none⟩) 5 5) ∧ Hs [] w0 w' [.blk q #[.pointer (some ⟨g, 68, none⟩), .pointer (some ⟨g, 69, none⟩), .pointer (some ⟨g, 71, none⟩), .pointer (some ⟨g, 72, none⟩), .pointer (some ⟨g, 74, none⟩)] 61] := by
  refine z_enter Tryd.func37 rfl ?_
  have H := Hs.nil w0
  have R0 := hR
  refine x_seq <| x_region <| x_b H [.m] <| x_nil <| x_then <| x_seq <| x_region ?_
  refine x_b H [.m, .m, .m, .m] <| x_nil <| x_then <| x_seq <| x_seq <| x_region <| x_b H [.m, .m, .m] ?_
  refine x_loadc g 67 (.int .i64 4) ((H.ro R0).cell 0 rfl 67 rfl) (by kernel_rfl) rfl (by kernel_rfl) <| x_nil <| x_then <| x_block <| x_seq <| x_region <| x_b H [.m, .m] ?_
  refine x_nil <| x_then <| x_f (by kernel_rfl) <| x_seq <| x_region <| x_b H [.m, .m] <| x_nil ?_
  refine x_then <| x_f (by kernel_rfl) <| x_seq <| x_region <| x_b H [.m, .m] <| x_nil <| x_then ?_
  refine x_f (by kernel_rfl) <| x_seq <| x_region <| x_b H [.m, .m] <| x_nil <| x_then <| x_t (by kernel_rfl) ?_
  refine x_seq <| z_region_head H 15 ?_
  simp only [List.take_succ_cons, List.take_zero, List.drop_succ_cons, List.drop_zero]
  refine q_b [.m, .m, .m, .m, .m, .m, .m, .m, .m, .m, .m, .m, .m, .m, .m] <| q_nil ?_
  clear H
  intro v1 H
  refine x_box' H #[.pointer (some ⟨g, 68, none⟩), .pointer (some ⟨g, 69, none⟩), .pointer (some ⟨g, 71, none⟩), .pointer (some ⟨g, 72, none⟩), .pointer (some ⟨g, 74, none⟩)] 61 5 (by kernel_rfl) rfl (by kernel_rfl) ?_
  clear H
  intro v2 g1 H
  refine x_b H [.m] <| x_nil <| x_then <| x_retc <| x_blk_ret <| x_then_ret <| x_ret (.slice (some ⟨g1, 0, none⟩) 5 5) (by kernel_rfl) (by kernel_rfl) ?_
  exact ⟨_, rfl, H⟩
set_option maxRecDepth 100000 in
set_option maxHeartbeats 4000000 in
theorem numbers_5 {g : Nat} {sk sl rk bk ro co ch bi va : Int} {sd : Nat → Nat} {sm : Nat} (w0 : World) (hR : Ro w0 [.blk g (stepA ⟨sk, sl, sd, sm, 5, rk, bk, ro, co, ch, bi, va⟩) 41]) :
    Calls Tryd.prog 37 #[.pointer (some ⟨g, 67, none⟩)] w0 fun e w' => ∃ q, e = .returned (.slice (some ⟨q, 0, none⟩) 3 3) ∧ Hs [] w0 w' [.blk q #[.pointer (some ⟨g, 68, none⟩), .pointer (some ⟨g, 72, none⟩), .pointer (some ⟨g, 74, none⟩)] 61] := by
  refine z_enter Tryd.func37 rfl ?_
  have H := Hs.nil w0
  have R0 := hR
  refine x_seq <| x_region <| x_b H [.m] <| x_nil <| x_then <| x_seq <| x_region ?_
  refine x_b H [.m, .m, .m, .m] <| x_nil <| x_then <| x_seq <| x_seq <| x_region <| x_b H [.m, .m, .m] ?_
  refine x_loadc g 67 (.int .i64 5) ((H.ro R0).cell 0 rfl 67 rfl) (by kernel_rfl) rfl (by kernel_rfl) <| x_nil <| x_then <| x_block <| x_seq <| x_region <| x_b H [.m, .m] ?_
  refine x_nil <| x_then <| x_f (by kernel_rfl) <| x_seq <| x_region <| x_b H [.m, .m] <| x_nil ?_
  refine x_then <| x_f (by kernel_rfl) <| x_seq <| x_region <| x_b H [.m, .m] <| x_nil <| x_then ?_
  refine x_f (by kernel_rfl) <| x_seq <| x_region <| x_b H [.m, .m] <| x_nil <| x_then <| x_f (by kernel_rfl) ?_
  refine x_seq <| x_region <| x_b H [.m, .m] <| x_nil <| x_then <| x_t (by kernel_rfl) <| x_seq ?_
  refine z_region_head H 9 ?_
  simp only [List.take_succ_cons, List.take_zero, List.drop_succ_cons, List.drop_zero]
  refine q_b [.m, .m, .m, .m, .m, .m, .m, .m, .m] <| q_nil ?_
  clear H
  intro v1 H
  refine x_box' H #[.pointer (some ⟨g, 68, none⟩), .pointer (some ⟨g, 72, none⟩), .pointer (some ⟨g, 74, none⟩)] 61 3 (by kernel_rfl) rfl (by kernel_rfl) ?_
  clear H
  intro v2 g1 H
  refine x_b H [.m] <| x_nil <| x_then <| x_retc <| x_blk_ret <| x_then_ret <| x_ret (.slice (some ⟨g1, 0, none⟩) 3 3) (by kernel_rfl) (by kernel_rfl) ?_
  exact ⟨_, rfl, H⟩
set_option maxRecDepth 100000 in
set_option maxHeartbeats 4000000 in
theorem numbers_6 {g : Nat} {sk sl rk bk ro co ch bi va : Int} {sd : Nat → Nat} {sm : Nat} (w0 : World) (hR : Ro w0 [.blk g (stepA ⟨sk, sl, sd, sm, 6, rk, bk, ro, co, ch, bi, va⟩) 41]) :
    Calls Tryd.prog 37 #[.pointer (some ⟨g, 67, none⟩)] w0 fun e w' => ∃ q, e = .returned (.slice (some ⟨q, 0, none⟩) 4 4) ∧ Hs [] w0 w' [.blk q #[.pointer (some ⟨g, 68, none⟩), .pointer (some ⟨g, 69, none⟩), .pointer (some ⟨g, 70, none⟩), .pointer (some ⟨g, 71, none⟩)] 61] := by
  refine z_enter Tryd.func37 rfl ?_
  have H := Hs.nil w0
  have R0 := hR
  refine x_seq <| x_region <| x_b H [.m] <| x_nil <| x_then <| x_seq <| x_region ?_
  refine x_b H [.m, .m, .m, .m] <| x_nil <| x_then <| x_seq <| x_seq <| x_region <| x_b H [.m, .m, .m] ?_
  refine x_loadc g 67 (.int .i64 6) ((H.ro R0).cell 0 rfl 67 rfl) (by kernel_rfl) rfl (by kernel_rfl) <| x_nil <| x_then <| x_block <| x_seq <| x_region <| x_b H [.m, .m] ?_
  refine x_nil <| x_then <| x_f (by kernel_rfl) <| x_seq <| x_region <| x_b H [.m, .m] <| x_nil ?_
  refine x_then <| x_f (by kernel_rfl) <| x_seq <| x_region <| x_b H [.m, .m] <| x_nil <| x_then ?_
  refine x_f (by kernel_rfl) <| x_seq <| x_region <| x_b H [.m, .m] <| x_nil <| x_then <| x_f (by kernel_rfl) ?_
  refine x_seq <| x_region <| x_b H [.m, .m] <| x_nil <| x_then <| x_f (by kernel_rfl) <| x_seq ?_
  refine x_region <| x_b H [.m, .m] <| x_nil <| x_then <| x_t (by kernel_rfl) <| x_seq <| z_region_head H 12 ?_
  simp only [List.take_succ_cons, List.take_zero, List.drop_succ_cons, List.drop_zero]
  refine q_b [.m, .m, .m, .m, .m, .m, .m, .m, .m, .m, .m, .m] <| q_nil ?_
  clear H
  intro v1 H
  refine x_box' H #[.pointer (some ⟨g, 68, none⟩), .pointer (some ⟨g, 69, none⟩), .pointer (some ⟨g, 70, none⟩), .pointer (some ⟨g, 71, none⟩)] 61 4 (by kernel_rfl) rfl (by kernel_rfl) ?_
  clear H
  intro v2 g1 H
  refine x_b H [.m] <| x_nil <| x_then <| x_retc <| x_blk_ret <| x_then_ret <| x_ret (.slice (some ⟨g1, 0, none⟩) 4 4) (by kernel_rfl) (by kernel_rfl) ?_
  exact ⟨_, rfl, H⟩
set_option maxRecDepth 100000 in
set_option maxHeartbeats 4000000 in
theorem numbers_o {g : Nat} {sk sl fk rk bk ro co ch bi va : Int} {sd : Nat → Nat} {sm : Nat} (hf : fk < 1 ∨ 6 < fk) (w0 : World) (hR : Ro w0 [.blk g (stepA ⟨sk, sl, sd, sm, fk, rk, bk, ro, co, ch, bi, va⟩) 41]) :
    Calls Tryd.prog 37 #[.pointer (some ⟨g, 67, none⟩)] w0 fun e w' => e = .returned (.slice none 0 0) ∧ Below w0.heap.size w0 w' := by
  refine z_enter Tryd.func37 rfl ?_
  have H := Hs.nil w0
  have R0 := hR
  refine x_seq <| x_region <| x_b H [.m] <| x_nil <| x_then <| x_seq <| x_region ?_
  refine x_b H [.m, .m, .m, .m] <| x_nil <| x_then <| x_seq <| x_seq <| x_region <| x_b H [.m, .m, .m] ?_
  refine x_loadc g 67 (.int .i64 fk) ((H.ro R0).cell 0 rfl 67 rfl) (by kernel_rfl) rfl (by kernel_rfl) <| x_nil <| x_then <| x_block <| x_seq <| x_region <| x_b H [.v (.bool (decide (fk = 1))), .v (.bool (decide (fk = 1)))] ?_
  refine x_nil <| x_then ?_
  cases h1 : decide (fk = 1)
  · skip
    have h1p := of_decide_eq_false h1
    refine x_f (by kernel_rfl) <| x_seq <| x_region <| x_b H [.v (.bool (decide (fk = 2))), .v (.bool (decide (fk = 2)))] <| x_nil <| x_then ?_
    cases h2 : decide (fk = 2)
    · skip
      have h2p := of_decide_eq_false h2
      refine x_f (by kernel_rfl) <| x_seq <| x_region <| x_b H [.v (.bool (decide (fk = 3))), .v (.bool (decide (fk = 3)))] <| x_nil <| x_then ?_
      cases h3 : decide (fk = 3)
      · skip
        have h3p := of_decide_eq_false h3
        refine x_f (by kernel_rfl) <| x_seq <| x_region <| x_b H [.v (.bool (decide (fk = 4))), .v (.bool (decide (fk = 4)))] <| x_nil <| x_then ?_
        cases h4 : decide (fk = 4)
        · skip
          have h4p := of_decide_eq_false h4
          refine x_f (by kernel_rfl) <| x_seq <| x_region <| x_b H [.v (.bool (decide (fk = 5))), .v (.bool (decide (fk = 5)))] <| x_nil <| x_then ?_
          cases h5 : decide (fk = 5)
          · skip
            have h5p := of_decide_eq_false h5
            refine x_f (by kernel_rfl) <| x_seq <| x_region <| x_b H [.v (.bool (decide (fk = 6))), .v (.bool (decide (fk = 6)))] <| x_nil <| x_then ?_
            cases h6 : decide (fk = 6)
            · skip
              have h6p := of_decide_eq_false h6
              refine x_f (by kernel_rfl) <| x_skipc <| x_blk <| x_then <| x_seq <| x_region <| x_b H [.m] ?_
              refine x_nil <| x_then <| x_retc <| x_ret (.slice none 0 0) (by kernel_rfl) (by kernel_rfl) ?_
              exact ⟨rfl, H.below⟩
            have h6p := of_decide_eq_true h6
            exact absurd h6p (by omega)
          have h5p := of_decide_eq_true h5
          exact absurd h5p (by omega)
        have h4p := of_decide_eq_true h4
        exact absurd h4p (by omega)
      have h3p := of_decide_eq_true h3
      exact absurd h3p (by omega)
    have h2p := of_decide_eq_true h2
    exact absurd h2p (by omega)
  have h1p := of_decide_eq_true h1
  exact absurd h1p (by omega)
set_option maxRecDepth 100000 in
set_option maxHeartbeats 4000000 in
theorem bare_1 {sl fk rk bk ro co ch bi va : Int} {sd : Nat → Nat} {sm : Nat} (w0 : World) :
    Calls Tryd.prog 40 #[.agg (stepA ⟨1, sl, sd, sm, fk, rk, bk, ro, co, ch, bi, va⟩)] w0 fun e w' => e = .returned (.agg (stepA ⟨1, sl, (fun _ => 0), 0, 0, 0, 0, 0, 0, 0, 0, 0⟩)) ∧ Below w0.heap.size w0 w' := by
  refine z_enter Tryd.func40 rfl ?_
  have H := Hs.nil w0
  refine x_seq <| x_region <| z_box H (stepA ⟨1, sl, sd, sm, fk, rk, bk, ro, co, ch, bi, va⟩) 41 (fun v1 g1 H => ?_)
  refine z_box H (stepA ⟨0, 0, (fun _ => 0), 0, 0, 0, 0, 0, 0, 0, 0, 0⟩) 41 (fun v2 g2 H => ?_)
  refine x_nil <| x_then <| x_seq <| x_region <| x_b H [.m, .l 1 0, .m] <| z_box H (stepA ⟨0, 0, (fun _ => 0), 0, 0, 0, 0, 0, 0, 0, 0, 0⟩) 41 (fun v3 g3 H => ?_)
  refine z_store H 0 0 ((stepA ⟨1, 0, (fun _ => 0), 0, 0, 0, 0, 0, 0, 0, 0, 0⟩)).toList (fun v4 H => ?_)
  refine x_nil <| x_then <| x_seq <| x_seq <| x_region <| x_b H [.m, .l 2 0] <| x_nil ?_
  refine x_then <| x_block <| x_seq <| x_region <| x_b H [.m, .m] <| x_nil <| x_then ?_
  refine x_t (by kernel_rfl) <| x_region <| x_b H [.m, .l 2 1, .m] <| z_store H 0 1 [.int .i64 sl] (fun v5 H => ?_)
  refine x_nil <| x_blk <| x_then <| x_seq <| x_region <| x_b H [.n 0 0 75 41] <| z_store H 1 0 ((stepA ⟨1, sl, (fun _ => 0), 0, 0, 0, 0, 0, 0, 0, 0, 0⟩)).toList (fun v6 H => ?_)
  refine x_nil <| x_then <| x_retc <| x_ret (.agg (stepA ⟨1, sl, (fun _ => 0), 0, 0, 0, 0, 0, 0, 0, 0, 0⟩)) (by kernel_rfl) (x_results [.cell 2 41] [.agg (stepA ⟨1, sl, (fun _ => 0), 0, 0, 0, 0, 0, 0, 0, 0, 0⟩)] _ rfl (AllR.cell (by kernel_rfl) (ldR H 1 g2 0 (stepA ⟨1, sl, (fun _ => 0), 0, 0, 0, 0, 0, 0, 0, 0, 0⟩) 41 (stepL ⟨1, sl, (fun _ => 0), 0, 0, 0, 0, 0, 0, 0, 0, 0⟩) (by kernel_rfl) (by kernel_rfl) (by kernel_rfl)) AllR.nil) (by kernel_rfl)) ?_
  exact ⟨rfl, H.below⟩
set_option maxRecDepth 100000 in
set_option maxHeartbeats 4000000 in
theorem bare_2 {sl fk rk bk ro co ch bi va : Int} {sd : Nat → Nat} {sm : Nat} (w0 : World) :
    Calls Tryd.prog 40 #[.agg (stepA ⟨2, sl, sd, sm, fk, rk, bk, ro, co, ch, bi, va⟩)] w0 fun e w' => e = .returned (.agg (stepA ⟨2, sl, sd, 0, 0, 0, 0, 0, 0, 0, 0, 0⟩)) ∧ Below w0.heap.size w0 w' := by
  refine z_enter Tryd.func40 rfl ?_
  have H := Hs.nil w0
  refine x_seq <| x_region <| z_box H (stepA ⟨2, sl, sd, sm, fk, rk, bk, ro, co, ch, bi, va⟩) 41 (fun v1 g1 H => ?_)
  refine z_box H (stepA ⟨0, 0, (fun _ => 0), 0, 0, 0, 0, 0, 0, 0, 0, 0⟩) 41 (fun v2 g2 H => ?_)
  refine x_nil <| x_then <| x_seq <| x_region <| x_b H [.m, .l 1 0, .m] <| z_box H (stepA ⟨0, 0, (fun _ => 0), 0, 0, 0, 0, 0, 0, 0, 0, 0⟩) 41 (fun v3 g3 H => ?_)
  refine z_store H 0 0 ((stepA ⟨2, 0, (fun _ => 0), 0, 0, 0, 0, 0, 0, 0, 0, 0⟩)).toList (fun v4 H => ?_)
  refine x_nil <| x_then <| x_seq <| x_seq <| x_region <| x_b H [.m, .l 2 0] <| x_nil ?_
  refine x_then <| x_block <| x_seq <| x_region <| x_b H [.m, .m] <| x_nil <| x_then ?_
  refine x_f (by kernel_rfl) <| x_seq <| x_region <| x_b H [.m, .m] <| x_nil <| x_then <| x_t (by kernel_rfl) ?_
  refine x_region <| x_b H [.m, .l 2 1, .m, .n 2 2 64 34, .m] <| z_store H 0 1 [.int .i64 sl] (fun v5 H => ?_)
  refine x_b H [.m] <| z_store H 0 2 ((arrL sd 64 0).toArray).toList (fun v6 H => ?_)
  refine x_nil <| x_blk <| x_then <| x_seq <| x_region <| x_b H [.n 0 0 75 41] <| z_store H 1 0 ((stepA ⟨2, sl, sd, 0, 0, 0, 0, 0, 0, 0, 0, 0⟩)).toList (fun v7 H => ?_)
  refine x_nil <| x_then <| x_retc <| x_ret (.agg (stepA ⟨2, sl, sd, 0, 0, 0, 0, 0, 0, 0, 0, 0⟩)) (by kernel_rfl) (x_results [.cell 2 41] [.agg (stepA ⟨2, sl, sd, 0, 0, 0, 0, 0, 0, 0, 0, 0⟩)] _ rfl (AllR.cell (by kernel_rfl) (ldR H 1 g2 0 (stepA ⟨2, sl, sd, 0, 0, 0, 0, 0, 0, 0, 0, 0⟩) 41 (stepL ⟨2, sl, sd, 0, 0, 0, 0, 0, 0, 0, 0, 0⟩) (by kernel_rfl) (by kernel_rfl) (by kernel_rfl)) AllR.nil) (by kernel_rfl)) ?_
  exact ⟨rfl, H.below⟩
set_option maxRecDepth 100000 in
set_option maxHeartbeats 4000000 in
theorem bare_3 {sl fk rk bk ro co ch bi va : Int} {sd : Nat → Nat} {sm : Nat} (w0 : World) :
    Calls Tryd.prog 40 #[.agg (stepA ⟨3, sl, sd, sm, fk, rk, bk, ro, co, ch, bi, va⟩)] w0 fun e w' => e = .returned (.agg (stepA ⟨3, sl, sd, sm, 0, 0, 0, 0, 0, 0, 0, 0⟩)) ∧ Below w0.heap.size w0 w' := by
  refine z_enter Tryd.func40 rfl ?_
  have H := Hs.nil w0
  refine x_seq <| x_region <| z_box H (stepA ⟨3, sl, sd, sm, fk, rk, bk, ro, co, ch, bi, va⟩) 41 (fun v1 g1 H => ?_)
  refine z_box H (stepA ⟨0, 0, (fun _ => 0), 0, 0, 0, 0, 0, 0, 0, 0, 0⟩) 41 (fun v2 g2 H => ?_)
  refine x_nil <| x_then <| x_seq <| x_region <| x_b H [.m, .l 1 0, .m] <| z_box H (stepA ⟨0, 0, (fun _ => 0), 0, 0, 0, 0, 0, 0, 0, 0, 0⟩) 41 (fun v3 g3 H => ?_)
  refine z_store H 0 0 ((stepA ⟨3, 0, (fun _ => 0), 0, 0, 0, 0, 0, 0, 0, 0, 0⟩)).toList (fun v4 H => ?_)
  refine x_nil <| x_then <| x_seq <| x_seq <| x_region <| x_b H [.m, .l 2 0] <| x_nil ?_
  refine x_then <| x_block <| x_seq <| x_region <| x_b H [.m, .m] <| x_nil <| x_then ?_
  refine x_f (by kernel_rfl) <| x_seq <| x_region <| x_b H [.m, .m] <| x_nil <| x_then <| x_f (by kernel_rfl) ?_
  refine x_seq <| x_region <| x_b H [.m, .m] <| x_nil <| x_then <| x_t (by kernel_rfl) <| x_region ?_
  refine x_b H [.m, .l 2 1, .m, .n 2 2 64 34, .m, .l 2 66, .m] <| z_store H 0 1 [.int .i64 sl] (fun v5 H => ?_)
  refine x_b H [.m] <| z_store H 0 2 ((arrL sd 64 0).toArray).toList (fun v6 H => ?_)
  refine x_b H [.m] <| z_store H 0 66 [.int .u64 (sm : Int)] (fun v7 H => ?_)
  refine x_nil <| x_blk <| x_then <| x_seq <| x_region <| x_b H [.n 0 0 75 41] <| z_store H 1 0 ((stepA ⟨3, sl, sd, sm, 0, 0, 0, 0, 0, 0, 0, 0⟩)).toList (fun v8 H => ?_)
  refine x_nil <| x_then <| x_retc <| x_ret (.agg (stepA ⟨3, sl, sd, sm, 0, 0, 0, 0, 0, 0, 0, 0⟩)) (by kernel_rfl) (x_results [.cell 2 41] [.agg (stepA ⟨3, sl, sd, sm, 0, 0, 0, 0, 0, 0, 0, 0⟩)] _ rfl (AllR.cell (by kernel_rfl) (ldR H 1 g2 0 (stepA ⟨3, sl, sd, sm, 0, 0, 0, 0, 0, 0, 0, 0⟩) 41 (stepL ⟨3, sl, sd, sm, 0, 0, 0, 0, 0, 0, 0, 0⟩) (by kernel_rfl) (by kernel_rfl) (by kernel_rfl)) AllR.nil) (by kernel_rfl)) ?_
  exact ⟨rfl, H.below⟩
set_option maxRecDepth 100000 in
set_option maxHeartbeats 4000000 in
theorem bare_o {sk sl fk rk bk ro co ch bi va : Int} {sd : Nat → Nat} {sm : Nat} (h : ¬ sk = 1 ∧ ¬ sk = 2 ∧ ¬ sk = 3 ∧ ¬ sk = 8) (w0 : World) :
    Calls Tryd.prog 40 #[.agg (stepA ⟨sk, sl, sd, sm, fk, rk, bk, ro, co, ch, bi, va⟩)] w0 fun e w' => e = .returned (.agg (stepA ⟨sk, 0, (fun _ => 0), 0, 0, 0, 0, 0, 0, 0, 0, 0⟩)) ∧ Below w0.heap.size w0 w' := by
  refine z_enter Tryd.func40 rfl ?_
  have H := Hs.nil w0
  refine x_seq <| x_region <| z_box H (stepA ⟨sk, sl, sd, sm, fk, rk, bk, ro, co, ch, bi, va⟩) 41 (fun v1 g1 H => ?_)
  refine z_box H (stepA ⟨0, 0, (fun _ => 0), 0, 0, 0, 0, 0, 0, 0, 0, 0⟩) 41 (fun v2 g2 H => ?_)
  refine x_nil <| x_then <| x_seq <| x_region <| x_b H [.m, .l 1 0, .m] <| z_box H (stepA ⟨0, 0, (fun _ => 0), 0, 0, 0, 0, 0, 0, 0, 0, 0⟩) 41 (fun v3 g3 H => ?_)
  refine z_store H 0 0 ((stepA ⟨sk, 0, (fun _ => 0), 0, 0, 0, 0, 0, 0, 0, 0, 0⟩)).toList (fun v4 H => ?_)
  refine x_nil <| x_then <| x_seq <| x_seq <| x_region <| x_b H [.m, .l 2 0] <| x_nil ?_
  refine x_then <| x_block <| x_seq <| x_region <| x_b H [.v (.bool (decide (sk = 1))), .v (.bool (decide (sk = 1)))] <| x_nil <| x_then ?_
  cases h1 : decide (sk = 1)
  · skip
    have h1p := of_decide_eq_false h1
    refine x_f (by kernel_rfl) <| x_seq <| x_region <| x_b H [.v (.bool (decide (sk = 2))), .v (.bool (decide (sk = 2)))] <| x_nil <| x_then ?_
    cases h2 : decide (sk = 2)
    · skip
      have h2p := of_decide_eq_false h2
      refine x_f (by kernel_rfl) <| x_seq <| x_region <| x_b H [.v (.bool (decide (sk = 3))), .v (.bool (decide (sk = 3)))] <| x_nil <| x_then ?_
      cases h3 : decide (sk = 3)
      · skip
        have h3p := of_decide_eq_false h3
        refine x_f (by kernel_rfl) <| x_seq <| x_region <| x_b H [.v (.bool (decide (sk = 8))), .v (.bool (decide (sk = 8)))] <| x_nil <| x_then ?_
        cases h4 : decide (sk = 8)
        · skip
          have h4p := of_decide_eq_false h4
          refine x_f (by kernel_rfl) <| x_skipc <| x_blk <| x_then <| x_seq <| x_region <| x_b H [.n 0 0 75 41] ?_
          refine z_store H 1 0 ((stepA ⟨sk, 0, (fun _ => 0), 0, 0, 0, 0, 0, 0, 0, 0, 0⟩)).toList (fun v5 H => ?_)
          refine x_nil <| x_then <| x_retc <| x_ret (.agg (stepA ⟨sk, 0, (fun _ => 0), 0, 0, 0, 0, 0, 0, 0, 0, 0⟩)) (by kernel_rfl) (x_results [.cell 2 41] [.agg (stepA ⟨sk, 0, (fun _ => 0), 0, 0, 0, 0, 0, 0, 0, 0, 0⟩)] _ rfl (AllR.cell (by kernel_rfl) (ldR H 1 g2 0 (stepA ⟨sk, 0, (fun _ => 0), 0, 0, 0, 0, 0, 0, 0, 0, 0⟩) 41 (stepL ⟨sk, 0, (fun _ => 0), 0, 0, 0, 0, 0, 0, 0, 0, 0⟩) (by kernel_rfl) (by kernel_rfl) (by kernel_rfl)) AllR.nil) (by kernel_rfl)) ?_
          exact ⟨rfl, H.below⟩
        have h4p := of_decide_eq_true h4
        exact absurd h4p (by omega)
      have h3p := of_decide_eq_true h3
      exact absurd h3p (by omega)
    have h2p := of_decide_eq_true h2
    exact absurd h2p (by omega)
  have h1p := of_decide_eq_true h1
  exact absurd h1p (by omega)
set_option maxRecDepth 100000 in
set_option maxHeartbeats 4000000 in
theorem bare_81 {sl rk bk ro co ch bi va : Int} {sd : Nat → Nat} {sm : Nat} (w0 : World) :
    Calls Tryd.prog 40 #[.agg (stepA ⟨8, sl, sd, sm, 1, rk, bk, ro, co, ch, bi, va⟩)] w0 fun e w' => e = .returned (.agg (stepA ⟨8, 0, (fun _ => 0), 0, 1, rk, bk, ro, co, 0, bi, 0⟩)) ∧ Below w0.heap.size w0 w' := by
  refine z_enter Tryd.func40 rfl ?_
  have H := Hs.nil w0
  refine x_seq <| x_region <| z_box H (stepA ⟨8, sl, sd, sm, 1, rk, bk, ro, co, ch, bi, va⟩) 41 (fun v1 g1 H => ?_)
  refine z_box H (stepA ⟨0, 0, (fun _ => 0), 0, 0, 0, 0, 0, 0, 0, 0, 0⟩) 41 (fun v2 g2 H => ?_)
  refine x_nil <| x_then <| x_seq <| x_region <| x_b H [.m, .l 1 0, .m] <| z_box H (stepA ⟨0, 0, (fun _ => 0), 0, 0, 0, 0, 0, 0, 0, 0, 0⟩) 41 (fun v3 g3 H => ?_)
  refine z_store H 0 0 ((stepA ⟨8, 0, (fun _ => 0), 0, 0, 0, 0, 0, 0, 0, 0, 0⟩)).toList (fun v4 H => ?_)
  refine x_nil <| x_then <| x_seq <| x_seq <| x_region <| x_b H [.m, .l 2 0] <| x_nil ?_
  refine x_then <| x_block <| x_seq <| x_region <| x_b H [.m, .m] <| x_nil <| x_then ?_
  refine x_f (by kernel_rfl) <| x_seq <| x_region <| x_b H [.m, .m] <| x_nil <| x_then <| x_f (by kernel_rfl) ?_
  refine x_seq <| x_region <| x_b H [.m, .m] <| x_nil <| x_then <| x_f (by kernel_rfl) <| x_seq ?_
  refine x_region <| x_b H [.m, .m] <| x_nil <| x_then <| x_t (by kernel_rfl) <| x_seq <| x_region ?_
  refine x_b H [.m, .m, .l 2 67, .m, .m] <| z_store H 0 67 [.int .i64 1] (fun v5 H => ?_)
  refine x_nil <| x_then <| x_seq <| x_region <| x_b H [.m] <| z_call (numbers_1 (g := g3) (sk := 8) (sl := 0) (sd := (fun _ => 0)) (sm := 0) (rk := 0) (bk := 0) (ro := 0) (co := 0) (ch := 0) (bi := 0) (va := 0) _ (roAs (H.ro1 [0]) (by kernel_rfl))) ?_
  rintro _ v6 ⟨nq1, rfl, hN'⟩
  refine ⟨_, rfl, ?_⟩
  replace H := H.more hN'
  clear hN'
  refine x_b H [.m] <| x_nil <| x_then <| x_seq <| x_region <| x_b H [.m] <| z_call (numbers_1 (g := g1) (sk := 8) (sl := sl) (sd := sd) (sm := sm) (rk := rk) (bk := bk) (ro := ro) (co := co) (ch := ch) (bi := bi) (va := va) _ (roAs (H.ro1 [3]) (by kernel_rfl))) ?_
  rintro _ v7 ⟨nq2, rfl, hN'⟩
  refine ⟨_, rfl, ?_⟩
  replace H := H.more hN'
  clear hN'
  refine x_b H [.m, .m] <| x_nil <| x_then <| x_block <| x_loop (G := Nat) (fun (c : Nat) a w' => ∃ uf1 : Nat → Value, a = frm 63 uf1 [(2, .pointer (some ⟨g2, 0, none⟩)), (3, .pointer (some ⟨g3, 0, none⟩)), (4, .slice (some ⟨nq1, 0, none⟩) 5 5), (46, .slice (some ⟨nq2, 0, none⟩) 5 5), (47, .int .i64 5), (48, .int .i64 (c : Int))] [] ∧ Hs [] w0 w' [.blk nq2 #[.pointer (some ⟨g1, 68, none⟩), .pointer (some ⟨g1, 69, none⟩), .pointer (some ⟨g1, 70, none⟩), .pointer (some ⟨g1, 71, none⟩), .pointer (some ⟨g1, 73, none⟩)] 61, .blk nq1 #[.pointer (some ⟨g3, 68, none⟩), .pointer (some ⟨g3, 69, none⟩), .pointer (some ⟨g3, 70, none⟩), .pointer (some ⟨g3, 71, none⟩), .pointer (some ⟨g3, 73, none⟩)] 61, .blk g3 (stepA (([⟨8, 0, (fun _ => 0), 0, 1, 0, 0, 0, 0, 0, 0, 0⟩, ⟨8, 0, (fun _ => 0), 0, 1, rk, 0, 0, 0, 0, 0, 0⟩, ⟨8, 0, (fun _ => 0), 0, 1, rk, bk, 0, 0, 0, 0, 0⟩, ⟨8, 0, (fun _ => 0), 0, 1, rk, bk, ro, 0, 0, 0, 0⟩, ⟨8, 0, (fun _ => 0), 0, 1, rk, bk, ro, co, 0, 0, 0⟩, ⟨8, 0, (fun _ => 0), 0, 1, rk, bk, ro, co, 0, bi, 0⟩] : List Stp).getD c zeroS)) 41, .blk g2 (stepA ⟨0, 0, (fun _ => 0), 0, 0, 0, 0, 0, 0, 0, 0, 0⟩) 41, .blk g1 (stepA ⟨8, sl, sd, sm, 1, rk, bk, ro, co, ch, bi, va⟩) 41] ∧ (c ≤ 5)) (fun (c : Nat) => 5 - c) 0 ⟨_, frm_of, H, (Nat.zero_le _)⟩ ?_
  clear H
  rintro c _ v8 ⟨uf1, rfl, H, r1⟩
  rcases (show c = 0 ∨ c = 1 ∨ c = 2 ∨ c = 3 ∨ c = 4 ∨ c = 5 by omega) with rfl | rfl | rfl | rfl | rfl | rfl
  · skip
    replace H : Hs [] w0 _ [.blk nq2 #[.pointer (some ⟨g1, 68, none⟩), .pointer (some ⟨g1, 69, none⟩), .pointer (some ⟨g1, 70, none⟩), .pointer (some ⟨g1, 71, none⟩), .pointer (some ⟨g1, 73, none⟩)] 61, .blk nq1 #[.pointer (some ⟨g3, 68, none⟩), .pointer (some ⟨g3, 69, none⟩), .pointer (some ⟨g3, 70, none⟩), .pointer (some ⟨g3, 71, none⟩), .pointer (some ⟨g3, 73, none⟩)] 61, .blk g3 (stepA ⟨8, 0, (fun _ => 0), 0, 1, 0, 0, 0, 0, 0, 0, 0⟩) 41, .blk g2 (stepA ⟨0, 0, (fun _ => 0), 0, 0, 0, 0, 0, 0, 0, 0, 0⟩) 41, .blk g1 (stepA ⟨8, sl, sd, sm, 1, rk, bk, ro, co, ch, bi, va⟩) 41] := hsAs H (by kernel_rfl)
    refine x_seq <| x_region <| x_b H [.m] <| x_nil <| x_then <| x_seq <| x_t (by kernel_rfl) ?_
    refine x_skipc <| x_then <| x_seq <| x_block <| x_seq <| x_region <| x_b H [.m, .m, .l 0 0, .m, .m] ?_
    refine x_nil <| x_then <| z_region_head H 8 ?_
    simp only [List.take_succ_cons, List.take_zero, List.drop_succ_cons, List.drop_zero]
    refine q_b [.m, .m, .m, .l 1 0, .m, .m, .l 4 68, .m] <| q_nil ?_
    clear H
    intro v9 H
    refine z_store H 2 68 [.int .i64 rk] (fun v10 H => ?_)
    refine x_nil <| x_blk <| x_then <| x_region <| x_b H [.m, .m] <| x_nil <| x_then ?_
    replace H := H.pk [0, 1, 2, 3, 4]
    replace H : Hs [] w0 _ [.blk nq2 #[.pointer (some ⟨g1, 68, none⟩), .pointer (some ⟨g1, 69, none⟩), .pointer (some ⟨g1, 70, none⟩), .pointer (some ⟨g1, 71, none⟩), .pointer (some ⟨g1, 73, none⟩)] 61, .blk nq1 #[.pointer (some ⟨g3, 68, none⟩), .pointer (some ⟨g3, 69, none⟩), .pointer (some ⟨g3, 70, none⟩), .pointer (some ⟨g3, 71, none⟩), .pointer (some ⟨g3, 73, none⟩)] 61, .blk g3 (stepA (([⟨8, 0, (fun _ => 0), 0, 1, 0, 0, 0, 0, 0, 0, 0⟩, ⟨8, 0, (fun _ => 0), 0, 1, rk, 0, 0, 0, 0, 0, 0⟩, ⟨8, 0, (fun _ => 0), 0, 1, rk, bk, 0, 0, 0, 0, 0⟩, ⟨8, 0, (fun _ => 0), 0, 1, rk, bk, ro, 0, 0, 0, 0⟩, ⟨8, 0, (fun _ => 0), 0, 1, rk, bk, ro, co, 0, 0, 0⟩, ⟨8, 0, (fun _ => 0), 0, 1, rk, bk, ro, co, 0, bi, 0⟩] : List Stp).getD 1 zeroS)) 41, .blk g2 (stepA ⟨0, 0, (fun _ => 0), 0, 0, 0, 0, 0, 0, 0, 0, 0⟩) 41, .blk g1 (stepA ⟨8, sl, sd, sm, 1, rk, bk, ro, co, ch, bi, va⟩) 41] := hsAs H (by kernel_rfl)
    exact ⟨1, (by omega), _, frm_of, H, (by omega)⟩
  · skip
    replace H : Hs [] w0 _ [.blk nq2 #[.pointer (some ⟨g1, 68, none⟩), .pointer (some ⟨g1, 69, none⟩), .pointer (some ⟨g1, 70, none⟩), .pointer (some ⟨g1, 71, none⟩), .pointer (some ⟨g1, 73, none⟩)] 61, .blk nq1 #[.pointer (some ⟨g3, 68, none⟩), .pointer (some ⟨g3, 69, none⟩), .pointer (some ⟨g3, 70, none⟩), .pointer (some ⟨g3, 71, none⟩), .pointer (some ⟨g3, 73, none⟩)] 61, .blk g3 (stepA ⟨8, 0, (fun _ => 0), 0, 1, rk, 0, 0, 0, 0, 0, 0⟩) 41, .blk g2 (stepA ⟨0, 0, (fun _ => 0), 0, 0, 0, 0, 0, 0, 0, 0, 0⟩) 41, .blk g1 (stepA ⟨8, sl, sd, sm, 1, rk, bk, ro, co, ch, bi, va⟩) 41] := hsAs H (by kernel_rfl)
    refine x_seq <| x_region <| x_b H [.m] <| x_nil <| x_then <| x_seq <| x_t (by kernel_rfl) ?_
    refine x_skipc <| x_then <| x_seq <| x_block <| x_seq <| x_region <| x_b H [.m, .m, .l 0 1, .m, .m] ?_
    refine x_nil <| x_then <| z_region_head H 8 ?_
    simp only [List.take_succ_cons, List.take_zero, List.drop_succ_cons, List.drop_zero]
    refine q_b [.m, .m, .m, .l 1 1, .m, .m, .l 4 69, .m] <| q_nil ?_
    clear H
    intro v11 H
    refine z_store H 2 69 [.int .i64 bk] (fun v12 H => ?_)
    refine x_nil <| x_blk <| x_then <| x_region <| x_b H [.m, .m] <| x_nil <| x_then ?_
    replace H := H.pk [0, 1, 2, 3, 4]
    replace H : Hs [] w0 _ [.blk nq2 #[.pointer (some ⟨g1, 68, none⟩), .pointer (some ⟨g1, 69, none⟩), .pointer (some ⟨g1, 70, none⟩), .pointer (some ⟨g1, 71, none⟩), .pointer (some ⟨g1, 73, none⟩)] 61, .blk nq1 #[.pointer (some ⟨g3, 68, none⟩), .pointer (some ⟨g3, 69, none⟩), .pointer (some ⟨g3, 70, none⟩), .pointer (some ⟨g3, 71, none⟩), .pointer (some ⟨g3, 73, none⟩)] 61, .blk g3 (stepA (([⟨8, 0, (fun _ => 0), 0, 1, 0, 0, 0, 0, 0, 0, 0⟩, ⟨8, 0, (fun _ => 0), 0, 1, rk, 0, 0, 0, 0, 0, 0⟩, ⟨8, 0, (fun _ => 0), 0, 1, rk, bk, 0, 0, 0, 0, 0⟩, ⟨8, 0, (fun _ => 0), 0, 1, rk, bk, ro, 0, 0, 0, 0⟩, ⟨8, 0, (fun _ => 0), 0, 1, rk, bk, ro, co, 0, 0, 0⟩, ⟨8, 0, (fun _ => 0), 0, 1, rk, bk, ro, co, 0, bi, 0⟩] : List Stp).getD 2 zeroS)) 41, .blk g2 (stepA ⟨0, 0, (fun _ => 0), 0, 0, 0, 0, 0, 0, 0, 0, 0⟩) 41, .blk g1 (stepA ⟨8, sl, sd, sm, 1, rk, bk, ro, co, ch, bi, va⟩) 41] := hsAs H (by kernel_rfl)
    exact ⟨2, (by omega), _, frm_of, H, (by omega)⟩
  · skip
    replace H : Hs [] w0 _ [.blk nq2 #[.pointer (some ⟨g1, 68, none⟩), .pointer (some ⟨g1, 69, none⟩), .pointer (some ⟨g1, 70, none⟩), .pointer (some ⟨g1, 71, none⟩), .pointer (some ⟨g1, 73, none⟩)] 61, .blk nq1 #[.pointer (some ⟨g3, 68, none⟩), .pointer (some ⟨g3, 69, none⟩), .pointer (some ⟨g3, 70, none⟩), .pointer (some ⟨g3, 71, none⟩), .pointer (some ⟨g3, 73, none⟩)] 61, .blk g3 (stepA ⟨8, 0, (fun _ => 0), 0, 1, rk, bk, 0, 0, 0, 0, 0⟩) 41, .blk g2 (stepA ⟨0, 0, (fun _ => 0), 0, 0, 0, 0, 0, 0, 0, 0, 0⟩) 41, .blk g1 (stepA ⟨8, sl, sd, sm, 1, rk, bk, ro, co, ch, bi, va⟩) 41] := hsAs H (by kernel_rfl)
    refine x_seq <| x_region <| x_b H [.m] <| x_nil <| x_then <| x_seq <| x_t (by kernel_rfl) ?_
    refine x_skipc <| x_then <| x_seq <| x_block <| x_seq <| x_region <| x_b H [.m, .m, .l 0 2, .m, .m] ?_
    refine x_nil <| x_then <| z_region_head H 8 ?_
    simp only [List.take_succ_cons, List.take_zero, List.drop_succ_cons, List.drop_zero]
    refine q_b [.m, .m, .m, .l 1 2, .m, .m, .l 4 70, .m] <| q_nil ?_
    clear H
    intro v13 H
    refine z_store H 2 70 [.int .i64 ro] (fun v14 H => ?_)
    refine x_nil <| x_blk <| x_then <| x_region <| x_b H [.m, .m] <| x_nil <| x_then ?_
    replace H := H.pk [0, 1, 2, 3, 4]
    replace H : Hs [] w0 _ [.blk nq2 #[.pointer (some ⟨g1, 68, none⟩), .pointer (some ⟨g1, 69, none⟩), .pointer (some ⟨g1, 70, none⟩), .pointer (some ⟨g1, 71, none⟩), .pointer (some ⟨g1, 73, none⟩)] 61, .blk nq1 #[.pointer (some ⟨g3, 68, none⟩), .pointer (some ⟨g3, 69, none⟩), .pointer (some ⟨g3, 70, none⟩), .pointer (some ⟨g3, 71, none⟩), .pointer (some ⟨g3, 73, none⟩)] 61, .blk g3 (stepA (([⟨8, 0, (fun _ => 0), 0, 1, 0, 0, 0, 0, 0, 0, 0⟩, ⟨8, 0, (fun _ => 0), 0, 1, rk, 0, 0, 0, 0, 0, 0⟩, ⟨8, 0, (fun _ => 0), 0, 1, rk, bk, 0, 0, 0, 0, 0⟩, ⟨8, 0, (fun _ => 0), 0, 1, rk, bk, ro, 0, 0, 0, 0⟩, ⟨8, 0, (fun _ => 0), 0, 1, rk, bk, ro, co, 0, 0, 0⟩, ⟨8, 0, (fun _ => 0), 0, 1, rk, bk, ro, co, 0, bi, 0⟩] : List Stp).getD 3 zeroS)) 41, .blk g2 (stepA ⟨0, 0, (fun _ => 0), 0, 0, 0, 0, 0, 0, 0, 0, 0⟩) 41, .blk g1 (stepA ⟨8, sl, sd, sm, 1, rk, bk, ro, co, ch, bi, va⟩) 41] := hsAs H (by kernel_rfl)
    exact ⟨3, (by omega), _, frm_of, H, (by omega)⟩
  · skip
    replace H : Hs [] w0 _ [.blk nq2 #[.pointer (some ⟨g1, 68, none⟩), .pointer (some ⟨g1, 69, none⟩), .pointer (some ⟨g1, 70, none⟩), .pointer (some ⟨g1, 71, none⟩), .pointer (some ⟨g1, 73, none⟩)] 61, .blk nq1 #[.pointer (some ⟨g3, 68, none⟩), .pointer (some ⟨g3, 69, none⟩), .pointer (some ⟨g3, 70, none⟩), .pointer (some ⟨g3, 71, none⟩), .pointer (some ⟨g3, 73, none⟩)] 61, .blk g3 (stepA ⟨8, 0, (fun _ => 0), 0, 1, rk, bk, ro, 0, 0, 0, 0⟩) 41, .blk g2 (stepA ⟨0, 0, (fun _ => 0), 0, 0, 0, 0, 0, 0, 0, 0, 0⟩) 41, .blk g1 (stepA ⟨8, sl, sd, sm, 1, rk, bk, ro, co, ch, bi, va⟩) 41] := hsAs H (by kernel_rfl)
    refine x_seq <| x_region <| x_b H [.m] <| x_nil <| x_then <| x_seq <| x_t (by kernel_rfl) ?_
    refine x_skipc <| x_then <| x_seq <| x_block <| x_seq <| x_region <| x_b H [.m, .m, .l 0 3, .m, .m] ?_
    refine x_nil <| x_then <| z_region_head H 8 ?_
    simp only [List.take_succ_cons, List.take_zero, List.drop_succ_cons, List.drop_zero]
    refine q_b [.m, .m, .m, .l 1 3, .m, .m, .l 4 71, .m] <| q_nil ?_
    clear H
    intro v15 H
    refine z_store H 2 71 [.int .i64 co] (fun v16 H => ?_)
    refine x_nil <| x_blk <| x_then <| x_region <| x_b H [.m, .m] <| x_nil <| x_then ?_
    replace H := H.pk [0, 1, 2, 3, 4]
    replace H : Hs [] w0 _ [.blk nq2 #[.pointer (some ⟨g1, 68, none⟩), .pointer (some ⟨g1, 69, none⟩), .pointer (some ⟨g1, 70, none⟩), .pointer (some ⟨g1, 71, none⟩), .pointer (some ⟨g1, 73, none⟩)] 61, .blk nq1 #[.pointer (some ⟨g3, 68, none⟩), .pointer (some ⟨g3, 69, none⟩), .pointer (some ⟨g3, 70, none⟩), .pointer (some ⟨g3, 71, none⟩), .pointer (some ⟨g3, 73, none⟩)] 61, .blk g3 (stepA (([⟨8, 0, (fun _ => 0), 0, 1, 0, 0, 0, 0, 0, 0, 0⟩, ⟨8, 0, (fun _ => 0), 0, 1, rk, 0, 0, 0, 0, 0, 0⟩, ⟨8, 0, (fun _ => 0), 0, 1, rk, bk, 0, 0, 0, 0, 0⟩, ⟨8, 0, (fun _ => 0), 0, 1, rk, bk, ro, 0, 0, 0, 0⟩, ⟨8, 0, (fun _ => 0), 0, 1, rk, bk, ro, co, 0, 0, 0⟩, ⟨8, 0, (fun _ => 0), 0, 1, rk, bk, ro, co, 0, bi, 0⟩] : List Stp).getD 4 zeroS)) 41, .blk g2 (stepA ⟨0, 0, (fun _ => 0), 0, 0, 0, 0, 0, 0, 0, 0, 0⟩) 41, .blk g1 (stepA ⟨8, sl, sd, sm, 1, rk, bk, ro, co, ch, bi, va⟩) 41] := hsAs H (by kernel_rfl)
    exact ⟨4, (by omega), _, frm_of, H, (by omega)⟩
  · skip
    replace H : Hs [] w0 _ [.blk nq2 #[.pointer (some ⟨g1, 68, none⟩), .pointer (some ⟨g1, 69, none⟩), .pointer (some ⟨g1, 70, none⟩), .pointer (some ⟨g1, 71, none⟩), .pointer (some ⟨g1, 73, none⟩)] 61, .blk nq1 #[.pointer (some ⟨g3, 68, none⟩), .pointer (some ⟨g3, 69, none⟩), .pointer (some ⟨g3, 70, none⟩), .pointer (some ⟨g3, 71, none⟩), .pointer (some ⟨g3, 73, none⟩)] 61, .blk g3 (stepA ⟨8, 0, (fun _ => 0), 0, 1, rk, bk, ro, co, 0, 0, 0⟩) 41, .blk g2 (stepA ⟨0, 0, (fun _ => 0), 0, 0, 0, 0, 0, 0, 0, 0, 0⟩) 41, .blk g1 (stepA ⟨8, sl, sd, sm, 1, rk, bk, ro, co, ch, bi, va⟩) 41] := hsAs H (by kernel_rfl)
    refine x_seq <| x_region <| x_b H [.m] <| x_nil <| x_then <| x_seq <| x_t (by kernel_rfl) ?_
    refine x_skipc <| x_then <| x_seq <| x_block <| x_seq <| x_region <| x_b H [.m, .m, .l 0 4, .m, .m] ?_
    refine x_nil <| x_then <| z_region_head H 8 ?_
    simp only [List.take_succ_cons, List.take_zero, List.drop_succ_cons, List.drop_zero]
    refine q_b [.m, .m, .m, .l 1 4, .m, .m, .l 4 73, .m] <| q_nil ?_
    clear H
    intro v17 H
    refine z_store H 2 73 [.int .i64 bi] (fun v18 H => ?_)
    refine x_nil <| x_blk <| x_then <| x_region <| x_b H [.m, .m] <| x_nil <| x_then ?_
    replace H := H.pk [0, 1, 2, 3, 4]
    replace H : Hs [] w0 _ [.blk nq2 #[.pointer (some ⟨g1, 68, none⟩), .pointer (some ⟨g1, 69, none⟩), .pointer (some ⟨g1, 70, none⟩), .pointer (some ⟨g1, 71, none⟩), .pointer (some ⟨g1, 73, none⟩)] 61, .blk nq1 #[.pointer (some ⟨g3, 68, none⟩), .pointer (some ⟨g3, 69, none⟩), .pointer (some ⟨g3, 70, none⟩), .pointer (some ⟨g3, 71, none⟩), .pointer (some ⟨g3, 73, none⟩)] 61, .blk g3 (stepA (([⟨8, 0, (fun _ => 0), 0, 1, 0, 0, 0, 0, 0, 0, 0⟩, ⟨8, 0, (fun _ => 0), 0, 1, rk, 0, 0, 0, 0, 0, 0⟩, ⟨8, 0, (fun _ => 0), 0, 1, rk, bk, 0, 0, 0, 0, 0⟩, ⟨8, 0, (fun _ => 0), 0, 1, rk, bk, ro, 0, 0, 0, 0⟩, ⟨8, 0, (fun _ => 0), 0, 1, rk, bk, ro, co, 0, 0, 0⟩, ⟨8, 0, (fun _ => 0), 0, 1, rk, bk, ro, co, 0, bi, 0⟩] : List Stp).getD 5 zeroS)) 41, .blk g2 (stepA ⟨0, 0, (fun _ => 0), 0, 0, 0, 0, 0, 0, 0, 0, 0⟩) 41, .blk g1 (stepA ⟨8, sl, sd, sm, 1, rk, bk, ro, co, ch, bi, va⟩) 41] := hsAs H (by kernel_rfl)
    exact ⟨5, (by omega), _, frm_of, H, (by omega)⟩
  · skip
    replace H : Hs [] w0 _ [.blk nq2 #[.pointer (some ⟨g1, 68, none⟩), .pointer (some ⟨g1, 69, none⟩), .pointer (some ⟨g1, 70, none⟩), .pointer (some ⟨g1, 71, none⟩), .pointer (some ⟨g1, 73, none⟩)] 61, .blk nq1 #[.pointer (some ⟨g3, 68, none⟩), .pointer (some ⟨g3, 69, none⟩), .pointer (some ⟨g3, 70, none⟩), .pointer (some ⟨g3, 71, none⟩), .pointer (some ⟨g3, 73, none⟩)] 61, .blk g3 (stepA ⟨8, 0, (fun _ => 0), 0, 1, rk, bk, ro, co, 0, bi, 0⟩) 41, .blk g2 (stepA ⟨0, 0, (fun _ => 0), 0, 0, 0, 0, 0, 0, 0, 0, 0⟩) 41, .blk g1 (stepA ⟨8, sl, sd, sm, 1, rk, bk, ro, co, ch, bi, va⟩) 41] := hsAs H (by kernel_rfl)
    refine x_seq <| x_region <| x_b H [.m] <| x_nil <| x_then <| x_seq <| x_f (by kernel_rfl) ?_
    refine x_exit <| x_then_exit <| x_then_exit <| x_blk_exit <| x_blk <| x_then <| x_seq ?_
    refine x_region <| x_b H [.n 2 0 75 41] <| z_store H 3 0 ((stepA ⟨8, 0, (fun _ => 0), 0, 1, rk, bk, ro, co, 0, bi, 0⟩)).toList (fun v19 H => ?_)
    refine x_nil <| x_then <| x_retc <| x_ret (.agg (stepA ⟨8, 0, (fun _ => 0), 0, 1, rk, bk, ro, co, 0, bi, 0⟩)) (by kernel_rfl) (x_results [.cell 2 41] [.agg (stepA ⟨8, 0, (fun _ => 0), 0, 1, rk, bk, ro, co, 0, bi, 0⟩)] _ rfl (AllR.cell (by kernel_rfl) (ldR H 3 g2 0 (stepA ⟨8, 0, (fun _ => 0), 0, 1, rk, bk, ro, co, 0, bi, 0⟩) 41 (stepL ⟨8, 0, (fun _ => 0), 0, 1, rk, bk, ro, co, 0, bi, 0⟩) (by kernel_rfl) (by kernel_rfl) (by kernel_rfl)) AllR.nil) (by kernel_rfl)) ?_
    exact ⟨rfl, H.below⟩
set_option maxRecDepth 100000 in
set_option maxHeartbeats 4000000 in
theorem bare_82 {sl rk bk ro co ch bi va : Int} {sd : Nat → Nat} {sm : Nat} (w0 : World) :
    Calls Tryd.prog 40 #[.agg (stepA ⟨8, sl, sd, sm, 2, rk, bk, ro, co, ch, bi, va⟩)] w0 fun e w' => e = .returned (.agg (stepA ⟨8, 0, (fun _ => 0), 0, 2, rk, bk, ro, co, 0, bi, va⟩)) ∧ Below w0.heap.size w0 w' := by
  refine z_enter Tryd.func40 rfl ?_
  have H := Hs.nil w0
  refine x_seq <| x_region <| z_box H (stepA ⟨8, sl, sd, sm, 2, rk, bk, ro, co, ch, bi, va⟩) 41 (fun v1 g1 H => ?_)
  refine z_box H (stepA ⟨0, 0, (fun _ => 0), 0, 0, 0, 0, 0, 0, 0, 0, 0⟩) 41 (fun v2 g2 H => ?_)
  refine x_nil <| x_then <| x_seq <| x_region <| x_b H [.m, .l 1 0, .m] <| z_box H (stepA ⟨0, 0, (fun _ => 0), 0, 0, 0, 0, 0, 0, 0, 0, 0⟩) 41 (fun v3 g3 H => ?_)
  refine z_store H 0 0 ((stepA ⟨8, 0, (fun _ => 0), 0, 0, 0, 0, 0, 0, 0, 0, 0⟩)).toList (fun v4 H => ?_)
  refine x_nil <| x_then <| x_seq <| x_seq <| x_region <| x_b H [.m, .l 2 0] <| x_nil ?_
  refine x_then <| x_block <| x_seq <| x_region <| x_b H [.m, .m] <| x_nil <| x_then ?_
  refine x_f (by kernel_rfl) <| x_seq <| x_region <| x_b H [.m, .m] <| x_nil <| x_then <| x_f (by kernel_rfl) ?_
  refine x_seq <| x_region <| x_b H [.m, .m] <| x_nil <| x_then <| x_f (by kernel_rfl) <| x_seq ?_
  refine x_region <| x_b H [.m, .m] <| x_nil <| x_then <| x_t (by kernel_rfl) <| x_seq <| x_region ?_
  refine x_b H [.m, .m, .l 2 67, .m, .m] <| z_store H 0 67 [.int .i64 2] (fun v5 H => ?_)
  refine x_nil <| x_then <| x_seq <| x_region <| x_b H [.m] <| z_call (numbers_2 (g := g3) (sk := 8) (sl := 0) (sd := (fun _ => 0)) (sm := 0) (rk := 0) (bk := 0) (ro := 0) (co := 0) (ch := 0) (bi := 0) (va := 0) _ (roAs (H.ro1 [0]) (by kernel_rfl))) ?_
  rintro _ v6 ⟨nq1, rfl, hN'⟩
  refine ⟨_, rfl, ?_⟩
  replace H := H.more hN'
  clear hN'
  refine x_b H [.m] <| x_nil <| x_then <| x_seq <| x_region <| x_b H [.m] <| z_call (numbers_2 (g := g1) (sk := 8) (sl := sl) (sd := sd) (sm := sm) (rk := rk) (bk := bk) (ro := ro) (co := co) (ch := ch) (bi := bi) (va := va) _ (roAs (H.ro1 [3]) (by kernel_rfl))) ?_
  rintro _ v7 ⟨nq2, rfl, hN'⟩
  refine ⟨_, rfl, ?_⟩
  replace H := H.more hN'
  clear hN'
  refine x_b H [.m, .m] <| x_nil <| x_then <| x_block <| x_loop (G := Nat) (fun (c : Nat) a w' => ∃ uf1 : Nat → Value, a = frm 63 uf1 [(2, .pointer (some ⟨g2, 0, none⟩)), (3, .pointer (some ⟨g3, 0, none⟩)), (4, .slice (some ⟨nq1, 0, none⟩) 6 6), (46, .slice (some ⟨nq2, 0, none⟩) 6 6), (47, .int .i64 6), (48, .int .i64 (c : Int))] [] ∧ Hs [] w0 w' [.blk nq2 #[.pointer (some ⟨g1, 68, none⟩), .pointer (some ⟨g1, 69, none⟩), .pointer (some ⟨g1, 70, none⟩), .pointer (some ⟨g1, 71, none⟩), .pointer (some ⟨g1, 73, none⟩), .pointer (some ⟨g1, 74, none⟩)] 61, .blk nq1 #[.pointer (some ⟨g3, 68, none⟩), .pointer (some ⟨g3, 69, none⟩), .pointer (some ⟨g3, 70, none⟩), .pointer (some ⟨g3, 71, none⟩), .pointer (some ⟨g3, 73, none⟩), .pointer (some ⟨g3, 74, none⟩)] 61, .blk g3 (stepA (([⟨8, 0, (fun _ => 0), 0, 2, 0, 0, 0, 0, 0, 0, 0⟩, ⟨8, 0, (fun _ => 0), 0, 2, rk, 0, 0, 0, 0, 0, 0⟩, ⟨8, 0, (fun _ => 0), 0, 2, rk, bk, 0, 0, 0, 0, 0⟩, ⟨8, 0, (fun _ => 0), 0, 2, rk, bk, ro, 0, 0, 0, 0⟩, ⟨8, 0, (fun _ => 0), 0, 2, rk, bk, ro, co, 0, 0, 0⟩, ⟨8, 0, (fun _ => 0), 0, 2, rk, bk, ro, co, 0, bi, 0⟩, ⟨8, 0, (fun _ => 0), 0, 2, rk, bk, ro, co, 0, bi, va⟩] : List Stp).getD c zeroS)) 41, .blk g2 (stepA ⟨0, 0, (fun _ => 0), 0, 0, 0, 0, 0, 0, 0, 0, 0⟩) 41, .blk g1 (stepA ⟨8, sl, sd, sm, 2, rk, bk, ro, co, ch, bi, va⟩) 41] ∧ (c ≤ 6)) (fun (c : Nat) => 6 - c) 0 ⟨_, frm_of, H, (Nat.zero_le _)⟩ ?_
  clear H
  rintro c _ v8 ⟨uf1, rfl, H, r1⟩
  rcases (show c = 0 ∨ c = 1 ∨ c = 2 ∨ c = 3 ∨ c = 4 ∨ c = 5 ∨ c = 6 by omega) with rfl | rfl | rfl | rfl | rfl | rfl | rfl
  · skip
    replace H : Hs [] w0 _ [.blk nq2 #[.pointer (some ⟨g1, 68, none⟩), .pointer (some ⟨g1, 69, none⟩), .pointer (some ⟨g1, 70, none⟩), .pointer (some ⟨g1, 71, none⟩), .pointer (some ⟨g1, 73, none⟩), .pointer (some ⟨g1, 74, none⟩)] 61, .blk nq1 #[.pointer (some ⟨g3, 68, none⟩), .pointer (some ⟨g3, 69, none⟩), .pointer (some ⟨g3, 70, none⟩), .pointer (some ⟨g3, 71, none⟩), .pointer (some ⟨g3, 73, none⟩), .pointer (some ⟨g3, 74, none⟩)] 61, .blk g3 (stepA ⟨8, 0, (fun _ => 0), 0, 2, 0, 0, 0, 0, 0, 0, 0⟩) 41, .blk g2 (stepA ⟨0, 0, (fun _ => 0), 0, 0, 0, 0, 0, 0, 0, 0, 0⟩) 41, .blk g1 (stepA ⟨8, sl, sd, sm, 2, rk, bk, ro, co, ch, bi, va⟩) 41] := hsAs H (by kernel_rfl)
    refine x_seq <| x_region <| x_b H [.m] <| x_nil <| x_then <| x_seq <| x_t (by kernel_rfl) ?_
    refine x_skipc <| x_then <| x_seq <| x_block <| x_seq <| x_region <| x_b H [.m, .m, .l 0 0, .m, .m] ?_
    refine x_nil <| x_then <| z_region_head H 8 ?_
    simp only [List.take_succ_cons, List.take_zero, List.drop_succ_cons, List.drop_zero]
    refine q_b [.m, .m, .m, .l 1 0, .m, .m, .l 4 68, .m] <| q_nil ?_
    clear H
    intro v9 H
    refine z_store H 2 68 [.int .i64 rk] (fun v10 H => ?_)
    refine x_nil <| x_blk <| x_then <| x_region <| x_b H [.m, .m] <| x_nil <| x_then ?_
    replace H := H.pk [0, 1, 2, 3, 4]
    replace H : Hs [] w0 _ [.blk nq2 #[.pointer (some ⟨g1, 68, none⟩), .pointer (some ⟨g1, 69, none⟩), .pointer (some ⟨g1, 70, none⟩), .pointer (some ⟨g1, 71, none⟩), .pointer (some ⟨g1, 73, none⟩), .pointer (some ⟨g1, 74, none⟩)] 61, .blk nq1 #[.pointer (some ⟨g3, 68, none⟩), .pointer (some ⟨g3, 69, none⟩), .pointer (some ⟨g3, 70, none⟩), .pointer (some ⟨g3, 71, none⟩), .pointer (some ⟨g3, 73, none⟩), .pointer (some ⟨g3, 74, none⟩)] 61, .blk g3 (stepA (([⟨8, 0, (fun _ => 0), 0, 2, 0, 0, 0, 0, 0, 0, 0⟩, ⟨8, 0, (fun _ => 0), 0, 2, rk, 0, 0, 0, 0, 0, 0⟩, ⟨8, 0, (fun _ => 0), 0, 2, rk, bk, 0, 0, 0, 0, 0⟩, ⟨8, 0, (fun _ => 0), 0, 2, rk, bk, ro, 0, 0, 0, 0⟩, ⟨8, 0, (fun _ => 0), 0, 2, rk, bk, ro, co, 0, 0, 0⟩, ⟨8, 0, (fun _ => 0), 0, 2, rk, bk, ro, co, 0, bi, 0⟩, ⟨8, 0, (fun _ => 0), 0, 2, rk, bk, ro, co, 0, bi, va⟩] : List Stp).getD 1 zeroS)) 41, .blk g2 (stepA ⟨0, 0, (fun _ => 0), 0, 0, 0, 0, 0, 0, 0, 0, 0⟩) 41, .blk g1 (stepA ⟨8, sl, sd, sm, 2, rk, bk, ro, co, ch, bi, va⟩) 41] := hsAs H (by kernel_rfl)
    exact ⟨1, (by omega), _, frm_of, H, (by omega)⟩
  · skip
    replace H : Hs [] w0 _ [.blk nq2 #[.pointer (some ⟨g1, 68, none⟩), .pointer (some ⟨g1, 69, none⟩), .pointer (some ⟨g1, 70, none⟩), .pointer (some ⟨g1, 71, none⟩), .pointer (some ⟨g1, 73, none⟩), .pointer (some ⟨g1, 74, none⟩)] 61, .blk nq1 #[.pointer (some ⟨g3, 68, none⟩), .pointer (some ⟨g3, 69, none⟩), .pointer (some ⟨g3, 70, none⟩), .pointer (some ⟨g3, 71, none⟩), .pointer (some ⟨g3, 73, none⟩), .pointer (some ⟨g3, 74, none⟩)] 61, .blk g3 (stepA ⟨8, 0, (fun _ => 0), 0, 2, rk, 0, 0, 0, 0, 0, 0⟩) 41, .blk g2 (stepA ⟨0, 0, (fun _ => 0), 0, 0, 0, 0, 0, 0, 0, 0, 0⟩) 41, .blk g1 (stepA ⟨8, sl, sd, sm, 2, rk, bk, ro, co, ch, bi, va⟩) 41] := hsAs H (by kernel_rfl)
    refine x_seq <| x_region <| x_b H [.m] <| x_nil <| x_then <| x_seq <| x_t (by kernel_rfl) ?_
    refine x_skipc <| x_then <| x_seq <| x_block <| x_seq <| x_region <| x_b H [.m, .m, .l 0 1, .m, .m] ?_
    refine x_nil <| x_then <| z_region_head H 8 ?_
    simp only [List.take_succ_cons, List.take_zero, List.drop_succ_cons, List.drop_zero]
    refine q_b [.m, .m, .m, .l 1 1, .m, .m, .l 4 69, .m] <| q_nil ?_
    clear H
    intro v11 H
    refine z_store H 2 69 [.int .i64 bk] (fun v12 H => ?_)
    refine x_nil <| x_blk <| x_then <| x_region <| x_b H [.m, .m] <| x_nil <| x_then ?_
    replace H := H.pk [0, 1, 2, 3, 4]
    replace H : Hs [] w0 _ [.blk nq2 #[.pointer (some ⟨g1, 68, none⟩), .pointer (some ⟨g1, 69, none⟩), .pointer (some ⟨g1, 70, none⟩), .pointer (some ⟨g1, 71, none⟩), .pointer (some ⟨g1, 73, none⟩), .pointer (some ⟨g1, 74, none⟩)] 61, .blk nq1 #[.pointer (some ⟨g3, 68, none⟩), .pointer (some ⟨g3, 69, none⟩), .pointer (some ⟨g3, 70, none⟩), .pointer (some ⟨g3, 71, none⟩), .pointer (some ⟨g3, 73, none⟩), .pointer (some ⟨g3, 74, none⟩)] 61, .blk g3 (stepA (([⟨8, 0, (fun _ => 0), 0, 2, 0, 0, 0, 0, 0, 0, 0⟩, ⟨8, 0, (fun _ => 0), 0, 2, rk, 0, 0, 0, 0, 0, 0⟩, ⟨8, 0, (fun _ => 0), 0, 2, rk, bk, 0, 0, 0, 0, 0⟩, ⟨8, 0, (fun _ => 0), 0, 2, rk, bk, ro, 0, 0, 0, 0⟩, ⟨8, 0, (fun _ => 0), 0, 2, rk, bk, ro, co, 0, 0, 0⟩, ⟨8, 0, (fun _ => 0), 0, 2, rk, bk, ro, co, 0, bi, 0⟩, ⟨8, 0, (fun _ => 0), 0, 2, rk, bk, ro, co, 0, bi, va⟩] : List Stp).getD 2 zeroS)) 41, .blk g2 (stepA ⟨0, 0, (fun _ => 0), 0, 0, 0, 0, 0, 0, 0, 0, 0⟩) 41, .blk g1 (stepA ⟨8, sl, sd, sm, 2, rk, bk, ro, co, ch, bi, va⟩) 41] := hsAs H (by kernel_rfl)
    exact ⟨2, (by omega), _, frm_of, H, (by omega)⟩
  · skip
    replace H : Hs [] w0 _ [.blk nq2 #[.pointer (some ⟨g1, 68, none⟩), .pointer (some ⟨g1, 69, none⟩), .pointer (some ⟨g1, 70, none⟩), .pointer (some ⟨g1, 71, none⟩), .pointer (some ⟨g1, 73, none⟩), .pointer (some ⟨g1, 74, none⟩)] 61, .blk nq1 #[.pointer (some ⟨g3, 68, none⟩), .pointer (some ⟨g3, 69, none⟩), .pointer (some ⟨g3, 70, none⟩), .pointer (some ⟨g3, 71, none⟩), .pointer (some ⟨g3, 73, none⟩), .pointer (some ⟨g3, 74, none⟩)] 61, .blk g3 (stepA ⟨8, 0, (fun _ => 0), 0, 2, rk, bk, 0, 0, 0, 0, 0⟩) 41, .blk g2 (stepA ⟨0, 0, (fun _ => 0), 0, 0, 0, 0, 0, 0, 0, 0, 0⟩) 41, .blk g1 (stepA ⟨8, sl, sd, sm, 2, rk, bk, ro, co, ch, bi, va⟩) 41] := hsAs H (by kernel_rfl)
    refine x_seq <| x_region <| x_b H [.m] <| x_nil <| x_then <| x_seq <| x_t (by kernel_rfl) ?_
    refine x_skipc <| x_then <| x_seq <| x_block <| x_seq <| x_region <| x_b H [.m, .m, .l 0 2, .m, .m] ?_
    refine x_nil <| x_then <| z_region_head H 8 ?_
    simp only [List.take_succ_cons, List.take_zero, List.drop_succ_cons, List.drop_zero]
    refine q_b [.m, .m, .m, .l 1 2, .m, .m, .l 4 70, .m] <| q_nil ?_
    clear H
    intro v13 H
    refine z_store H 2 70 [.int .i64 ro] (fun v14 H => ?_)
    refine x_nil <| x_blk <| x_then <| x_region <| x_b H [.m, .m] <| x_nil <| x_then ?_
    replace H := H.pk [0, 1, 2, 3, 4]
    replace H : Hs [] w0 _ [.blk nq2 #[.pointer (some ⟨g1, 68, none⟩), .pointer (some ⟨g1, 69, none⟩), .pointer (some ⟨g1, 70, none⟩), .pointer (some ⟨g1, 71, none⟩), .pointer (some ⟨g1, 73, none⟩), .pointer (some ⟨g1, 74, none⟩)] 61, .blk nq1 #[.pointer (some ⟨g3, 68, none⟩), .pointer (some ⟨g3, 69, none⟩), .pointer (some ⟨g3, 70, none⟩), .pointer (some ⟨g3, 71, none⟩), .pointer (some ⟨g3, 73, none⟩), .pointer (some ⟨g3, 74, none⟩)] 61, .blk g3 (stepA (([⟨8, 0, (fun _ => 0), 0, 2, 0, 0, 0, 0, 0, 0, 0⟩, ⟨8, 0, (fun _ => 0), 0, 2, rk, 0, 0, 0, 0, 0, 0⟩, ⟨8, 0, (fun _ => 0), 0, 2, rk, bk, 0, 0, 0, 0, 0⟩, ⟨8, 0, (fun _ => 0), 0, 2, rk, bk, ro, 0, 0, 0, 0⟩, ⟨8, 0, (fun _ => 0), 0, 2, rk, bk, ro, co, 0, 0, 0⟩, ⟨8, 0, (fun _ => 0), 0, 2, rk, bk, ro, co, 0, bi, 0⟩, ⟨8, 0, (fun _ => 0), 0, 2, rk, bk, ro, co, 0, bi, va⟩] : List Stp).getD 3 zeroS)) 41, .blk g2 (stepA ⟨0, 0, (fun _ => 0), 0, 0, 0, 0, 0, 0, 0, 0, 0⟩) 41, .blk g1 (stepA ⟨8, sl, sd, sm, 2, rk, bk, ro, co, ch, bi, va⟩) 41] := hsAs H (by kernel_rfl)
    exact ⟨3, (by omega), _, frm_of, H, (by omega)⟩
  · skip
    replace H : Hs [] w0 _ [.blk nq2 #[.pointer (some ⟨g1, 68, none⟩), .pointer (some ⟨g1, 69, none⟩), .pointer (some ⟨g1, 70, none⟩), .pointer (some ⟨g1, 71, none⟩), .pointer (some ⟨g1, 73, none⟩), .pointer (some ⟨g1, 74, none⟩)] 61, .blk nq1 #[.pointer (some ⟨g3, 68, none⟩), .pointer (some ⟨g3, 69, none⟩), .pointer (some ⟨g3, 70, none⟩), .pointer (some ⟨g3, 71, none⟩), .pointer (some ⟨g3, 73, none⟩), .pointer (some ⟨g3, 74, none⟩)] 61, .blk g3 (stepA ⟨8, 0, (fun _ => 0), 0, 2, rk, bk, ro, 0, 0, 0, 0⟩) 41, .blk g2 (stepA ⟨0, 0, (fun _ => 0), 0, 0, 0, 0, 0, 0, 0, 0, 0⟩) 41, .blk g1 (stepA ⟨8, sl, sd, sm, 2, rk, bk, ro, co, ch, bi, va⟩) 41] := hsAs H (by kernel_rfl)
    refine x_seq <| x_region <| x_b H [.m] <| x_nil <| x_then <| x_seq <| x_t (by kernel_rfl) ?_
    refine x_skipc <| x_then <| x_seq <| x_block <| x_seq <| x_region <| x_b H [.m, .m, .l 0 3, .m, .m] ?_
    refine x_nil <| x_then <| z_region_head H 8 ?_
    simp only [List.take_succ_cons, List.take_zero, List.drop_succ_cons, List.drop_zero]
    refine q_b [.m, .m, .m, .l 1 3, .m, .m, .l 4 71, .m] <| q_nil ?_
    clear H
    intro v15 H
    refine z_store H 2 71 [.int .i64 co] (fun v16 H => ?_)
    refine x_nil <| x_blk <| x_then <| x_region <| x_b H [.m, .m] <| x_nil <| x_then ?_
    replace H := H.pk [0, 1, 2, 3, 4]
    replace H : Hs [] w0 _ [.blk nq2 #[.pointer (some ⟨g1, 68, none⟩), .pointer (some ⟨g1, 69, none⟩), .pointer (some ⟨g1, 70, none⟩), .pointer (some ⟨g1, 71, none⟩), .pointer (some ⟨g1, 73, none⟩), .pointer (some ⟨g1, 74, none⟩)] 61, .blk nq1 #[.pointer (some ⟨g3, 68, none⟩), .pointer (some ⟨g3, 69, none⟩), .pointer (some ⟨g3, 70, none⟩), .pointer (some ⟨g3, 71, none⟩), .pointer (some ⟨g3, 73, none⟩), .pointer (some ⟨g3, 74, none⟩)] 61, .blk g3 (stepA (([⟨8, 0, (fun _ => 0), 0, 2, 0, 0, 0, 0, 0, 0, 0⟩, ⟨8, 0, (fun _ => 0), 0, 2, rk, 0, 0, 0, 0, 0, 0⟩, ⟨8, 0, (fun _ => 0), 0, 2, rk, bk, 0, 0, 0, 0, 0⟩, ⟨8, 0, (fun _ => 0), 0, 2, rk, bk, ro, 0, 0, 0, 0⟩, ⟨8, 0, (fun _ => 0), 0, 2, rk, bk, ro, co, 0, 0, 0⟩, ⟨8, 0, (fun _ => 0), 0, 2, rk, bk, ro, co, 0, bi, 0⟩, ⟨8, 0, (fun _ => 0), 0, 2, rk, bk, ro, co, 0, bi, va⟩] : List Stp).getD 4 zeroS)) 41, .blk g2 (stepA ⟨0, 0, (fun _ => 0), 0, 0, 0, 0, 0, 0, 0, 0, 0⟩) 41, .blk g1 (stepA ⟨8, sl, sd, sm, 2, rk, bk, ro, co, ch, bi, va⟩) 41] := hsAs H (by kernel_rfl)
    exact ⟨4, (by omega), _, frm_of, H, (by omega)⟩
  · skip
    replace H : Hs [] w0 _ [.blk nq2 #[.pointer (some ⟨g1, 68, none⟩), .pointer (some ⟨g1, 69, none⟩), .pointer (some ⟨g1, 70, none⟩), .pointer (some ⟨g1, 71, none⟩), .pointer (some ⟨g1, 73, none⟩), .pointer (some ⟨g1, 74, none⟩)] 61, .blk nq1 #[.pointer (some ⟨g3, 68, none⟩), .pointer (some ⟨g3, 69, none⟩), .pointer (some ⟨g3, 70, none⟩), .pointer (some ⟨g3, 71, none⟩), .pointer (some ⟨g3, 73, none⟩), .pointer (some ⟨g3, 74, none⟩)] 61, .blk g3 (stepA ⟨8, 0, (fun _ => 0), 0, 2, rk, bk, ro, co, 0, 0, 0⟩) 41, .blk g2 (stepA ⟨0, 0, (fun _ => 0), 0, 0, 0, 0, 0, 0, 0, 0, 0⟩) 41, .blk g1 (stepA ⟨8, sl, sd, sm, 2, rk, bk, ro, co, ch, bi, va⟩) 41] := hsAs H (by kernel_rfl)
    refine x_seq <| x_region <| x_b H [.m] <| x_nil <| x_then <| x_seq <| x_t (by kernel_rfl) ?_
    refine x_skipc <| x_then <| x_seq <| x_block <| x_seq <| x_region <| x_b H [.m, .m, .l 0 4, .m, .m] ?_
    refine x_nil <| x_then <| z_region_head H 8 ?_
    simp only [List.take_succ_cons, List.take_zero, List.drop_succ_cons, List.drop_zero]
    refine q_b [.m, .m, .m, .l 1 4, .m, .m, .l 4 73, .m] <| q_nil ?_
    clear H
    intro v17 H
    refine z_store H 2 73 [.int .i64 bi] (fun v18 H => ?_)
    refine x_nil <| x_blk <| x_then <| x_region <| x_b H [.m, .m] <| x_nil <| x_then ?_
    replace H := H.pk [0, 1, 2, 3, 4]
    replace H : Hs [] w0 _ [.blk nq2 #[.pointer (some ⟨g1, 68, none⟩), .pointer (some ⟨g1, 69, none⟩), .pointer (some ⟨g1, 70, none⟩), .pointer (some ⟨g1, 71, none⟩), .pointer (some ⟨g1, 73, none⟩), .pointer (some ⟨g1, 74, none⟩)] 61, .blk nq1 #[.pointer (some ⟨g3, 68, none⟩), .pointer (some ⟨g3, 69, none⟩), .pointer (some ⟨g3, 70, none⟩), .pointer (some ⟨g3, 71, none⟩), .pointer (some ⟨g3, 73, none⟩), .pointer (some ⟨g3, 74, none⟩)] 61, .blk g3 (stepA (([⟨8, 0, (fun _ => 0), 0, 2, 0, 0, 0, 0, 0, 0, 0⟩, ⟨8, 0, (fun _ => 0), 0, 2, rk, 0, 0, 0, 0, 0, 0⟩, ⟨8, 0, (fun _ => 0), 0, 2, rk, bk, 0, 0, 0, 0, 0⟩, ⟨8, 0, (fun _ => 0), 0, 2, rk, bk, ro, 0, 0, 0, 0⟩, ⟨8, 0, (fun _ => 0), 0, 2, rk, bk, ro, co, 0, 0, 0⟩, ⟨8, 0, (fun _ => 0), 0, 2, rk, bk, ro, co, 0, bi, 0⟩, ⟨8, 0, (fun _ => 0), 0, 2, rk, bk, ro, co, 0, bi, va⟩] : List Stp).getD 5 zeroS)) 41, .blk g2 (stepA ⟨0, 0, (fun _ => 0), 0, 0, 0, 0, 0, 0, 0, 0, 0⟩) 41, .blk g1 (stepA ⟨8, sl, sd, sm, 2, rk, bk, ro, co, ch, bi, va⟩) 41] := hsAs H (by kernel_rfl)
    exact ⟨5, (by omega), _, frm_of, H, (by omega)⟩
  · skip
    replace H : Hs [] w0 _ [.blk nq2 #[.pointer (some ⟨g1, 68, none⟩), .pointer (some ⟨g1, 69, none⟩), .pointer (some ⟨g1, 70, none⟩), .pointer (some ⟨g1, 71, none⟩), .pointer (some ⟨g1, 73, none⟩), .pointer (some ⟨g1, 74, none⟩)] 61, .blk nq1 #[.pointer (some ⟨g3, 68, none⟩), .pointer (some ⟨g3, 69, none⟩), .pointer (some ⟨g3, 70, none⟩), .pointer (some ⟨g3, 71, none⟩), .pointer (some ⟨g3, 73, none⟩), .pointer (some ⟨g3, 74, none⟩)] 61, .blk g3 (stepA ⟨8, 0, (fun _ => 0), 0, 2, rk, bk, ro, co, 0, bi, 0⟩) 41, .blk g2 (stepA ⟨0, 0, (fun _ => 0), 0, 0, 0, 0, 0, 0, 0, 0, 0⟩) 41, .blk g1 (stepA ⟨8, sl, sd, sm, 2, rk, bk, ro, co, ch, bi, va⟩) 41] := hsAs H (by kernel_rfl)
    refine x_seq <| x_region <| x_b H [.m] <| x_nil <| x_then <| x_seq <| x_t (by kernel_rfl) ?_
    refine x_skipc <| x_then <| x_seq <| x_block <| x_seq <| x_region <| x_b H [.m, .m, .l 0 5, .m, .m] ?_
    refine x_nil <| x_then <| z_region_head H 8 ?_
    simp only [List.take_succ_cons, List.take_zero, List.drop_succ_cons, List.drop_zero]
    refine q_b [.m, .m, .m, .l 1 5, .m, .m, .l 4 74, .m] <| q_nil ?_
    clear H
    intro v19 H
    refine z_store H 2 74 [.int .i64 va] (fun v20 H => ?_)
    refine x_nil <| x_blk <| x_then <| x_region <| x_b H [.m, .m] <| x_nil <| x_then ?_
    replace H := H.pk [0, 1, 2, 3, 4]
    replace H : Hs [] w0 _ [.blk nq2 #[.pointer (some ⟨g1, 68, none⟩), .pointer (some ⟨g1, 69, none⟩), .pointer (some ⟨g1, 70, none⟩), .pointer (some ⟨g1, 71, none⟩), .pointer (some ⟨g1, 73, none⟩), .pointer (some ⟨g1, 74, none⟩)] 61, .blk nq1 #[.pointer (some ⟨g3, 68, none⟩), .pointer (some ⟨g3, 69, none⟩), .pointer (some ⟨g3, 70, none⟩), .pointer (some ⟨g3, 71, none⟩), .pointer (some ⟨g3, 73, none⟩), .pointer (some ⟨g3, 74, none⟩)] 61, .blk g3 (stepA (([⟨8, 0, (fun _ => 0), 0, 2, 0, 0, 0, 0, 0, 0, 0⟩, ⟨8, 0, (fun _ => 0), 0, 2, rk, 0, 0, 0, 0, 0, 0⟩, ⟨8, 0, (fun _ => 0), 0, 2, rk, bk, 0, 0, 0, 0, 0⟩, ⟨8, 0, (fun _ => 0), 0, 2, rk, bk, ro, 0, 0, 0, 0⟩, ⟨8, 0, (fun _ => 0), 0, 2, rk, bk, ro, co, 0, 0, 0⟩, ⟨8, 0, (fun _ => 0), 0, 2, rk, bk, ro, co, 0, bi, 0⟩, ⟨8, 0, (fun _ => 0), 0, 2, rk, bk, ro, co, 0, bi, va⟩] : List Stp).getD 6 zeroS)) 41, .blk g2 (stepA ⟨0, 0, (fun _ => 0), 0, 0, 0, 0, 0, 0, 0, 0, 0⟩) 41, .blk g1 (stepA ⟨8, sl, sd, sm, 2, rk, bk, ro, co, ch, bi, va⟩) 41] := hsAs H (by kernel_rfl)
    exact ⟨6, (by omega), _, frm_of, H, (by omega)⟩
  · skip
    replace H : Hs [] w0 _ [.blk nq2 #[.pointer (some ⟨g1, 68, none⟩), .pointer (some ⟨g1, 69, none⟩), .pointer (some ⟨g1, 70, none⟩), .pointer (some ⟨g1, 71, none⟩), .pointer (some ⟨g1, 73, none⟩), .pointer (some ⟨g1, 74, none⟩)] 61, .blk nq1 #[.pointer (some ⟨g3, 68, none⟩), .pointer (some ⟨g3, 69, none⟩), .pointer (some ⟨g3, 70, none⟩), .pointer (some ⟨g3, 71, none⟩), .pointer (some ⟨g3, 73, none⟩), .pointer (some ⟨g3, 74, none⟩)] 61, .blk g3 (stepA ⟨8, 0, (fun _ => 0), 0, 2, rk, bk, ro, co, 0, bi, va⟩) 41, .blk g2 (stepA ⟨0, 0, (fun _ => 0), 0, 0, 0, 0, 0, 0, 0, 0, 0⟩) 41, .blk g1 (stepA ⟨8, sl, sd, sm, 2, rk, bk, ro, co, ch, bi, va⟩) 41] := hsAs H (by kernel_rfl)
    refine x_seq <| x_region <| x_b H [.m] <| x_nil <| x_then <| x_seq <| x_f (by kernel_rfl) ?_
    refine x_exit <| x_then_exit <| x_then_exit <| x_blk_exit <| x_blk <| x_then <| x_seq ?_
    refine x_region <| x_b H [.n 2 0 75 41] <| z_store H 3 0 ((stepA ⟨8, 0, (fun _ => 0), 0, 2, rk, bk, ro, co, 0, bi, va⟩)).toList (fun v21 H => ?_)
    refine x_nil <| x_then <| x_retc <| x_ret (.agg (stepA ⟨8, 0, (fun _ => 0), 0, 2, rk, bk, ro, co, 0, bi, va⟩)) (by kernel_rfl) (x_results [.cell 2 41] [.agg (stepA ⟨8, 0, (fun _ => 0), 0, 2, rk, bk, ro, co, 0, bi, va⟩)] _ rfl (AllR.cell (by kernel_rfl) (ldR H 3 g2 0 (stepA ⟨8, 0, (fun _ => 0), 0, 2, rk, bk, ro, co, 0, bi, va⟩) 41 (stepL ⟨8, 0, (fun _ => 0), 0, 2, rk, bk, ro, co, 0, bi, va⟩) (by kernel_rfl) (by kernel_rfl) (by kernel_rfl)) AllR.nil) (by kernel_rfl)) ?_
    exact ⟨rfl, H.below⟩
set_option maxRecDepth 100000 in
set_option maxHeartbeats 4000000 in
theorem bare_83 {sl rk bk ro co ch bi va : Int} {sd : Nat → Nat} {sm : Nat} (w0 : World) :
    Calls Tryd.prog 40 #[.agg (stepA ⟨8, sl, sd, sm, 3, rk, bk, ro, co, ch, bi, va⟩)] w0 fun e w' => e = .returned (.agg (stepA ⟨8, 0, (fun _ => 0), 0, 3, rk, bk, ro, 0, ch, 0, va⟩)) ∧ Below w0.heap.size w0 w' := by
  refine z_enter Tryd.func40 rfl ?_
  have H := Hs.nil w0
  refine x_seq <| x_region <| z_box H (stepA ⟨8, sl, sd, sm, 3, rk, bk, ro, co, ch, bi, va⟩) 41 (fun v1 g1 H => ?_)
  refine z_box H (stepA ⟨0, 0, (fun _ => 0), 0, 0, 0, 0, 0, 0, 0, 0, 0⟩) 41 (fun v2 g2 H => ?_)
  refine x_nil <| x_then <| x_seq <| x_region <| x_b H [.m, .l 1 0, .m] <| z_box H (stepA ⟨0, 0, (fun _ => 0), 0, 0, 0, 0, 0, 0, 0, 0, 0⟩) 41 (fun v3 g3 H => ?_)
  refine z_store H 0 0 ((stepA ⟨8, 0, (fun _ => 0), 0, 0, 0, 0, 0, 0, 0, 0, 0⟩)).toList (fun v4 H => ?_)
  refine x_nil <| x_then <| x_seq <| x_seq <| x_region <| x_b H [.m, .l 2 0] <| x_nil ?_
  refine x_then <| x_block <| x_seq <| x_region <| x_b H [.m, .m] <| x_nil <| x_then ?_
  refine x_f (by kernel_rfl) <| x_seq <| x_region <| x_b H [.m, .m] <| x_nil <| x_then <| x_f (by kernel_rfl) ?_
  refine x_seq <| x_region <| x_b H [.m, .m] <| x_nil <| x_then <| x_f (by kernel_rfl) <| x_seq ?_
  refine x_region <| x_b H [.m, .m] <| x_nil <| x_then <| x_t (by kernel_rfl) <| x_seq <| x_region ?_
  refine x_b H [.m, .m, .l 2 67, .m, .m] <| z_store H 0 67 [.int .i64 3] (fun v5 H => ?_)
  refine x_nil <| x_then <| x_seq <| x_region <| x_b H [.m] <| z_call (numbers_3 (g := g3) (sk := 8) (sl := 0) (sd := (fun _ => 0)) (sm := 0) (rk := 0) (bk := 0) (ro := 0) (co := 0) (ch := 0) (bi := 0) (va := 0) _ (roAs (H.ro1 [0]) (by kernel_rfl))) ?_
  rintro _ v6 ⟨nq1, rfl, hN'⟩
  refine ⟨_, rfl, ?_⟩
  replace H := H.more hN'
  clear hN'
  refine x_b H [.m] <| x_nil <| x_then <| x_seq <| x_region <| x_b H [.m] <| z_call (numbers_3 (g := g1) (sk := 8) (sl := sl) (sd := sd) (sm := sm) (rk := rk) (bk := bk) (ro := ro) (co := co) (ch := ch) (bi := bi) (va := va) _ (roAs (H.ro1 [3]) (by kernel_rfl))) ?_
  rintro _ v7 ⟨nq2, rfl, hN'⟩
  refine ⟨_, rfl, ?_⟩
  replace H := H.more hN'
  clear hN'
  refine x_b H [.m, .m] <| x_nil <| x_then <| x_block <| x_loop (G := Nat) (fun (c : Nat) a w' => ∃ uf1 : Nat → Value, a = frm 63 uf1 [(2, .pointer (some ⟨g2, 0, none⟩)), (3, .pointer (some ⟨g3, 0, none⟩)), (4, .slice (some ⟨nq1, 0, none⟩) 5 5), (46, .slice (some ⟨nq2, 0, none⟩) 5 5), (47, .int .i64 5), (48, .int .i64 (c : Int))] [] ∧ Hs [] w0 w' [.blk nq2 #[.pointer (some ⟨g1, 68, none⟩), .pointer (some ⟨g1, 69, none⟩), .pointer (some ⟨g1, 70, none⟩), .pointer (some ⟨g1, 72, none⟩), .pointer (some ⟨g1, 74, none⟩)] 61, .blk nq1 #[.pointer (some ⟨g3, 68, none⟩), .pointer (some ⟨g3, 69, none⟩), .pointer (some ⟨g3, 70, none⟩), .pointer (some ⟨g3, 72, none⟩), .pointer (some ⟨g3, 74, none⟩)] 61, .blk g3 (stepA (([⟨8, 0, (fun _ => 0), 0, 3, 0, 0, 0, 0, 0, 0, 0⟩, ⟨8, 0, (fun _ => 0), 0, 3, rk, 0, 0, 0, 0, 0, 0⟩, ⟨8, 0, (fun _ => 0), 0, 3, rk, bk, 0, 0, 0, 0, 0⟩, ⟨8, 0, (fun _ => 0), 0, 3, rk, bk, ro, 0, 0, 0, 0⟩, ⟨8, 0, (fun _ => 0), 0, 3, rk, bk, ro, 0, ch, 0, 0⟩, ⟨8, 0, (fun _ => 0), 0, 3, rk, bk, ro, 0, ch, 0, va⟩] : List Stp).getD c zeroS)) 41, .blk g2 (stepA ⟨0, 0, (fun _ => 0), 0, 0, 0, 0, 0, 0, 0, 0, 0⟩) 41, .blk g1 (stepA ⟨8, sl, sd, sm, 3, rk, bk, ro, co, ch, bi, va⟩) 41] ∧ (c ≤ 5)) (fun (c : Nat) => 5 - c) 0 ⟨_, frm_of, H, (Nat.zero_le _)⟩ ?_
  clear H
  rintro c _ v8 ⟨uf1, rfl, H, r1⟩
  rcases (show c = 0 ∨ c = 1 ∨ c = 2 ∨ c = 3 ∨ c = 4 ∨ c = 5 by omega) with rfl | rfl | rfl | rfl | rfl | rfl
  · skip
    replace H : Hs [] w0 _ [.blk nq2 #[.pointer (some ⟨g1, 68, none⟩), .pointer (some ⟨g1, 69, none⟩), .pointer (some ⟨g1, 70, none⟩), .pointer (some ⟨g1, 72, none⟩), .pointer (some ⟨g1, 74, none⟩)] 61, .blk nq1 #[.pointer (some ⟨g3, 68, none⟩), .pointer (some ⟨g3, 69, none⟩), .pointer (some ⟨g3, 70, none⟩), .pointer (some ⟨g3, 72, none⟩), .pointer (some ⟨g3, 74, none⟩)] 61, .blk g3 (stepA ⟨8, 0, (fun _ => 0), 0, 3, 0, 0, 0, 0, 0, 0, 0⟩) 41, .blk g2 (stepA ⟨0, 0, (fun _ => 0), 0, 0, 0, 0, 0, 0, 0, 0, 0⟩) 41, .blk g1 (stepA ⟨8, sl, sd, sm, 3, rk, bk, ro, co, ch, bi, va⟩) 41] := hsAs H (by kernel_rfl)
    refine x_seq <| x_region <| x_b H [.m] <| x_nil <| x_then <| x_seq <| x_t (by kernel_rfl) ?_
    refine x_skipc <| x_then <| x_seq <| x_block <| x_seq <| x_region <| x_b H [.m, .m, .l 0 0, .m, .m] ?_
    refine x_nil <| x_then <| z_region_head H 8 ?_
    simp only [List.take_succ_cons, List.take_zero, List.drop_succ_cons, List.drop_zero]
    refine q_b [.m, .m, .m, .l 1 0, .m, .m, .l 4 68, .m] <| q_nil ?_
    clear H
    intro v9 H
    refine z_store H 2 68 [.int .i64 rk] (fun v10 H => ?_)
    refine x_nil <| x_blk <| x_then <| x_region <| x_b H [.m, .m] <| x_nil <| x_then ?_
    replace H := H.pk [0, 1, 2, 3, 4]
    replace H : Hs [] w0 _ [.blk nq2 #[.pointer (some ⟨g1, 68, none⟩), .pointer (some ⟨g1, 69, none⟩), .pointer (some ⟨g1, 70, none⟩), .pointer (some ⟨g1, 72, none⟩), .pointer (some ⟨g1, 74, none⟩)] 61, .blk nq1 #[.pointer (some ⟨g3, 68, none⟩), .pointer (some ⟨g3, 69, none⟩), .pointer (some ⟨g3, 70, none⟩), .pointer (some ⟨g3, 72, none⟩), .pointer (some ⟨g3, 74, none⟩)] 61, .blk g3 (stepA (([⟨8, 0, (fun _ => 0), 0, 3, 0, 0, 0, 0, 0, 0, 0⟩, ⟨8, 0, (fun _ => 0), 0, 3, rk, 0, 0, 0, 0, 0, 0⟩, ⟨8, 0, (fun _ => 0), 0, 3, rk, bk, 0, 0, 0, 0, 0⟩, ⟨8, 0, (fun _ => 0), 0, 3, rk, bk, ro, 0, 0, 0, 0⟩, ⟨8, 0, (fun _ => 0), 0, 3, rk, bk, ro, 0, ch, 0, 0⟩, ⟨8, 0, (fun _ => 0), 0, 3, rk, bk, ro, 0, ch, 0, va⟩] : List Stp).getD 1 zeroS)) 41, .blk g2 (stepA ⟨0, 0, (fun _ => 0), 0, 0, 0, 0, 0, 0, 0, 0, 0⟩) 41, .blk g1 (stepA ⟨8, sl, sd, sm, 3, rk, bk, ro, co, ch, bi, va⟩) 41] := hsAs H (by kernel_rfl)
    exact ⟨1, (by omega), _, frm_of, H, (by omega)⟩
  · skip
    replace H : Hs [] w0 _ [.blk nq2 #[.pointer (some ⟨g1, 68, none⟩), .pointer (some ⟨g1, 69, none⟩), .pointer (some ⟨g1, 70, none⟩), .pointer (some ⟨g1, 72, none⟩), .pointer (some ⟨g1, 74, none⟩)] 61, .blk nq1 #[.pointer (some ⟨g3, 68, none⟩), .pointer (some ⟨g3, 69, none⟩), .pointer (some ⟨g3, 70, none⟩), .pointer (some ⟨g3, 72, none⟩), .pointer (some ⟨g3, 74, none⟩)] 61, .blk g3 (stepA ⟨8, 0, (fun _ => 0), 0, 3, rk, 0, 0, 0, 0, 0, 0⟩) 41, .blk g2 (stepA ⟨0, 0, (fun _ => 0), 0, 0, 0, 0, 0, 0, 0, 0, 0⟩) 41, .blk g1 (stepA ⟨8, sl, sd, sm, 3, rk, bk, ro, co, ch, bi, va⟩) 41] := hsAs H (by kernel_rfl)
    refine x_seq <| x_region <| x_b H [.m] <| x_nil <| x_then <| x_seq <| x_t (by kernel_rfl) ?_
    refine x_skipc <| x_then <| x_seq <| x_block <| x_seq <| x_region <| x_b H [.m, .m, .l 0 1, .m, .m] ?_
    refine x_nil <| x_then <| z_region_head H 8 ?_
    simp only [List.take_succ_cons, List.take_zero, List.drop_succ_cons, List.drop_zero]
    refine q_b [.m, .m, .m, .l 1 1, .m, .m, .l 4 69, .m] <| q_nil ?_
    clear H
    intro v11 H
    refine z_store H 2 69 [.int .i64 bk] (fun v12 H => ?_)
    refine x_nil <| x_blk <| x_then <| x_region <| x_b H [.m, .m] <| x_nil <| x_then ?_
    replace H := H.pk [0, 1, 2, 3, 4]
    replace H : Hs [] w0 _ [.blk nq2 #[.pointer (some ⟨g1, 68, none⟩), .pointer (some ⟨g1, 69, none⟩), .pointer (some ⟨g1, 70, none⟩), .pointer (some ⟨g1, 72, none⟩), .pointer (some ⟨g1, 74, none⟩)] 61, .blk nq1 #[.pointer (some ⟨g3, 68, none⟩), .pointer (some ⟨g3, 69, none⟩), .pointer (some ⟨g3, 70, none⟩), .pointer (some ⟨g3, 72, none⟩), .pointer (some ⟨g3, 74, none⟩)] 61, .blk g3 (stepA (([⟨8, 0, (fun _ => 0), 0, 3, 0, 0, 0, 0, 0, 0, 0⟩, ⟨8, 0, (fun _ => 0), 0, 3, rk, 0, 0, 0, 0, 0, 0⟩, ⟨8, 0, (fun _ => 0), 0, 3, rk, bk, 0, 0, 0, 0, 0⟩, ⟨8, 0, (fun _ => 0), 0, 3, rk, bk, ro, 0, 0, 0, 0⟩, ⟨8, 0, (fun _ => 0), 0, 3, rk, bk, ro, 0, ch, 0, 0⟩, ⟨8, 0, (fun _ => 0), 0, 3, rk, bk, ro, 0, ch, 0, va⟩] : List Stp).getD 2 zeroS)) 41, .blk g2 (stepA ⟨0, 0, (fun _ => 0), 0, 0, 0, 0, 0, 0, 0, 0, 0⟩) 41, .blk g1 (stepA ⟨8, sl, sd, sm, 3, rk, bk, ro, co, ch, bi, va⟩) 41] := hsAs H (by kernel_rfl)
    exact ⟨2, (by omega), _, frm_of, H, (by omega)⟩
  · skip
    replace H : Hs [] w0 _ [.blk nq2 #[.pointer (some ⟨g1, 68, none⟩), .pointer (some ⟨g1, 69, none⟩), .pointer (some ⟨g1, 70, none⟩), .pointer (some ⟨g1, 72, none⟩), .pointer (some ⟨g1, 74, none⟩)] 61, .blk nq1 #[.pointer (some ⟨g3, 68, none⟩), .pointer (some ⟨g3, 69, none⟩), .pointer (some ⟨g3, 70, none⟩), .pointer (some ⟨g3, 72, none⟩), .pointer (some ⟨g3, 74, none⟩)] 61, .blk g3 (stepA ⟨8, 0, (fun _ => 0), 0, 3, rk, bk, 0, 0, 0, 0, 0⟩) 41, .blk g2 (stepA ⟨0, 0, (fun _ => 0), 0, 0, 0, 0, 0, 0, 0, 0, 0⟩) 41, .blk g1 (stepA ⟨8, sl, sd, sm, 3, rk, bk, ro, co, ch, bi, va⟩) 41] := hsAs H (by kernel_rfl)
    refine x_seq <| x_region <| x_b H [.m] <| x_nil <| x_then <| x_seq <| x_t (by kernel_rfl) ?_
    refine x_skipc <| x_then <| x_seq <| x_block <| x_seq <| x_region <| x_b H [.m, .m, .l 0 2, .m, .m] ?_
    refine x_nil <| x_then <| z_region_head H 8 ?_
    simp only [List.take_succ_cons, List.take_zero, List.drop_succ_cons, List.drop_zero]
    refine q_b [.m, .m, .m, .l 1 2, .m, .m, .l 4 70, .m] <| q_nil ?_
    clear H
    intro v13 H
    refine z_store H 2 70 [.int .i64 ro] (fun v14 H => ?_)
    refine x_nil <| x_blk <| x_then <| x_region <| x_b H [.m, .m] <| x_nil <| x_then ?_
    replace H := H.pk [0, 1, 2, 3, 4]
    replace H : Hs [] w0 _ [.blk nq2 #[.pointer (some ⟨g1, 68, none⟩), .pointer (some ⟨g1, 69, none⟩), .pointer (some ⟨g1, 70, none⟩), .pointer (some ⟨g1, 72, none⟩), .pointer (some ⟨g1, 74, none⟩)] 61, .blk nq1 #[.pointer (some ⟨g3, 68, none⟩), .pointer (some ⟨g3, 69, none⟩), .pointer (some ⟨g3, 70, none⟩), .pointer (some ⟨g3, 72, none⟩), .pointer (some ⟨g3, 74, none⟩)] 61, .blk g3 (stepA (([⟨8, 0, (fun _ => 0), 0, 3, 0, 0, 0, 0, 0, 0, 0⟩, ⟨8, 0, (fun _ => 0), 0, 3, rk, 0, 0, 0, 0, 0, 0⟩, ⟨8, 0, (fun _ => 0), 0, 3, rk, bk, 0, 0, 0, 0, 0⟩, ⟨8, 0, (fun _ => 0), 0, 3, rk, bk, ro, 0, 0, 0, 0⟩, ⟨8, 0, (fun _ => 0), 0, 3, rk, bk, ro, 0, ch, 0, 0⟩, ⟨8, 0, (fun _ => 0), 0, 3, rk, bk, ro, 0, ch, 0, va⟩] : List Stp).getD 3 zeroS)) 41, .blk g2 (stepA ⟨0, 0, (fun _ => 0), 0, 0, 0, 0, 0, 0, 0, 0, 0⟩) 41, .blk g1 (stepA ⟨8, sl, sd, sm, 3, rk, bk, ro, co, ch, bi, va⟩) 41] := hsAs H (by kernel_rfl)
    exact ⟨3, (by omega), _, frm_of, H, (by omega)⟩
  · skip
    replace H : Hs [] w0 _ [.blk nq2 #[.pointer (some ⟨g1, 68, none⟩), .pointer (some ⟨g1, 69, none⟩), .pointer (some ⟨g1, 70, none⟩), .pointer (some ⟨g1, 72, none⟩), .pointer (some ⟨g1, 74, none⟩)] 61, .blk nq1 #[.pointer (some ⟨g3, 68, none⟩), .pointer (some ⟨g3, 69, none⟩), .pointer (some ⟨g3, 70, none⟩), .pointer (some ⟨g3, 72, none⟩), .pointer (some ⟨g3, 74, none⟩)] 61, .blk g3 (stepA ⟨8, 0, (fun _ => 0), 0, 3, rk, bk, ro, 0, 0, 0, 0⟩) 41, .blk g2 (stepA ⟨0, 0, (fun _ => 0), 0, 0, 0, 0, 0, 0, 0, 0, 0⟩) 41, .blk g1 (stepA ⟨8, sl, sd, sm, 3, rk, bk, ro, co, ch, bi, va⟩) 41] := hsAs H (by kernel_rfl)
    refine x_seq <| x_region <| x_b H [.m] <| x_nil <| x_then <| x_seq <| x_t (by kernel_rfl) ?_
    refine x_skipc <| x_then <| x_seq <| x_block <| x_seq <| x_region <| x_b H [.m, .m, .l 0 3, .m, .m] ?_
    refine x_nil <| x_then <| z_region_head H 8 ?_
    simp only [List.take_succ_cons, List.take_zero, List.drop_succ_cons, List.drop_zero]
    refine q_b [.m, .m, .m, .l 1 3, .m, .m, .l 4 72, .m] <| q_nil ?_
    clear H
    intro v15 H
    refine z_store H 2 72 [.int .i64 ch] (fun v16 H => ?_)
    refine x_nil <| x_blk <| x_then <| x_region <| x_b H [.m, .m] <| x_nil <| x_then ?_
    replace H := H.pk [0, 1, 2, 3, 4]
    replace H : Hs [] w0 _ [.blk nq2 #[.pointer (some ⟨g1, 68, none⟩), .pointer (some ⟨g1, 69, none⟩), .pointer (some ⟨g1, 70, none⟩), .pointer (some ⟨g1, 72, none⟩), .pointer (some ⟨g1, 74, none⟩)] 61, .blk nq1 #[.pointer (some ⟨g3, 68, none⟩), .pointer (some ⟨g3, 69, none⟩), .pointer (some ⟨g3, 70, none⟩), .pointer (some ⟨g3, 72, none⟩), .pointer (some ⟨g3, 74, none⟩)] 61, .blk g3 (stepA (([⟨8, 0, (fun _ => 0), 0, 3, 0, 0, 0, 0, 0, 0, 0⟩, ⟨8, 0, (fun _ => 0), 0, 3, rk, 0, 0, 0, 0, 0, 0⟩, ⟨8, 0, (fun _ => 0), 0, 3, rk, bk, 0, 0, 0, 0, 0⟩, ⟨8, 0, (fun _ => 0), 0, 3, rk, bk, ro, 0, 0, 0, 0⟩, ⟨8, 0, (fun _ => 0), 0, 3, rk, bk, ro, 0, ch, 0, 0⟩, ⟨8, 0, (fun _ => 0), 0, 3, rk, bk, ro, 0, ch, 0, va⟩] : List Stp).getD 4 zeroS)) 41, .blk g2 (stepA ⟨0, 0, (fun _ => 0), 0, 0, 0, 0, 0, 0, 0, 0, 0⟩) 41, .blk g1 (stepA ⟨8, sl, sd, sm, 3, rk, bk, ro, co, ch, bi, va⟩) 41] := hsAs H (by kernel_rfl)
    exact ⟨4, (by omega), _, frm_of, H, (by omega)⟩
  · skip
    replace H : Hs [] w0 _ [.blk nq2 #[.pointer (some ⟨g1, 68, none⟩), .pointer (some ⟨g1, 69, none⟩), .pointer (some ⟨g1, 70, none⟩), .pointer (some ⟨g1, 72, none⟩), .pointer (some ⟨g1, 74, none⟩)] 61, .blk nq1 #[.pointer (some ⟨g3, 68, none⟩), .pointer (some ⟨g3, 69, none⟩), .pointer (some ⟨g3, 70, none⟩), .pointer (some ⟨g3, 72, none⟩), .pointer (some ⟨g3, 74, none⟩)] 61, .blk g3 (stepA ⟨8, 0, (fun _ => 0), 0, 3, rk, bk, ro, 0, ch, 0, 0⟩) 41, .blk g2 (stepA ⟨0, 0, (fun _ => 0), 0, 0, 0, 0, 0, 0, 0, 0, 0⟩) 41, .blk g1 (stepA ⟨8, sl, sd, sm, 3, rk, bk, ro, co, ch, bi, va⟩) 41] := hsAs H (by kernel_rfl)
    refine x_seq <| x_region <| x_b H [.m] <| x_nil <| x_then <| x_seq <| x_t (by kernel_rfl) ?_
    refine x_skipc <| x_then <| x_seq <| x_block <| x_seq <| x_region <| x_b H [.m, .m, .l 0 4, .m, .m] ?_
    refine x_nil <| x_then <| z_region_head H 8 ?_
    simp only [List.take_succ_cons, List.take_zero, List.drop_succ_cons, List.drop_zero]
    refine q_b [.m, .m, .m, .l 1 4, .m, .m, .l 4 74, .m] <| q_nil ?_
    clear H
    intro v17 H
    refine z_store H 2 74 [.int .i64 va] (fun v18 H => ?_)
    refine x_nil <| x_blk <| x_then <| x_region <| x_b H [.m, .m] <| x_nil <| x_then ?_
    replace H := H.pk [0, 1, 2, 3, 4]
    replace H : Hs [] w0 _ [.blk nq2 #[.pointer (some ⟨g1, 68, none⟩), .pointer (some ⟨g1, 69, none⟩), .pointer (some ⟨g1, 70, none⟩), .pointer (some ⟨g1, 72, none⟩), .pointer (some ⟨g1, 74, none⟩)] 61, .blk nq1 #[.pointer (some ⟨g3, 68, none⟩), .pointer (some ⟨g3, 69, none⟩), .pointer (some ⟨g3, 70, none⟩), .pointer (some ⟨g3, 72, none⟩), .pointer (some ⟨g3, 74, none⟩)] 61, .blk g3 (stepA (([⟨8, 0, (fun _ => 0), 0, 3, 0, 0, 0, 0, 0, 0, 0⟩, ⟨8, 0, (fun _ => 0), 0, 3, rk, 0, 0, 0, 0, 0, 0⟩, ⟨8, 0, (fun _ => 0), 0, 3, rk, bk, 0, 0, 0, 0, 0⟩, ⟨8, 0, (fun _ => 0), 0, 3, rk, bk, ro, 0, 0, 0, 0⟩, ⟨8, 0, (fun _ => 0), 0, 3, rk, bk, ro, 0, ch, 0, 0⟩, ⟨8, 0, (fun _ => 0), 0, 3, rk, bk, ro, 0, ch, 0, va⟩] : List Stp).getD 5 zeroS)) 41, .blk g2 (stepA ⟨0, 0, (fun _ => 0), 0, 0, 0, 0, 0, 0, 0, 0, 0⟩) 41, .blk g1 (stepA ⟨8, sl, sd, sm, 3, rk, bk, ro, co, ch, bi, va⟩) 41] := hsAs H (by kernel_rfl)
    exact ⟨5, (by omega), _, frm_of, H, (by omega)⟩
  · skip
    replace H : Hs [] w0 _ [.blk nq2 #[.pointer (some ⟨g1, 68, none⟩), .pointer (some ⟨g1, 69, none⟩), .pointer (some ⟨g1, 70, none⟩), .pointer (some ⟨g1, 72, none⟩), .pointer (some ⟨g1, 74, none⟩)] 61, .blk nq1 #[.pointer (some ⟨g3, 68, none⟩), .pointer (some ⟨g3, 69, none⟩), .pointer (some ⟨g3, 70, none⟩), .pointer (some ⟨g3, 72, none⟩), .pointer (some ⟨g3, 74, none⟩)] 61, .blk g3 (stepA ⟨8, 0, (fun _ => 0), 0, 3, rk, bk, ro, 0, ch, 0, va⟩) 41, .blk g2 (stepA ⟨0, 0, (fun _ => 0), 0, 0, 0, 0, 0, 0, 0, 0, 0⟩) 41, .blk g1 (stepA ⟨8, sl, sd, sm, 3, rk, bk, ro, co, ch, bi, va⟩) 41] := hsAs H (by kernel_rfl)
    refine x_seq <| x_region <| x_b H [.m] <| x_nil <| x_then <| x_seq <| x_f (by kernel_rfl) ?_
    refine x_exit <| x_then_exit <| x_then_exit <| x_blk_exit <| x_blk <| x_then <| x_seq ?_
    refine x_region <| x_b H [.n 2 0 75 41] <| z_store H 3 0 ((stepA ⟨8, 0, (fun _ => 0), 0, 3, rk, bk, ro, 0, ch, 0, va⟩)).toList (fun v19 H => ?_)
    refine x_nil <| x_then <| x_retc <| x_ret (.agg (stepA ⟨8, 0, (fun _ => 0), 0, 3, rk, bk, ro, 0, ch, 0, va⟩)) (by kernel_rfl) (x_results [.cell 2 41] [.agg (stepA ⟨8, 0, (fun _ => 0), 0, 3, rk, bk, ro, 0, ch, 0, va⟩)] _ rfl (AllR.cell (by kernel_rfl) (ldR H 3 g2 0 (stepA ⟨8, 0, (fun _ => 0), 0, 3, rk, bk, ro, 0, ch, 0, va⟩) 41 (stepL ⟨8, 0, (fun _ => 0), 0, 3, rk, bk, ro, 0, ch, 0, va⟩) (by kernel_rfl) (by kernel_rfl) (by kernel_rfl)) AllR.nil) (by kernel_rfl)) ?_
    exact ⟨rfl, H.below⟩
set_option maxRecDepth 100000 in
set_option maxHeartbeats 4000000 in
theorem bare_84 {sl rk bk ro co ch bi va : Int} {sd : Nat → Nat} {sm : Nat} (w0 : World) :
    Calls Tryd.prog 40 #[.agg (stepA ⟨8, sl, sd, sm, 4, rk, bk, ro, co, ch, bi, va⟩)] w0 fun e w' => e = .returned (.agg (stepA ⟨8, 0, (fun _ => 0), 0, 4, rk, bk, 0, co, ch, 0, va⟩)) ∧ Below w0.heap.size w0 w' := by
  refine z_enter Tryd.func40 rfl ?_
  have H := Hs.nil w0
  refine x_seq <| x_region <| z_box H (stepA ⟨8, sl, sd, sm, 4, rk, bk, ro, co, ch, bi, va⟩) 41 (fun v1 g1 H => ?_)
  refine z_box H (stepA ⟨0, 0, (fun _ => 0), 0, 0, 0, 0, 0, 0, 0, 0, 0⟩) 41 (fun v2 g2 H => ?_)
  refine x_nil <| x_then <| x_seq <| x_region <| x_b H [.m, .l 1 0, .m] <| z_box H (stepA ⟨0, 0, (fun _ => 0), 0, 0, 0, 0, 0, 0, 0, 0, 0⟩) 41 (fun v3 g3 H => ?_)
  refine z_store H 0 0 ((stepA ⟨8, 0, (fun _ => 0), 0, 0, 0, 0, 0, 0, 0, 0, 0⟩)).toList (fun v4 H => ?_)
  refine x_nil <| x_then <| x_seq <| x_seq <| x_region <| x_b H [.m, .l 2 0] <| x_nil ?_
  refine x_then <| x_block <| x_seq <| x_region <| x_b H [.m, .m] <| x_nil <| x_then ?_
  refine x_f (by kernel_rfl) <| x_seq <| x_region <| x_b H [.m, .m] <| x_nil <| x_then <| x_f (by kernel_rfl) ?_
  refine x_seq <| x_region <| x_b H [.m, .m] <| x_nil <| x_then <| x_f (by kernel_rfl) <| x_seq ?_
  refine x_region <| x_b H [.m, .m] <| x_nil <| x_then <| x_t (by kernel_rfl) <| x_seq <| x_region ?_
  refine x_b H [.m, .m, .l 2 67, .m, .m] <| z_store H 0 67 [.int .i64 4] (fun v5 H => ?_)
  refine x_nil <| x_then <| x_seq <| x_region <| x_b H [.m] <| z_call (numbers_4 (g := g3) (sk := 8) (sl := 0) (sd := (fun _ => 0)) (sm := 0) (rk := 0) (bk := 0) (ro := 0) (co := 0) (ch := 0) (bi := 0) (va := 0) _ (roAs (H.ro1 [0]) (by kernel_rfl))) ?_
  rintro _ v6 ⟨nq1, rfl, hN'⟩
  refine ⟨_, rfl, ?_⟩
  replace H := H.more hN'
  clear hN'
  refine x_b H [.m] <| x_nil <| x_then <| x_seq <| x_region <| x_b H [.m] <| z_call (numbers_4 (g := g1) (sk := 8) (sl := sl) (sd := sd) (sm := sm) (rk := rk) (bk := bk) (ro := ro) (co := co) (ch := ch) (bi := bi) (va := va) _ (roAs (H.ro1 [3]) (by kernel_rfl))) ?_
  rintro _ v7 ⟨nq2, rfl, hN'⟩
  refine ⟨_, rfl, ?_⟩
  replace H := H.more hN'
  clear hN'
  refine x_b H [.m, .m] <| x_nil <| x_then <| x_block <| x_loop (G := Nat) (fun (c : Nat) a w' => ∃ uf1 : Nat → Value, a = frm 63 uf1 [(2, .pointer (some ⟨g2, 0, none⟩)), (3, .pointer (some ⟨g3, 0, none⟩)), (4, .slice (some ⟨nq1, 0, none⟩) 5 5), (46, .slice (some ⟨nq2, 0, none⟩) 5 5), (47, .int .i64 5), (48, .int .i64 (c : Int))] [] ∧ Hs [] w0 w' [.blk nq2 #[.pointer (some ⟨g1, 68, none⟩), .pointer (some ⟨g1, 69, none⟩), .pointer (some ⟨g1, 71, none⟩), .pointer (some ⟨g1, 72, none⟩), .pointer (some ⟨g1, 74, none⟩)] 61, .blk nq1 #[.pointer (some ⟨g3, 68, none⟩), .pointer (some ⟨g3, 69, none⟩), .pointer (some ⟨g3, 71, none⟩), .pointer (some ⟨g3, 72, none⟩), .pointer (some ⟨g3, 74, none⟩)] 61, .blk g3 (stepA (([⟨8, 0, (fun _ => 0), 0, 4, 0, 0, 0, 0, 0, 0, 0⟩, ⟨8, 0, (fun _ => 0), 0, 4, rk, 0, 0, 0, 0, 0, 0⟩, ⟨8, 0, (fun _ => 0), 0, 4, rk, bk, 0, 0, 0, 0, 0⟩, ⟨8, 0, (fun _ => 0), 0, 4, rk, bk, 0, co, 0, 0, 0⟩, ⟨8, 0, (fun _ => 0), 0, 4, rk, bk, 0, co, ch, 0, 0⟩, ⟨8, 0, (fun _ => 0), 0, 4, rk, bk, 0, co, ch, 0, va⟩] : List Stp).getD c zeroS)) 41, .blk g2 (stepA ⟨0, 0, (fun _ => 0), 0, 0, 0, 0, 0, 0, 0, 0, 0⟩) 41, .blk g1 (stepA ⟨8, sl, sd, sm, 4, rk, bk, ro, co, ch, bi, va⟩) 41] ∧ (c ≤ 5)) (fun (c : Nat) => 5 - c) 0 ⟨_, frm_of, H, (Nat.zero_le _)⟩ ?_
  clear H
  rintro c _ v8 ⟨uf1, rfl, H, r1⟩
  rcases (show c = 0 ∨ c = 1 ∨ c = 2 ∨ c = 3 ∨ c = 4 ∨ c = 5 by omega) with rfl | rfl | rfl | rfl | rfl | rfl
  · skip
    replace H : Hs [] w0 _ [.blk nq2 #[.pointer (some ⟨g1, 68, none⟩), .pointer (some ⟨g1, 69, none⟩), .pointer (some ⟨g1, 71, none⟩), .pointer (some ⟨g1, 72, none⟩), .pointer (some ⟨g1, 74, none⟩)] 61, .blk nq1 #[.pointer (some ⟨g3, 68, none⟩), .pointer (some ⟨g3, 69, none⟩), .pointer (some ⟨g3, 71, none⟩), .pointer (some ⟨g3, 72, none⟩), .pointer (some ⟨g3, 74, none⟩)] 61, .blk g3 (stepA ⟨8, 0, (fun _ => 0), 0, 4, 0, 0, 0, 0, 0, 0, 0⟩) 41, .blk g2 (stepA ⟨0, 0, (fun _ => 0), 0, 0, 0, 0, 0, 0, 0, 0, 0⟩) 41, .blk g1 (stepA ⟨8, sl, sd, sm, 4, rk, bk, ro, co, ch, bi, va⟩) 41] := hsAs H (by kernel_rfl)
    refine x_seq <| x_region <| x_b H [.m] <| x_nil <| x_then <| x_seq <| x_t (by kernel_rfl) ?_
    refine x_skipc <| x_then <| x_seq <| x_block <| x_seq <| x_region <| x_b H [.m, .m, .l 0 0, .m, .m] ?_
    refine x_nil <| x_then <| z_region_head H 8 ?_
    simp only [List.take_succ_cons, List.take_zero, List.drop_succ_cons, List.drop_zero]
    refine q_b [.m, .m, .m, .l 1 0, .m, .m, .l 4 68, .m] <| q_nil ?_
    clear H
    intro v9 H
    refine z_store H 2 68 [.int .i64 rk] (fun v10 H => ?_)
    refine x_nil <| x_blk <| x_then <| x_region <| x_b H [.m, .m] <| x_nil <| x_then ?_
    replace H := H.pk [0, 1, 2, 3, 4]
    replace H : Hs [] w0 _ [.blk nq2 #[.pointer (some ⟨g1, 68, none⟩), .pointer (some ⟨g1, 69, none⟩), .pointer (some ⟨g1, 71, none⟩), .pointer (some ⟨g1, 72, none⟩), .pointer (some ⟨g1, 74, none⟩)] 61, .blk nq1 #[.pointer (some ⟨g3, 68, none⟩), .pointer (some ⟨g3, 69, none⟩), .pointer (some ⟨g3, 71, none⟩), .pointer (some ⟨g3, 72, none⟩), .pointer (some ⟨g3, 74, none⟩)] 61, .blk g3 (stepA (([⟨8, 0, (fun _ => 0), 0, 4, 0, 0, 0, 0, 0, 0, 0⟩, ⟨8, 0, (fun _ => 0), 0, 4, rk, 0, 0, 0, 0, 0, 0⟩, ⟨8, 0, (fun _ => 0), 0, 4, rk, bk, 0, 0, 0, 0, 0⟩, ⟨8, 0, (fun _ => 0), 0, 4, rk, bk, 0, co, 0, 0, 0⟩, ⟨8, 0, (fun _ => 0), 0, 4, rk, bk, 0, co, ch, 0, 0⟩, ⟨8, 0, (fun _ => 0), 0, 4, rk, bk, 0, co, ch, 0, va⟩] : List Stp).getD 1 zeroS)) 41, .blk g2 (stepA ⟨0, 0, (fun _ => 0), 0, 0, 0, 0, 0, 0, 0, 0, 0⟩) 41, .blk g1 (stepA ⟨8, sl, sd, sm, 4, rk, bk, ro, co, ch, bi, va⟩) 41] := hsAs H (by kernel_rfl)
    exact ⟨1, (by omega), _, frm_of, H, (by omega)⟩
  · skip
    replace H : Hs [] w0 _ [.blk nq2 #[.pointer (some ⟨g1, 68, none⟩), .pointer (some ⟨g1, 69, none⟩), .pointer (some ⟨g1, 71, none⟩), .pointer (some ⟨g1, 72, none⟩), .pointer (some ⟨g1, 74, none⟩)] 61, .blk nq1 #[.pointer (some ⟨g3, 68, none⟩), .pointer (some ⟨g3, 69, none⟩), .pointer (some ⟨g3, 71, none⟩), .pointer (some ⟨g3, 72, none⟩), .pointer (some ⟨g3, 74, none⟩)] 61, .blk g3 (stepA ⟨8, 0, (fun _ => 0), 0, 4, rk, 0, 0, 0, 0, 0, 0⟩) 41, .blk g2 (stepA ⟨0, 0, (fun _ => 0), 0, 0, 0, 0, 0, 0, 0, 0, 0⟩) 41, .blk g1 (stepA ⟨8, sl, sd, sm, 4, rk, bk, ro, co, ch, bi, va⟩) 41] := hsAs H (by kernel_rfl)
    refine x_seq <| x_region <| x_b H [.m] <| x_nil <| x_then <| x_seq <| x_t (by kernel_rfl) ?_
    refine x_skipc <| x_then <| x_seq <| x_block <| x_seq <| x_region <| x_b H [.m, .m, .l 0 1, .m, .m] ?_
    refine x_nil <| x_then <| z_region_head H 8 ?_
    simp only [List.take_succ_cons, List.take_zero, List.drop_succ_cons, List.drop_zero]
    refine q_b [.m, .m, .m, .l 1 1, .m, .m, .l 4 69, .m] <| q_nil ?_
    clear H
    intro v11 H
    refine z_store H 2 69 [.int .i64 bk] (fun v12 H => ?_)
    refine x_nil <| x_blk <| x_then <| x_region <| x_b H [.m, .m] <| x_nil <| x_then ?_
    replace H := H.pk [0, 1, 2, 3, 4]
    replace H : Hs [] w0 _ [.blk nq2 #[.pointer (some ⟨g1, 68, none⟩), .pointer (some ⟨g1, 69, none⟩), .pointer (some ⟨g1, 71, none⟩), .pointer (some ⟨g1, 72, none⟩), .pointer (some ⟨g1, 74, none⟩)] 61, .blk nq1 #[.pointer (some ⟨g3, 68, none⟩), .pointer (some ⟨g3, 69, none⟩), .pointer (some ⟨g3, 71, none⟩), .pointer (some ⟨g3, 72, none⟩), .pointer (some ⟨g3, 74, none⟩)] 61, .blk g3 (stepA (([⟨8, 0, (fun _ => 0), 0, 4, 0, 0, 0, 0, 0, 0, 0⟩, ⟨8, 0, (fun _ => 0), 0, 4, rk, 0, 0, 0, 0, 0, 0⟩, ⟨8, 0, (fun _ => 0), 0, 4, rk, bk, 0, 0, 0, 0, 0⟩, ⟨8, 0, (fun _ => 0), 0, 4, rk, bk, 0, co, 0, 0, 0⟩, ⟨8, 0, (fun _ => 0), 0, 4, rk, bk, 0, co, ch, 0, 0⟩, ⟨8, 0, (fun _ => 0), 0, 4, rk, bk, 0, co, ch, 0, va⟩] : List Stp).getD 2 zeroS)) 41, .blk g2 (stepA ⟨0, 0, (fun _ => 0), 0, 0, 0, 0, 0, 0, 0, 0, 0⟩) 41, .blk g1 (stepA ⟨8, sl, sd, sm, 4, rk, bk, ro, co, ch, bi, va⟩) 41] := hsAs H (by kernel_rfl)
    exact ⟨2, (by omega), _, frm_of, H, (by omega)⟩
  · skip
    replace H : Hs [] w0 _ [.blk nq2 #[.pointer (some ⟨g1, 68, none⟩), .pointer (some ⟨g1, 69, none⟩), .pointer (some ⟨g1, 71, none⟩), .pointer (some ⟨g1, 72, none⟩), .pointer (some ⟨g1, 74, none⟩)] 61, .blk nq1 #[.pointer (some ⟨g3, 68, none⟩), .pointer (some ⟨g3, 69, none⟩), .pointer (some ⟨g3, 71, none⟩), .pointer (some ⟨g3, 72, none⟩), .pointer (some ⟨g3, 74, none⟩)] 61, .blk g3 (stepA ⟨8, 0, (fun _ => 0), 0, 4, rk, bk, 0, 0, 0, 0, 0⟩) 41, .blk g2 (stepA ⟨0, 0, (fun _ => 0), 0, 0, 0, 0, 0, 0, 0, 0, 0⟩) 41, .blk g1 (stepA ⟨8, sl, sd, sm, 4, rk, bk, ro, co, ch, bi, va⟩) 41] := hsAs H (by kernel_rfl)
    refine x_seq <| x_region <| x_b H [.m] <| x_nil <| x_then <| x_seq <| x_t (by kernel_rfl) ?_
    refine x_skipc <| x_then <| x_seq <| x_block <| x_seq <| x_region <| x_b H [.m, .m, .l 0 2, .m, .m] ?_
    refine x_nil <| x_then <| z_region_head H 8 ?_
    simp only [List.take_succ_cons, List.take_zero, List.drop_succ_cons, List.drop_zero]
    refine q_b [.m, .m, .m, .l 1 2, .m, .m, .l 4 71, .m] <| q_nil ?_
    clear H
    intro v13 H
    refine z_store H 2 71 [.int .i64 co] (fun v14 H => ?_)
    refine x_nil <| x_blk <| x_then <| x_region <| x_b H [.m, .m] <| x_nil <| x_then ?_
    replace H := H.pk [0, 1, 2, 3, 4]
    replace H : Hs [] w0 _ [.blk nq2 #[.pointer (some ⟨g1, 68, none⟩), .pointer (some ⟨g1, 69, none⟩), .pointer (some ⟨g1, 71, none⟩), .pointer (some ⟨g1, 72, none⟩), .pointer (some ⟨g1, 74, none⟩)] 61, .blk nq1 #[.pointer (some ⟨g3, 68, none⟩), .pointer (some ⟨g3, 69, none⟩), .pointer (some ⟨g3, 71, none⟩), .pointer (some ⟨g3, 72, none⟩), .pointer (some ⟨g3, 74, none⟩)] 61, .blk g3 (stepA (([⟨8, 0, (fun _ => 0), 0, 4, 0, 0, 0, 0, 0, 0, 0⟩, ⟨8, 0, (fun _ => 0), 0, 4, rk, 0, 0, 0, 0, 0, 0⟩, ⟨8, 0, (fun _ => 0), 0, 4, rk, bk, 0, 0, 0, 0, 0⟩, ⟨8, 0, (fun _ => 0), 0, 4, rk, bk, 0, co, 0, 0, 0⟩, ⟨8, 0, (fun _ => 0), 0, 4, rk, bk, 0, co, ch, 0, 0⟩, ⟨8, 0, (fun _ => 0), 0, 4, rk, bk, 0, co, ch, 0, va⟩] : List Stp).getD 3 zeroS)) 41, .blk g2 (stepA ⟨0, 0, (fun _ => 0), 0, 0, 0, 0, 0, 0, 0, 0, 0⟩) 41, .blk g1 (stepA ⟨8, sl, sd, sm, 4, rk, bk, ro, co, ch, bi, va⟩) 41] := hsAs H (by kernel_rfl)
    exact ⟨3, (by omega), _, frm_of, H, (by omega)⟩
  · skip
    replace H : Hs [] w0 _ [.blk nq2 #[.pointer (some ⟨g1, 68, none⟩), .pointer (some ⟨g1, 69, none⟩), .pointer (some ⟨g1, 71, none⟩), .pointer (some ⟨g1, 72, none⟩), .pointer (some ⟨g1, 74, none⟩)] 61, .blk nq1 #[.pointer (some ⟨g3, 68, none⟩), .pointer (some ⟨g3, 69, none⟩), .pointer (some ⟨g3, 71, none⟩), .pointer (some ⟨g3, 72, none⟩), .pointer (some ⟨g3, 74, none⟩)] 61, .blk g3 (stepA ⟨8, 0, (fun _ => 0), 0, 4, rk, bk, 0, co, 0, 0, 0⟩) 41, .blk g2 (stepA ⟨0, 0, (fun _ => 0), 0, 0, 0, 0, 0, 0, 0, 0, 0⟩) 41, .blk g1 (stepA ⟨8, sl, sd, sm, 4, rk, bk, ro, co, ch, bi, va⟩) 41] := hsAs H (by kernel_rfl)
    refine x_seq <| x_region <| x_b H [.m] <| x_nil <| x_then <| x_seq <| x_t (by kernel_rfl) ?_
    refine x_skipc <| x_then <| x_seq <| x_block <| x_seq <| x_region <| x_b H [.m, .m, .l 0 3, .m, .m] ?_
    refine x_nil <| x_then <| z_region_head H 8 ?_
    simp only [List.take_succ_cons, List.take_zero, List.drop_succ_cons, List.drop_zero]
    refine q_b [.m, .m, .m, .l 1 3, .m, .m, .l 4 72, .m] <| q_nil ?_
    clear H
    intro v15 H
    refine z_store H 2 72 [.int .i64 ch] (fun v16 H => ?_)
    refine x_nil <| x_blk <| x_then <| x_region <| x_b H [.m, .m] <| x_nil <| x_then ?_
    replace H := H.pk [0, 1, 2, 3, 4]
    replace H : Hs [] w0 _ [.blk nq2 #[.pointer (some ⟨g1, 68, none⟩), .pointer (some ⟨g1, 69, none⟩), .pointer (some ⟨g1, 71, none⟩), .pointer (some ⟨g1, 72, none⟩), .pointer (some ⟨g1, 74, none⟩)] 61, .blk nq1 #[.pointer (some ⟨g3, 68, none⟩), .pointer (some ⟨g3, 69, none⟩), .pointer (some ⟨g3, 71, none⟩), .pointer (some ⟨g3, 72, none⟩), .pointer (some ⟨g3, 74, none⟩)] 61, .blk g3 (stepA (([⟨8, 0, (fun _ => 0), 0, 4, 0, 0, 0, 0, 0, 0, 0⟩, ⟨8, 0, (fun _ => 0), 0, 4, rk, 0, 0, 0, 0, 0, 0⟩, ⟨8, 0, (fun _ => 0), 0, 4, rk, bk, 0, 0, 0, 0, 0⟩, ⟨8, 0, (fun _ => 0), 0, 4, rk, bk, 0, co, 0, 0, 0⟩, ⟨8, 0, (fun _ => 0), 0, 4, rk, bk, 0, co, ch, 0, 0⟩, ⟨8, 0, (fun _ => 0), 0, 4, rk, bk, 0, co, ch, 0, va⟩] : List Stp).getD 4 zeroS)) 41, .blk g2 (stepA ⟨0, 0, (fun _ => 0), 0, 0, 0, 0, 0, 0, 0, 0, 0⟩) 41, .blk g1 (stepA ⟨8, sl, sd, sm, 4, rk, bk, ro, co, ch, bi, va⟩) 41] := hsAs H (by kernel_rfl)
    exact ⟨4, (by omega), _, frm_of, H, (by omega)⟩
  · skip
    replace H : Hs [] w0 _ [.blk nq2 #[.pointer (some ⟨g1, 68, none⟩), .pointer (some ⟨g1, 69, none⟩), .pointer (some ⟨g1, 71, none⟩), .pointer (some ⟨g1, 72, none⟩), .pointer (some ⟨g1, 74, none⟩)] 61, .blk nq1 #[.pointer (some ⟨g3, 68, none⟩), .pointer (some ⟨g3, 69, none⟩), .pointer (some ⟨g3, 71, none⟩), .pointer (some ⟨g3, 72, none⟩), .pointer (some ⟨g3, 74, none⟩)] 61, .blk g3 (stepA ⟨8, 0, (fun _ => 0), 0, 4, rk, bk, 0, co, ch, 0, 0⟩) 41, .blk g2 (stepA ⟨0, 0, (fun _ => 0), 0, 0, 0, 0, 0, 0, 0, 0, 0⟩) 41, .blk g1 (stepA ⟨8, sl, sd, sm, 4, rk, bk, ro, co, ch, bi, va⟩) 41] := hsAs H (by kernel_rfl)
    refine x_seq <| x_region <| x_b H [.m] <| x_nil <| x_then <| x_seq <| x_t (by kernel_rfl) ?_
    refine x_skipc <| x_then <| x_seq <| x_block <| x_seq <| x_region <| x_b H [.m, .m, .l 0 4, .m, .m] ?_
    refine x_nil <| x_then <| z_region_head H 8 ?_
    simp only [List.take_succ_cons, List.take_zero, List.drop_succ_cons, List.drop_zero]
    refine q_b [.m, .m, .m, .l 1 4, .m, .m, .l 4 74, .m] <| q_nil ?_
    clear H
    intro v17 H
    refine z_store H 2 74 [.int .i64 va] (fun v18 H => ?_)
    refine x_nil <| x_blk <| x_then <| x_region <| x_b H [.m, .m] <| x_nil <| x_then ?_
    replace H := H.pk [0, 1, 2, 3, 4]
    replace H : Hs [] w0 _ [.blk nq2 #[.pointer (some ⟨g1, 68, none⟩), .pointer (some ⟨g1, 69, none⟩), .pointer (some ⟨g1, 71, none⟩), .pointer (some ⟨g1, 72, none⟩), .pointer (some ⟨g1, 74, none⟩)] 61, .blk nq1 #[.pointer (some ⟨g3, 68, none⟩), .pointer (some ⟨g3, 69, none⟩), .pointer (some ⟨g3, 71, none⟩), .pointer (some ⟨g3, 72, none⟩), .pointer (some ⟨g3, 74, none⟩)] 61, .blk g3 (stepA (([⟨8, 0, (fun _ => 0), 0, 4, 0, 0, 0, 0, 0, 0, 0⟩, ⟨8, 0, (fun _ => 0), 0, 4, rk, 0, 0, 0, 0, 0, 0⟩, ⟨8, 0, (fun _ => 0), 0, 4, rk, bk, 0, 0, 0, 0, 0⟩, ⟨8, 0, (fun _ => 0), 0, 4, rk, bk, 0, co, 0, 0, 0⟩, ⟨8, 0, (fun _ => 0), 0, 4, rk, bk, 0, co, ch, 0, 0⟩, ⟨8, 0, (fun _ => 0), 0, 4, rk, bk, 0, co, ch, 0, va⟩] : List Stp).getD 5 zeroS)) 41, .blk g2 (stepA ⟨0, 0, (fun _ => 0), 0, 0, 0, 0, 0, 0, 0, 0, 0⟩) 41, .blk g1 (stepA ⟨8, sl, sd, sm, 4, rk, bk, ro, co, ch, bi, va⟩) 41] := hsAs H (by kernel_rfl)
    exact ⟨5, (by omega), _, frm_of, H, (by omega)⟩
  · skip
    replace H : Hs [] w0 _ [.blk nq2 #[.pointer (some ⟨g1, 68, none⟩), .pointer (some ⟨g1, 69, none⟩), .pointer (some ⟨g1, 71, none⟩), .pointer (some ⟨g1, 72, none⟩), .pointer (some ⟨g1, 74, none⟩)] 61, .blk nq1 #[.pointer (some ⟨g3, 68, none⟩), .pointer (some ⟨g3, 69, none⟩), .pointer (some ⟨g3, 71, none⟩), .pointer (some ⟨g3, 72, none⟩), .pointer (some ⟨g3, 74, none⟩)] 61, .blk g3 (stepA ⟨8, 0, (fun _ => 0), 0, 4, rk, bk, 0, co, ch, 0, va⟩) 41, .blk g2 (stepA ⟨0, 0, (fun _ => 0), 0, 0, 0, 0, 0, 0, 0, 0, 0⟩) 41, .blk g1 (stepA ⟨8, sl, sd, sm, 4, rk, bk, ro, co, ch, bi, va⟩) 41] := hsAs H (by kernel_rfl)
    refine x_seq <| x_region <| x_b H [.m] <| x_nil <| x_then <| x_seq <| x_f (by kernel_rfl) ?_
    refine x_exit <| x_then_exit <| x_then_exit <| x_blk_exit <| x_blk <| x_then <| x_seq ?_
    refine x_region <| x_b H [.n 2 0 75 41] <| z_store H 3 0 ((stepA ⟨8, 0, (fun _ => 0), 0, 4, rk, bk, 0, co, ch, 0, va⟩)).toList (fun v19 H => ?_)
    refine x_nil <| x_then <| x_retc <| x_ret (.agg (stepA ⟨8, 0, (fun _ => 0), 0, 4, rk, bk, 0, co, ch, 0, va⟩)) (by kernel_rfl) (x_results [.cell 2 41] [.agg (stepA ⟨8, 0, (fun _ => 0), 0, 4, rk, bk, 0, co, ch, 0, va⟩)] _ rfl (AllR.cell (by kernel_rfl) (ldR H 3 g2 0 (stepA ⟨8, 0, (fun _ => 0), 0, 4, rk, bk, 0, co, ch, 0, va⟩) 41 (stepL ⟨8, 0, (fun _ => 0), 0, 4, rk, bk, 0, co, ch, 0, va⟩) (by kernel_rfl) (by kernel_rfl) (by kernel_rfl)) AllR.nil) (by kernel_rfl)) ?_
    exact ⟨rfl, H.below⟩
set_option maxRecDepth 100000 in
set_option maxHeartbeats 4000000 in
theorem bare_85 {sl rk bk ro co ch bi va : Int} {sd : Nat → Nat} {sm : Nat} (w0 : World) :
    Calls Tryd.prog 40 #[.agg (stepA ⟨8, sl, sd, sm, 5, rk, bk, ro, co, ch, bi, va⟩)] w0 fun e w' => e = .returned (.agg (stepA ⟨8, 0, (fun _ => 0), 0, 5, rk, 0, 0, 0, ch, 0, va⟩)) ∧ Below w0.heap.size w0 w' := by
  refine z_enter Tryd.func40 rfl ?_
  have H := Hs.nil w0
  refine x_seq <| x_region <| z_box H (stepA ⟨8, sl, sd, sm, 5, rk, bk, ro, co, ch, bi, va⟩) 41 (fun v1 g1 H => ?_)
  refine z_box H (stepA ⟨0, 0, (fun _ => 0), 0, 0, 0, 0, 0, 0, 0, 0, 0⟩) 41 (fun v2 g2 H => ?_)
  refine x_nil <| x_then <| x_seq <| x_region <| x_b H [.m, .l 1 0, .m] <| z_box H (stepA ⟨0, 0, (fun _ => 0), 0, 0, 0, 0, 0, 0, 0, 0, 0⟩) 41 (fun v3 g3 H => ?_)
  refine z_store H 0 0 ((stepA ⟨8, 0, (fun _ => 0), 0, 0, 0, 0, 0, 0, 0, 0, 0⟩)).toList (fun v4 H => ?_)
  refine x_nil <| x_then <| x_seq <| x_seq <| x_region <| x_b H [.m, .l 2 0] <| x_nil ?_
  refine x_then <| x_block <| x_seq <| x_region <| x_b H [.m, .m] <| x_nil <| x_then ?_
  refine x_f (by kernel_rfl) <| x_seq <| x_region <| x_b H [.m, .m] <| x_nil <| x_then <| x_f (by kernel_rfl) ?_
  refine x_seq <| x_region <| x_b H [.m, .m] <| x_nil <| x_then <| x_f (by kernel_rfl) <| x_seq ?_
  refine x_region <| x_b H [.m, .m] <| x_nil <| x_then <| x_t (by kernel_rfl) <| x_seq <| x_region ?_
  refine x_b H [.m, .m, .l 2 67, .m, .m] <| z_store H 0 67 [.int .i64 5] (fun v5 H => ?_)
  refine x_nil <| x_then <| x_seq <| x_region <| x_b H [.m] <| z_call (numbers_5 (g := g3) (sk := 8) (sl := 0) (sd := (fun _ => 0)) (sm := 0) (rk := 0) (bk := 0) (ro := 0) (co := 0) (ch := 0) (bi := 0) (va := 0) _ (roAs (H.ro1 [0]) (by kernel_rfl))) ?_
  rintro _ v6 ⟨nq1, rfl, hN'⟩
  refine ⟨_, rfl, ?_⟩
  replace H := H.more hN'
  clear hN'
  refine x_b H [.m] <| x_nil <| x_then <| x_seq <| x_region <| x_b H [.m] <| z_call (numbers_5 (g := g1) (sk := 8) (sl := sl) (sd := sd) (sm := sm) (rk := rk) (bk := bk) (ro := ro) (co := co) (ch := ch) (bi := bi) (va := va) _ (roAs (H.ro1 [3]) (by kernel_rfl))) ?_
  rintro _ v7 ⟨nq2, rfl, hN'⟩
  refine ⟨_, rfl, ?_⟩
  replace H := H.more hN'
  clear hN'
  refine x_b H [.m, .m] <| x_nil <| x_then <| x_block <| x_loop (G := Nat) (fun (c : Nat) a w' => ∃ uf1 : Nat → Value, a = frm 63 uf1 [(2, .pointer (some ⟨g2, 0, none⟩)), (3, .pointer (some ⟨g3, 0, none⟩)), (4, .slice (some ⟨nq1, 0, none⟩) 3 3), (46, .slice (some ⟨nq2, 0, none⟩) 3 3), (47, .int .i64 3), (48, .int .i64 (c : Int))] [] ∧ Hs [] w0 w' [.blk nq2 #[.pointer (some ⟨g1, 68, none⟩), .pointer (some ⟨g1, 72, none⟩), .pointer (some ⟨g1, 74, none⟩)] 61, .blk nq1 #[.pointer (some ⟨g3, 68, none⟩), .pointer (some ⟨g3, 72, none⟩), .pointer (some ⟨g3, 74, none⟩)] 61, .blk g3 (stepA (([⟨8, 0, (fun _ => 0), 0, 5, 0, 0, 0, 0, 0, 0, 0⟩, ⟨8, 0, (fun _ => 0), 0, 5, rk, 0, 0, 0, 0, 0, 0⟩, ⟨8, 0, (fun _ => 0), 0, 5, rk, 0, 0, 0, ch, 0, 0⟩, ⟨8, 0, (fun _ => 0), 0, 5, rk, 0, 0, 0, ch, 0, va⟩] : List Stp).getD c zeroS)) 41, .blk g2 (stepA ⟨0, 0, (fun _ => 0), 0, 0, 0, 0, 0, 0, 0, 0, 0⟩) 41, .blk g1 (stepA ⟨8, sl, sd, sm, 5, rk, bk, ro, co, ch, bi, va⟩) 41] ∧ (c ≤ 3)) (fun (c : Nat) => 3 - c) 0 ⟨_, frm_of, H, (Nat.zero_le _)⟩ ?_
  clear H
  rintro c _ v8 ⟨uf1, rfl, H, r1⟩
  rcases (show c = 0 ∨ c = 1 ∨ c = 2 ∨ c = 3 by omega) with rfl | rfl | rfl | rfl
  · skip
    replace H : Hs [] w0 _ [.blk nq2 #[.pointer (some ⟨g1, 68, none⟩), .pointer (some ⟨g1, 72, none⟩), .pointer (some ⟨g1, 74, none⟩)] 61, .blk nq1 #[.pointer (some ⟨g3, 68, none⟩), .pointer (some ⟨g3, 72, none⟩), .pointer (some ⟨g3, 74, none⟩)] 61, .blk g3 (stepA ⟨8, 0, (fun _ => 0), 0, 5, 0, 0, 0, 0, 0, 0, 0⟩) 41, .blk g2 (stepA ⟨0, 0, (fun _ => 0), 0, 0, 0, 0, 0, 0, 0, 0, 0⟩) 41, .blk g1 (stepA ⟨8, sl, sd, sm, 5, rk, bk, ro, co, ch, bi, va⟩) 41] := hsAs H (by kernel_rfl)
    refine x_seq <| x_region <| x_b H [.m] <| x_nil <| x_then <| x_seq <| x_t (by kernel_rfl) ?_
    refine x_skipc <| x_then <| x_seq <| x_block <| x_seq <| x_region <| x_b H [.m, .m, .l 0 0, .m, .m] ?_
    refine x_nil <| x_then <| z_region_head H 8 ?_
    simp only [List.take_succ_cons, List.take_zero, List.drop_succ_cons, List.drop_zero]
    refine q_b [.m, .m, .m, .l 1 0, .m, .m, .l 4 68, .m] <| q_nil ?_
    clear H
    intro v9 H
    refine z_store H 2 68 [.int .i64 rk] (fun v10 H => ?_)
    refine x_nil <| x_blk <| x_then <| x_region <| x_b H [.m, .m] <| x_nil <| x_then ?_
    replace H := H.pk [0, 1, 2, 3, 4]
    replace H : Hs [] w0 _ [.blk nq2 #[.pointer (some ⟨g1, 68, none⟩), .pointer (some ⟨g1, 72, none⟩), .pointer (some ⟨g1, 74, none⟩)] 61, .blk nq1 #[.pointer (some ⟨g3, 68, none⟩), .pointer (some ⟨g3, 72, none⟩), .pointer (some ⟨g3, 74, none⟩)] 61, .blk g3 (stepA (([⟨8, 0, (fun _ => 0), 0, 5, 0, 0, 0, 0, 0, 0, 0⟩, ⟨8, 0, (fun _ => 0), 0, 5, rk, 0, 0, 0, 0, 0, 0⟩, ⟨8, 0, (fun _ => 0), 0, 5, rk, 0, 0, 0, ch, 0, 0⟩, ⟨8, 0, (fun _ => 0), 0, 5, rk, 0, 0, 0, ch, 0, va⟩] : List Stp).getD 1 zeroS)) 41, .blk g2 (stepA ⟨0, 0, (fun _ => 0), 0, 0, 0, 0, 0, 0, 0, 0, 0⟩) 41, .blk g1 (stepA ⟨8, sl, sd, sm, 5, rk, bk, ro, co, ch, bi, va⟩) 41] := hsAs H (by kernel_rfl)
    exact ⟨1, (by omega), _, frm_of, H, (by omega)⟩
  · skip
    replace H : Hs [] w0 _ [.blk nq2 #[.pointer (some ⟨g1, 68, none⟩), .pointer (some ⟨g1, 72, none⟩), .pointer (some ⟨g1, 74, none⟩)] 61, .blk nq1 #[.pointer (some ⟨g3, 68, none⟩), .pointer (some ⟨g3, 72, none⟩), .pointer (some ⟨g3, 74, none⟩)] 61, .blk g3 (stepA ⟨8, 0, (fun _ => 0), 0, 5, rk, 0, 0, 0, 0, 0, 0⟩) 41, .blk g2 (stepA ⟨0, 0, (fun _ => 0), 0, 0, 0, 0, 0, 0, 0, 0, 0⟩) 41, .blk g1 (stepA ⟨8, sl, sd, sm, 5, rk, bk, ro, co, ch, bi, va⟩) 41] := hsAs H (by kernel_rfl)
    refine x_seq <| x_region <| x_b H [.m] <| x_nil <| x_then <| x_seq <| x_t (by kernel_rfl) ?_
    refine x_skipc <| x_then <| x_seq <| x_block <| x_seq <| x_region <| x_b H [.m, .m, .l 0 1, .m, .m] ?_
    refine x_nil <| x_then <| z_region_head H 8 ?_
    simp only [List.take_succ_cons, List.take_zero, List.drop_succ_cons, List.drop_zero]
    refine q_b [.m, .m, .m, .l 1 1, .m, .m, .l 4 72, .m] <| q_nil ?_
    clear H
    intro v11 H
    refine z_store H 2 72 [.int .i64 ch] (fun v12 H => ?_)
    refine x_nil <| x_blk <| x_then <| x_region <| x_b H [.m, .m] <| x_nil <| x_then ?_
    replace H := H.pk [0, 1, 2, 3, 4]
    replace H : Hs [] w0 _ [.blk nq2 #[.pointer (some ⟨g1, 68, none⟩), .pointer (some ⟨g1, 72, none⟩), .pointer (some ⟨g1, 74, none⟩)] 61, .blk nq1 #[.pointer (some ⟨g3, 68, none⟩), .pointer (some ⟨g3, 72, none⟩), .pointer (some ⟨g3, 74, none⟩)] 61, .blk g3 (stepA (([⟨8, 0, (fun _ => 0), 0, 5, 0, 0, 0, 0, 0, 0, 0⟩, ⟨8, 0, (fun _ => 0), 0, 5, rk, 0, 0, 0, 0, 0, 0⟩, ⟨8, 0, (fun _ => 0), 0, 5, rk, 0, 0, 0, ch, 0, 0⟩, ⟨8, 0, (fun _ => 0), 0, 5, rk, 0, 0, 0, ch, 0, va⟩] : List Stp).getD 2 zeroS)) 41, .blk g2 (stepA ⟨0, 0, (fun _ => 0), 0, 0, 0, 0, 0, 0, 0, 0, 0⟩) 41, .blk g1 (stepA ⟨8, sl, sd, sm, 5, rk, bk, ro, co, ch, bi, va⟩) 41] := hsAs H (by kernel_rfl)
    exact ⟨2, (by omega), _, frm_of, H, (by omega)⟩
  · skip
    replace H : Hs [] w0 _ [.blk nq2 #[.pointer (some ⟨g1, 68, none⟩), .pointer (some ⟨g1, 72, none⟩), .pointer (some ⟨g1, 74, none⟩)] 61, .blk nq1 #[.pointer (some ⟨g3, 68, none⟩), .pointer (some ⟨g3, 72, none⟩), .pointer (some ⟨g3, 74, none⟩)] 61, .blk g3 (stepA ⟨8, 0, (fun _ => 0), 0, 5, rk, 0, 0, 0, ch, 0, 0⟩) 41, .blk g2 (stepA ⟨0, 0, (fun _ => 0), 0, 0, 0, 0, 0, 0, 0, 0, 0⟩) 41, .blk g1 (stepA ⟨8, sl, sd, sm, 5, rk, bk, ro, co, ch, bi, va⟩) 41] := hsAs H (by kernel_rfl)
    refine x_seq <| x_region <| x_b H [.m] <| x_nil <| x_then <| x_seq <| x_t (by kernel_rfl) ?_
    refine x_skipc <| x_then <| x_seq <| x_block <| x_seq <| x_region <| x_b H [.m, .m, .l 0 2, .m, .m] ?_
    refine x_nil <| x_then <| z_region_head H 8 ?_
    simp only [List.take_succ_cons, List.take_zero, List.drop_succ_cons, List.drop_zero]
    refine q_b [.m, .m, .m, .l 1 2, .m, .m, .l 4 74, .m] <| q_nil ?_
    clear H
    intro v13 H
    refine z_store H 2 74 [.int .i64 va] (fun v14 H => ?_)
    refine x_nil <| x_blk <| x_then <| x_region <| x_b H [.m, .m] <| x_nil <| x_then ?_
    replace H := H.pk [0, 1, 2, 3, 4]
    replace H : Hs [] w0 _ [.blk nq2 #[.pointer (some ⟨g1, 68, none⟩), .pointer (some ⟨g1, 72, none⟩), .pointer (some ⟨g1, 74, none⟩)] 61, .blk nq1 #[.pointer (some ⟨g3, 68, none⟩), .pointer (some ⟨g3, 72, none⟩), .pointer (some ⟨g3, 74, none⟩)] 61, .blk g3 (stepA (([⟨8, 0, (fun _ => 0), 0, 5, 0, 0, 0, 0, 0, 0, 0⟩, ⟨8, 0, (fun _ => 0), 0, 5, rk, 0, 0, 0, 0, 0, 0⟩, ⟨8, 0, (fun _ => 0), 0, 5, rk, 0, 0, 0, ch, 0, 0⟩, ⟨8, 0, (fun _ => 0), 0, 5, rk, 0, 0, 0, ch, 0, va⟩] : List Stp).getD 3 zeroS)) 41, .blk g2 (stepA ⟨0, 0, (fun _ => 0), 0, 0, 0, 0, 0, 0, 0, 0, 0⟩) 41, .blk g1 (stepA ⟨8, sl, sd, sm, 5, rk, bk, ro, co, ch, bi, va⟩) 41] := hsAs H (by kernel_rfl)
    exact ⟨3, (by omega), _, frm_of, H, (by omega)⟩
  · skip
    replace H : Hs [] w0 _ [.blk nq2 #[.pointer (some ⟨g1, 68, none⟩), .pointer (some ⟨g1, 72, none⟩), .pointer (some ⟨g1, 74, none⟩)] 61, .blk nq1 #[.pointer (some ⟨g3, 68, none⟩), .pointer (some ⟨g3, 72, none⟩), .pointer (some ⟨g3, 74, none⟩)] 61, .blk g3 (stepA ⟨8, 0, (fun _ => 0), 0, 5, rk, 0, 0, 0, ch, 0, va⟩) 41, .blk g2 (stepA ⟨0, 0, (fun _ => 0), 0, 0, 0, 0, 0, 0, 0, 0, 0⟩) 41, .blk g1 (stepA ⟨8, sl, sd, sm, 5, rk, bk, ro, co, ch, bi, va⟩) 41] := hsAs H (by kernel_rfl)
    refine x_seq <| x_region <| x_b H [.m] <| x_nil <| x_then <| x_seq <| x_f (by kernel_rfl) ?_
    refine x_exit <| x_then_exit <| x_then_exit <| x_blk_exit <| x_blk <| x_then <| x_seq ?_
    refine x_region <| x_b H [.n 2 0 75 41] <| z_store H 3 0 ((stepA ⟨8, 0, (fun _ => 0), 0, 5, rk, 0, 0, 0, ch, 0, va⟩)).toList (fun v15 H => ?_)
    refine x_nil <| x_then <| x_retc <| x_ret (.agg (stepA ⟨8, 0, (fun _ => 0), 0, 5, rk, 0, 0, 0, ch, 0, va⟩)) (by kernel_rfl) (x_results [.cell 2 41] [.agg (stepA ⟨8, 0, (fun _ => 0), 0, 5, rk, 0, 0, 0, ch, 0, va⟩)] _ rfl (AllR.cell (by kernel_rfl) (ldR H 3 g2 0 (stepA ⟨8, 0, (fun _ => 0), 0, 5, rk, 0, 0, 0, ch, 0, va⟩) 41 (stepL ⟨8, 0, (fun _ => 0), 0, 5, rk, 0, 0, 0, ch, 0, va⟩) (by kernel_rfl) (by kernel_rfl) (by kernel_rfl)) AllR.nil) (by kernel_rfl)) ?_
    exact ⟨rfl, H.below⟩
set_option maxRecDepth 100000 in
set_option maxHeartbeats 4000000 in
theorem bare_86 {sl rk bk ro co ch bi va : Int} {sd : Nat → Nat} {sm : Nat} (w0 : World) :
    Calls Tryd.prog 40 #[.agg (stepA ⟨8, sl, sd, sm, 6, rk, bk, ro, co, ch, bi, va⟩)] w0 fun e w' => e = .returned (.agg (stepA ⟨8, 0, (fun _ => 0), 0, 6, rk, bk, ro, co, 0, 0, 0⟩)) ∧ Below w0.heap.size w0 w' := by
  refine z_enter Tryd.func40 rfl ?_
  have H := Hs.nil w0
  refine x_seq <| x_region <| z_box H (stepA ⟨8, sl, sd, sm, 6, rk, bk, ro, co, ch, bi, va⟩) 41 (fun v1 g1 H => ?_)
  refine z_box H (stepA ⟨0, 0, (fun _ => 0), 0, 0, 0, 0, 0, 0, 0, 0, 0⟩) 41 (fun v2 g2 H => ?_)
  refine x_nil <| x_then <| x_seq <| x_region <| x_b H [.m, .l 1 0, .m] <| z_box H (stepA ⟨0, 0, (fun _ => 0), 0, 0, 0, 0, 0, 0, 0, 0, 0⟩) 41 (fun v3 g3 H => ?_)
  refine z_store H 0 0 ((stepA ⟨8, 0, (fun _ => 0), 0, 0, 0, 0, 0, 0, 0, 0, 0⟩)).toList (fun v4 H => ?_)
  refine x_nil <| x_then <| x_seq <| x_seq <| x_region <| x_b H [.m, .l 2 0] <| x_nil ?_
  refine x_then <| x_block <| x_seq <| x_region <| x_b H [.m, .m] <| x_nil <| x_then ?_
  refine x_f (by kernel_rfl) <| x_seq <| x_region <| x_b H [.m, .m] <| x_nil <| x_then <| x_f (by kernel_rfl) ?_
  refine x_seq <| x_region <| x_b H [.m, .m] <| x_nil <| x_then <| x_f (by kernel_rfl) <| x_seq ?_
  refine x_region <| x_b H [.m, .m] <| x_nil <| x_then <| x_t (by kernel_rfl) <| x_seq <| x_region ?_
  refine x_b H [.m, .m, .l 2 67, .m, .m] <| z_store H 0 67 [.int .i64 6] (fun v5 H => ?_)
  refine x_nil <| x_then <| x_seq <| x_region <| x_b H [.m] <| z_call (numbers_6 (g := g3) (sk := 8) (sl := 0) (sd := (fun _ => 0)) (sm := 0) (rk := 0) (bk := 0) (ro := 0) (co := 0) (ch := 0) (bi := 0) (va := 0) _ (roAs (H.ro1 [0]) (by kernel_rfl))) ?_
  rintro _ v6 ⟨nq1, rfl, hN'⟩
  refine ⟨_, rfl, ?_⟩
  replace H := H.more hN'
  clear hN'
  refine x_b H [.m] <| x_nil <| x_then <| x_seq <| x_region <| x_b H [.m] <| z_call (numbers_6 (g := g1) (sk := 8) (sl := sl) (sd := sd) (sm := sm) (rk := rk) (bk := bk) (ro := ro) (co := co) (ch := ch) (bi := bi) (va := va) _ (roAs (H.ro1 [3]) (by kernel_rfl))) ?_
  rintro _ v7 ⟨nq2, rfl, hN'⟩
  refine ⟨_, rfl, ?_⟩
  replace H := H.more hN'
  clear hN'
  refine x_b H [.m, .m] <| x_nil <| x_then <| x_block <| x_loop (G := Nat) (fun (c : Nat) a w' => ∃ uf1 : Nat → Value, a = frm 63 uf1 [(2, .pointer (some ⟨g2, 0, none⟩)), (3, .pointer (some ⟨g3, 0, none⟩)), (4, .slice (some ⟨nq1, 0, none⟩) 4 4), (46, .slice (some ⟨nq2, 0, none⟩) 4 4), (47, .int .i64 4), (48, .int .i64 (c : Int))] [] ∧ Hs [] w0 w' [.blk nq2 #[.pointer (some ⟨g1, 68, none⟩), .pointer (some ⟨g1, 69, none⟩), .pointer (some ⟨g1, 70, none⟩), .pointer (some ⟨g1, 71, none⟩)] 61, .blk nq1 #[.pointer (some ⟨g3, 68, none⟩), .pointer (some ⟨g3, 69, none⟩), .pointer (some ⟨g3, 70, none⟩), .pointer (some ⟨g3, 71, none⟩)] 61, .blk g3 (stepA (([⟨8, 0, (fun _ => 0), 0, 6, 0, 0, 0, 0, 0, 0, 0⟩, ⟨8, 0, (fun _ => 0), 0, 6, rk, 0, 0, 0, 0, 0, 0⟩, ⟨8, 0, (fun _ => 0), 0, 6, rk, bk, 0, 0, 0, 0, 0⟩, ⟨8, 0, (fun _ => 0), 0, 6, rk, bk, ro, 0, 0, 0, 0⟩, ⟨8, 0, (fun _ => 0), 0, 6, rk, bk, ro, co, 0, 0, 0⟩] : List Stp).getD c zeroS)) 41, .blk g2 (stepA ⟨0, 0, (fun _ => 0), 0, 0, 0, 0, 0, 0, 0, 0, 0⟩) 41, .blk g1 (stepA ⟨8, sl, sd, sm, 6, rk, bk, ro, co, ch, bi, va⟩) 41] ∧ (c ≤ 4)) (fun (c : Nat) => 4 - c) 0 ⟨_, frm_of, H, (Nat.zero_le _)⟩ ?_
  clear H
  rintro c _ v8 ⟨uf1, rfl, H, r1⟩
  rcases (show c = 0 ∨ c = 1 ∨ c = 2 ∨ c = 3 ∨ c = 4 by omega) with rfl | rfl | rfl | rfl | rfl
  · skip
    replace H : Hs [] w0 _ [.blk nq2 #[.pointer (some ⟨g1, 68, none⟩), .pointer (some ⟨g1, 69, none⟩), .pointer (some ⟨g1, 70, none⟩), .pointer (some ⟨g1, 71, none⟩)] 61, .blk nq1 #[.pointer (some ⟨g3, 68, none⟩), .pointer (some ⟨g3, 69, none⟩), .pointer (some ⟨g3, 70, none⟩), .pointer (some ⟨g3, 71, none⟩)] 61, .blk g3 (stepA ⟨8, 0, (fun _ => 0), 0, 6, 0, 0, 0, 0, 0, 0, 0⟩) 41, .blk g2 (stepA ⟨0, 0, (fun _ => 0), 0, 0, 0, 0, 0, 0, 0, 0, 0⟩) 41, .blk g1 (stepA ⟨8, sl, sd, sm, 6, rk, bk, ro, co, ch, bi, va⟩) 41] := hsAs H (by kernel_rfl)
    refine x_seq <| x_region <| x_b H [.m] <| x_nil <| x_then <| x_seq <| x_t (by kernel_rfl) ?_
    refine x_skipc <| x_then <| x_seq <| x_block <| x_seq <| x_region <| x_b H [.m, .m, .l 0 0, .m, .m] ?_
    refine x_nil <| x_then <| z_region_head H 8 ?_
    simp only [List.take_succ_cons, List.take_zero, List.drop_succ_cons, List.drop_zero]
    refine q_b [.m, .m, .m, .l 1 0, .m, .m, .l 4 68, .m] <| q_nil ?_
    clear H
    intro v9 H
    refine z_store H 2 68 [.int .i64 rk] (fun v10 H => ?_)
    refine x_nil <| x_blk <| x_then <| x_region <| x_b H [.m, .m] <| x_nil <| x_then ?_
    replace H := H.pk [0, 1, 2, 3, 4]
    replace H : Hs [] w0 _ [.blk nq2 #[.pointer (some ⟨g1, 68, none⟩), .pointer (some ⟨g1, 69, none⟩), .pointer (some ⟨g1, 70, none⟩), .pointer (some ⟨g1, 71, none⟩)] 61, .blk nq1 #[.pointer (some ⟨g3, 68, none⟩), .pointer (some ⟨g3, 69, none⟩), .pointer (some ⟨g3, 70, none⟩), .pointer (some ⟨g3, 71, none⟩)] 61, .blk g3 (stepA (([⟨8, 0, (fun _ => 0), 0, 6, 0, 0, 0, 0, 0, 0, 0⟩, ⟨8, 0, (fun _ => 0), 0, 6, rk, 0, 0, 0, 0, 0, 0⟩, ⟨8, 0, (fun _ => 0), 0, 6, rk, bk, 0, 0, 0, 0, 0⟩, ⟨8, 0, (fun _ => 0), 0, 6, rk, bk, ro, 0, 0, 0, 0⟩, ⟨8, 0, (fun _ => 0), 0, 6, rk, bk, ro, co, 0, 0, 0⟩] : List Stp).getD 1 zeroS)) 41, .blk g2 (stepA ⟨0, 0, (fun _ => 0), 0, 0, 0, 0, 0, 0, 0, 0, 0⟩) 41, .blk g1 (stepA ⟨8, sl, sd, sm, 6, rk, bk, ro, co, ch, bi, va⟩) 41] := hsAs H (by kernel_rfl)
    exact ⟨1, (by omega), _, frm_of, H, (by omega)⟩
  · skip
    replace H : Hs [] w0 _ [.blk nq2 #[.pointer (some ⟨g1, 68, none⟩), .pointer (some ⟨g1, 69, none⟩), .pointer (some ⟨g1, 70, none⟩), .pointer (some ⟨g1, 71, none⟩)] 61, .blk nq1 #[.pointer (some ⟨g3, 68, none⟩), .pointer (some ⟨g3, 69, none⟩), .pointer (some ⟨g3, 70, none⟩), .pointer (some ⟨g3, 71, none⟩)] 61, .blk g3 (stepA ⟨8, 0, (fun _ => 0), 0, 6, rk, 0, 0, 0, 0, 0, 0⟩) 41, .blk g2 (stepA ⟨0, 0, (fun _ => 0), 0, 0, 0, 0, 0, 0, 0, 0, 0⟩) 41, .blk g1 (stepA ⟨8, sl, sd, sm, 6, rk, bk, ro, co, ch, bi, va⟩) 41] := hsAs H (by kernel_rfl)
    refine x_seq <| x_region <| x_b H [.m] <| x_nil <| x_then <| x_seq <| x_t (by kernel_rfl) ?_
    refine x_skipc <| x_then <| x_seq <| x_block <| x_seq <| x_region <| x_b H [.m, .m, .l 0 1, .m, .m] ?_
    refine x_nil <| x_then <| z_region_head H 8 ?_
    simp only [List.take_succ_cons, List.take_zero, List.drop_succ_cons, List.drop_zero]
    refine q_b [.m, .m, .m, .l 1 1, .m, .m, .l 4 69, .m] <| q_nil ?_
    clear H
    intro v11 H
    refine z_store H 2 69 [.int .i64 bk] (fun v12 H => ?_)
    refine x_nil <| x_blk <| x_then <| x_region <| x_b H [.m, .m] <| x_nil <| x_then ?_
    replace H := H.pk [0, 1, 2, 3, 4]
    replace H : Hs [] w0 _ [.blk nq2 #[.pointer (some ⟨g1, 68, none⟩), .pointer (some ⟨g1, 69, none⟩), .pointer (some ⟨g1, 70, none⟩), .pointer (some ⟨g1, 71, none⟩)] 61, .blk nq1 #[.pointer (some ⟨g3, 68, none⟩), .pointer (some ⟨g3, 69, none⟩), .pointer (some ⟨g3, 70, none⟩), .pointer (some ⟨g3, 71, none⟩)] 61, .blk g3 (stepA (([⟨8, 0, (fun _ => 0), 0, 6, 0, 0, 0, 0, 0, 0, 0⟩, ⟨8, 0, (fun _ => 0), 0, 6, rk, 0, 0, 0, 0, 0, 0⟩, ⟨8, 0, (fun _ => 0), 0, 6, rk, bk, 0, 0, 0, 0, 0⟩, ⟨8, 0, (fun _ => 0), 0, 6, rk, bk, ro, 0, 0, 0, 0⟩, ⟨8, 0, (fun _ => 0), 0, 6, rk, bk, ro, co, 0, 0, 0⟩] : List Stp).getD 2 zeroS)) 41, .blk g2 (stepA ⟨0, 0, (fun _ => 0), 0, 0, 0, 0, 0, 0, 0, 0, 0⟩) 41, .blk g1 (stepA ⟨8, sl, sd, sm, 6, rk, bk, ro, co, ch, bi, va⟩) 41] := hsAs H (by kernel_rfl)
    exact ⟨2, (by omega), _, frm_of, H, (by omega)⟩
  · skip
    replace H : Hs [] w0 _ [.blk nq2 #[.pointer (some ⟨g1, 68, none⟩), .pointer (some ⟨g1, 69, none⟩), .pointer (some ⟨g1, 70, none⟩), .pointer (some ⟨g1, 71, none⟩)] 61, .blk nq1 #[.pointer (some ⟨g3, 68, none⟩), .pointer (some ⟨g3, 69, none⟩), .pointer (some ⟨g3, 70, none⟩), .pointer (some ⟨g3, 71, none⟩)] 61, .blk g3 (stepA ⟨8, 0, (fun _ => 0), 0, 6, rk, bk, 0, 0, 0, 0, 0⟩) 41, .blk g2 (stepA ⟨0, 0, (fun _ => 0), 0, 0, 0, 0, 0, 0, 0, 0, 0⟩) 41, .blk g1 (stepA ⟨8, sl, sd, sm, 6, rk, bk, ro, co, ch, bi, va⟩) 41] := hsAs H (by kernel_rfl)
    refine x_seq <| x_region <| x_b H [.m] <| x_nil <| x_then <| x_seq <| x_t (by kernel_rfl) ?_
    refine x_skipc <| x_then <| x_seq <| x_block <| x_seq <| x_region <| x_b H [.m, .m, .l 0 2, .m, .m] ?_
    refine x_nil <| x_then <| z_region_head H 8 ?_
    simp only [List.take_succ_cons, List.take_zero, List.drop_succ_cons, List.drop_zero]
    refine q_b [.m, .m, .m, .l 1 2, .m, .m, .l 4 70, .m] <| q_nil ?_
    clear H
    intro v13 H
    refine z_store H 2 70 [.int .i64 ro] (fun v14 H => ?_)
    refine x_nil <| x_blk <| x_then <| x_region <| x_b H [.m, .m] <| x_nil <| x_then ?_
    replace H := H.pk [0, 1, 2, 3, 4]
    replace H : Hs [] w0 _ [.blk nq2 #[.pointer (some ⟨g1, 68, none⟩), .pointer (some ⟨g1, 69, none⟩), .pointer (some ⟨g1, 70, none⟩), .pointer (some ⟨g1, 71, none⟩)] 61, .blk nq1 #[.pointer (some ⟨g3, 68, none⟩), .pointer (some ⟨g3, 69, none⟩), .pointer (some ⟨g3, 70, none⟩), .pointer (some ⟨g3, 71, none⟩)] 61, .blk g3 (stepA (([⟨8, 0, (fun _ => 0), 0, 6, 0, 0, 0, 0, 0, 0, 0⟩, ⟨8, 0, (fun _ => 0), 0, 6, rk, 0, 0, 0, 0, 0, 0⟩, ⟨8, 0, (fun _ => 0), 0, 6, rk, bk, 0, 0, 0, 0, 0⟩, ⟨8, 0, (fun _ => 0), 0, 6, rk, bk, ro, 0, 0, 0, 0⟩, ⟨8, 0, (fun _ => 0), 0, 6, rk, bk, ro, co, 0, 0, 0⟩] : List Stp).getD 3 zeroS)) 41, .blk g2 (stepA ⟨0, 0, (fun _ => 0), 0, 0, 0, 0, 0, 0, 0, 0, 0⟩) 41, .blk g1 (stepA ⟨8, sl, sd, sm, 6, rk, bk, ro, co, ch, bi, va⟩) 41] := hsAs H (by kernel_rfl)
    exact ⟨3, (by omega), _, frm_of, H, (by omega)⟩
  · skip
    replace H : Hs [] w0 _ [.blk nq2 #[.pointer (some ⟨g1, 68, none⟩), .pointer (some ⟨g1, 69, none⟩), .pointer (some ⟨g1, 70, none⟩), .pointer (some ⟨g1, 71, none⟩)] 61, .blk nq1 #[.pointer (some ⟨g3, 68, none⟩), .pointer (some ⟨g3, 69, none⟩), .pointer (some ⟨g3, 70, none⟩), .pointer (some ⟨g3, 71, none⟩)] 61, .blk g3 (stepA ⟨8, 0, (fun _ => 0), 0, 6, rk, bk, ro, 0, 0, 0, 0⟩) 41, .blk g2 (stepA ⟨0, 0, (fun _ => 0), 0, 0, 0, 0, 0, 0, 0, 0, 0⟩) 41, .blk g1 (stepA ⟨8, sl, sd, sm, 6, rk, bk, ro, co, ch, bi, va⟩) 41] := hsAs H (by kernel_rfl)
    refine x_seq <| x_region <| x_b H [.m] <| x_nil <| x_then <| x_seq <| x_t (by kernel_rfl) ?_
    refine x_skipc <| x_then <| x_seq <| x_block <| x_seq <| x_region <| x_b H [.m, .m, .l 0 3, .m, .m] ?_
    refine x_nil <| x_then <| z_region_head H 8 ?_
    simp only [List.take_succ_cons, List.take_zero, List.drop_succ_cons, List.drop_zero]
    refine q_b [.m, .m, .m, .l 1 3, .m, .m, .l 4 71, .m] <| q_nil ?_
    clear H
    intro v15 H
    refine z_store H 2 71 [.int .i64 co] (fun v16 H => ?_)
    refine x_nil <| x_blk <| x_then <| x_region <| x_b H [.m, .m] <| x_nil <| x_then ?_
    replace H := H.pk [0, 1, 2, 3, 4]
    replace H : Hs [] w0 _ [.blk nq2 #[.pointer (some ⟨g1, 68, none⟩), .pointer (some ⟨g1, 69, none⟩), .pointer (some ⟨g1, 70, none⟩), .pointer (some ⟨g1, 71, none⟩)] 61, .blk nq1 #[.pointer (some ⟨g3, 68, none⟩), .pointer (some ⟨g3, 69, none⟩), .pointer (some ⟨g3, 70, none⟩), .pointer (some ⟨g3, 71, none⟩)] 61, .blk g3 (stepA (([⟨8, 0, (fun _ => 0), 0, 6, 0, 0, 0, 0, 0, 0, 0⟩, ⟨8, 0, (fun _ => 0), 0, 6, rk, 0, 0, 0, 0, 0, 0⟩, ⟨8, 0, (fun _ => 0), 0, 6, rk, bk, 0, 0, 0, 0, 0⟩, ⟨8, 0, (fun _ => 0), 0, 6, rk, bk, ro, 0, 0, 0, 0⟩, ⟨8, 0, (fun _ => 0), 0, 6, rk, bk, ro, co, 0, 0, 0⟩] : List Stp).getD 4 zeroS)) 41, .blk g2 (stepA ⟨0, 0, (fun _ => 0), 0, 0, 0, 0, 0, 0, 0, 0, 0⟩) 41, .blk g1 (stepA ⟨8, sl, sd, sm, 6, rk, bk, ro, co, ch, bi, va⟩) 41] := hsAs H (by kernel_rfl)
    exact ⟨4, (by omega), _, frm_of, H, (by omega)⟩
  · skip
    replace H : Hs [] w0 _ [.blk nq2 #[.pointer (some ⟨g1, 68, none⟩), .pointer (some ⟨g1, 69, none⟩), .pointer (some ⟨g1, 70, none⟩), .pointer (some ⟨g1, 71, none⟩)] 61, .blk nq1 #[.pointer (some ⟨g3, 68, none⟩), .pointer (some ⟨g3, 69, none⟩), .pointer (some ⟨g3, 70, none⟩), .pointer (some ⟨g3, 71, none⟩)] 61, .blk g3 (stepA ⟨8, 0, (fun _ => 0), 0, 6, rk, bk, ro, co, 0, 0, 0⟩) 41, .blk g2 (stepA ⟨0, 0, (fun _ => 0), 0, 0, 0, 0, 0, 0, 0, 0, 0⟩) 41, .blk g1 (stepA ⟨8, sl, sd, sm, 6, rk, bk, ro, co, ch, bi, va⟩) 41] := hsAs H (by kernel_rfl)
    refine x_seq <| x_region <| x_b H [.m] <| x_nil <| x_then <| x_seq <| x_f (by kernel_rfl) ?_
    refine x_exit <| x_then_exit <| x_then_exit <| x_blk_exit <| x_blk <| x_then <| x_seq ?_
    refine x_region <| x_b H [.n 2 0 75 41] <| z_store H 3 0 ((stepA ⟨8, 0, (fun _ => 0), 0, 6, rk, bk, ro, co, 0, 0, 0⟩)).toList (fun v17 H => ?_)
    refine x_nil <| x_then <| x_retc <| x_ret (.agg (stepA ⟨8, 0, (fun _ => 0), 0, 6, rk, bk, ro, co, 0, 0, 0⟩)) (by kernel_rfl) (x_results [.cell 2 41] [.agg (stepA ⟨8, 0, (fun _ => 0), 0, 6, rk, bk, ro, co, 0, 0, 0⟩)] _ rfl (AllR.cell (by kernel_rfl) (ldR H 3 g2 0 (stepA ⟨8, 0, (fun _ => 0), 0, 6, rk, bk, ro, co, 0, 0, 0⟩) 41 (stepL ⟨8, 0, (fun _ => 0), 0, 6, rk, bk, ro, co, 0, 0, 0⟩) (by kernel_rfl) (by kernel_rfl) (by kernel_rfl)) AllR.nil) (by kernel_rfl)) ?_
    exact ⟨rfl, H.below⟩
set_option maxRecDepth 100000 in
set_option maxHeartbeats 4000000 in
theorem bare_8o {sl fk rk bk ro co ch bi va : Int} {sd : Nat → Nat} {sm : Nat} (hf : fk < 1 ∨ 6 < fk) (w0 : World) :
    Calls Tryd.prog 40 #[.agg (stepA ⟨8, sl, sd, sm, fk, rk, bk, ro, co, ch, bi, va⟩)] w0 fun e w' => e = .returned (.agg (stepA ⟨8, 0, (fun _ => 0), 0, fk, 0, 0, 0, 0, 0, 0, 0⟩)) ∧ Below w0.heap.size w0 w' := by
  refine z_enter Tryd.func40 rfl ?_
  have H := Hs.nil w0
  refine x_seq <| x_region <| z_box H (stepA ⟨8, sl, sd, sm, fk, rk, bk, ro, co, ch, bi, va⟩) 41 (fun v1 g1 H => ?_)
  refine z_box H (stepA ⟨0, 0, (fun _ => 0), 0, 0, 0, 0, 0, 0, 0, 0, 0⟩) 41 (fun v2 g2 H => ?_)
  refine x_nil <| x_then <| x_seq <| x_region <| x_b H [.m, .l 1 0, .m] <| z_box H (stepA ⟨0, 0, (fun _ => 0), 0, 0, 0, 0, 0, 0, 0, 0, 0⟩) 41 (fun v3 g3 H => ?_)
  refine z_store H 0 0 ((stepA ⟨8, 0, (fun _ => 0), 0, 0, 0, 0, 0, 0, 0, 0, 0⟩)).toList (fun v4 H => ?_)
  refine x_nil <| x_then <| x_seq <| x_seq <| x_region <| x_b H [.m, .l 2 0] <| x_nil ?_
  refine x_then <| x_block <| x_seq <| x_region <| x_b H [.m, .m] <| x_nil <| x_then ?_
  refine x_f (by kernel_rfl) <| x_seq <| x_region <| x_b H [.m, .m] <| x_nil <| x_then <| x_f (by kernel_rfl) ?_
  refine x_seq <| x_region <| x_b H [.m, .m] <| x_nil <| x_then <| x_f (by kernel_rfl) <| x_seq ?_
  refine x_region <| x_b H [.m, .m] <| x_nil <| x_then <| x_t (by kernel_rfl) <| x_seq <| x_region ?_
  refine x_b H [.m, .m, .l 2 67, .m, .m] <| z_store H 0 67 [.int .i64 fk] (fun v5 H => ?_)
  refine x_nil <| x_then <| x_seq <| x_region <| x_b H [.m] <| z_callB (v := .slice none 0 0) H (numbers_o (g := g3) (sk := 8) (sl := 0) (sd := (fun _ => 0)) (sm := 0) (fk := fk) (rk := 0) (bk := 0) (ro := 0) (co := 0) (ch := 0) (bi := 0) (va := 0) (by omega) _ (roAs (H.ro1 [0]) (by kernel_rfl))) fun v6 H => x_b H [.m] ?_
  refine x_nil <| x_then <| x_seq <| x_region <| x_b H [.m] <| z_callB (v := .slice none 0 0) H (numbers_o (g := g1) (sk := 8) (sl := sl) (sd := sd) (sm := sm) (fk := fk) (rk := rk) (bk := bk) (ro := ro) (co := co) (ch := ch) (bi := bi) (va := va) (by omega) _ (roAs (H.ro1 [2]) (by kernel_rfl))) fun v7 H => x_b H [.m, .m] ?_
  refine x_nil <| x_then <| x_block <| x_loop (G := Unit) (fun (_ : Unit) a w' => ∃ uf1 : Nat → Value, a = frm 63 uf1 [(2, .pointer (some ⟨g2, 0, none⟩)), (3, .pointer (some ⟨g3, 0, none⟩)), (4, .slice none 0 0), (46, .slice none 0 0), (47, .int .i64 0), (48, .int .i64 0)] [] ∧ Hs [] w0 w' [.blk g3 (stepA ⟨8, 0, (fun _ => 0), 0, fk, 0, 0, 0, 0, 0, 0, 0⟩) 41, .blk g2 (stepA ⟨0, 0, (fun _ => 0), 0, 0, 0, 0, 0, 0, 0, 0, 0⟩) 41, .blk g1 (stepA ⟨8, sl, sd, sm, fk, rk, bk, ro, co, ch, bi, va⟩) 41]) (fun _ => 0) () ⟨_, frm_of, H⟩ ?_
  clear H
  rintro _ _ v8 ⟨uf1, rfl, H⟩
  refine x_seq <| x_region <| x_b H [.m] <| x_nil <| x_then <| x_seq <| x_f (by kernel_rfl) ?_
  refine x_exit <| x_then_exit <| x_then_exit <| x_blk_exit <| x_blk <| x_then <| x_seq ?_
  refine x_region <| x_b H [.n 0 0 75 41] <| z_store H 1 0 ((stepA ⟨8, 0, (fun _ => 0), 0, fk, 0, 0, 0, 0, 0, 0, 0⟩)).toList (fun v9 H => ?_)
  refine x_nil <| x_then <| x_retc <| x_ret (.agg (stepA ⟨8, 0, (fun _ => 0), 0, fk, 0, 0, 0, 0, 0, 0, 0⟩)) (by kernel_rfl) (x_results [.cell 2 41] [.agg (stepA ⟨8, 0, (fun _ => 0), 0, fk, 0, 0, 0, 0, 0, 0, 0⟩)] _ rfl (AllR.cell (by kernel_rfl) (ldR H 1 g2 0 (stepA ⟨8, 0, (fun _ => 0), 0, fk, 0, 0, 0, 0, 0, 0, 0⟩) 41 (stepL ⟨8, 0, (fun _ => 0), 0, fk, 0, 0, 0, 0, 0, 0, 0⟩) (by kernel_rfl) (by kernel_rfl) (by kernel_rfl)) AllR.nil) (by kernel_rfl)) ?_
  exact ⟨rfl, H.below⟩
theorem bare_of (x : Stp) (w : World) : Calls Tryd.prog 40 #[.agg (stepA x)] w fun e w' => e = .returned (.agg (stepA (bareS x))) ∧ Below w.heap.size w w' := by
  obtain ⟨sk, sl, sd, sm, fk, rk, bk, ro, co, ch, bi, va⟩ := x
  by_cases h1 : sk = 1
  · subst h1; exact bare_1 w
  by_cases h2 : sk = 2
  · subst h2; exact bare_2 w
  by_cases h3 : sk = 3
  · subst h3; exact bare_3 w
  by_cases h8 : sk = 8
  · subst h8
    by_cases f1 : fk = 1
    · subst f1; exact bare_81 w
    by_cases f2 : fk = 2
    · subst f2; exact bare_82 w
    by_cases f3 : fk = 3
    · subst f3; exact bare_83 w
    by_cases f4 : fk = 4
    · subst f4; exact bare_84 w
    by_cases f5 : fk = 5
    · subst f5; exact bare_85 w
    by_cases f6 : fk = 6
    · subst f6; exact bare_86 w
    have e : bareS ⟨8, sl, sd, sm, fk, rk, bk, ro, co, ch, bi, va⟩ = ⟨8, 0, fun _ => 0, 0, fk, 0, 0, 0, 0, 0, 0, 0⟩ := by
      unfold bareS bareF
      simp only [f1, f2, f3, f4, f5, f6, if_false]
      rfl
    rw [e]; exact bare_8o (by omega) w
  have e : bareS ⟨sk, sl, sd, sm, fk, rk, bk, ro, co, ch, bi, va⟩ = ⟨sk, 0, fun _ => 0, 0, 0, 0, 0, 0, 0, 0, 0, 0⟩ := by
    unfold bareS
    simp only [h1, h2, h3, h8, if_false]
  rw [e]; exact bare_o ⟨h1, h2, h3, h8⟩ w
set_option maxRecDepth 100000 in
set_option maxHeartbeats 4000000 in
theorem SRight_of (x : Stp) (w0 : World) :
    Calls Tryd.prog 18 #[.agg (stepA x)] w0 fun e w' => e = .returned (.bool (decide (RightS x))) ∧ Below w0.heap.size w0 w' := by
  refine z_enter Tryd.func18 rfl ?_
  have H := Hs.nil w0
  refine x_seq <| x_region <| z_box H (stepA x) 41 (fun v1 g1 H => ?_)
  refine x_b H [.m] <| x_nil <| x_then <| x_seq <| x_seq <| z_region_whole H <| q_b [.m, .l 0 0, .v (.bool (decide (x.k < 1))), .v (.bool (decide (x.k < 1)))] ?_
  cases h1 : decide (x.k < 1)
  · skip
    have h1p := of_decide_eq_false h1
    refine q_b [.m, .l 0 0, .v (.bool (decide (8 < x.k))), .v (.bool (decide (8 < x.k))), .v (.bool (decide (8 < x.k)))] ?_
    cases h2 : decide (8 < x.k)
    · skip
      have h2p := of_decide_eq_false h2
      refine q_b [.n 0 0 75 41, .n 0 0 75 41] <| q_callB (.agg (stepA (bareS x))) (by kernel_rfl) (fun _ => by kernel_rfl) (fun _ => (bare_of x _)) <| q_val (.bool (!(decide (SEQ x (bareS x))))) (by kernel_rfl) (fun _ => (run_neT (P := Tryd.prog) (t := 41) (x := .tmp 12) (y := .tmp 14) (xs := stepA x) (ys := stepA (bareS x)) (B := decide (SEQ x (bareS x))) (by kernel_rfl) (by kernel_rfl) (stepEq x (bareS x)))) <| q_b [.v (.bool (!(decide (SEQ x (bareS x)))))] <| q_nil ?_
      clear H
      intro v2 H
      refine x_then ?_
      cases h3 : decide (SEQ x (bareS x))
      · skip
        have h3p := of_decide_eq_false h3
        refine x_t (by kernel_rfl) <| x_seq <| x_region <| x_b H [.m] <| x_nil <| x_then <| x_retc ?_
        refine x_then_ret <| x_ret (.bool false) (by kernel_rfl) (by kernel_rfl) ?_
        have e : decide (RightS x) = (false) := by
          first | exact decide_eq_true ⟨by omega, by omega, h3p, fun hk => ⟨by omega, by omega⟩⟩ | exact decide_eq_false (fun hh => by obtain ⟨q1, q2, q3, q4⟩ := hh; first | omega | exact h3p q3 | (have q5 := q4 (by omega); omega)) | exact decide_eq_decide.2 ⟨fun hh => (by have q5 := hh.2.2.2 (by omega); omega), fun hh => ⟨by omega, by omega, h3p, fun _ => ⟨by omega, by omega⟩⟩⟩
        exact ⟨by rw [e], H.below⟩
      have h3p := of_decide_eq_true h3
      refine x_f (by kernel_rfl) <| x_skipc <| x_then <| x_seq <| x_region <| x_b H [.m, .l 0 0, .v (.bool (!(decide (x.k = 8)))), .v (.bool (!(decide (x.k = 8))))] ?_
      cases h4 : decide (x.k = 8)
      · skip
        have h4p := of_decide_eq_false h4
        refine x_b H [.k, .k, .k, .k, .k, .k, .k, .k, .k, .k, .m, .m] <| x_nil <| x_then <| x_retc <| x_ret (.bool true) (by kernel_rfl) (by kernel_rfl) ?_
        have e : decide (RightS x) = (true) := by
          first | exact decide_eq_true ⟨by omega, by omega, h3p, fun hk => ⟨by omega, by omega⟩⟩ | exact decide_eq_false (fun hh => by obtain ⟨q1, q2, q3, q4⟩ := hh; first | omega | exact h3p q3 | (have q5 := q4 (by omega); omega)) | exact decide_eq_decide.2 ⟨fun hh => (by have q5 := hh.2.2.2 (by omega); omega), fun hh => ⟨by omega, by omega, h3p, fun _ => ⟨by omega, by omega⟩⟩⟩
        exact ⟨by rw [e], H.below⟩
      have h4p := of_decide_eq_true h4
      refine x_b H [.m, .m, .l 0 67, .v (.bool (decide (1 ≤ x.fk))), .v (.bool (decide (1 ≤ x.fk)))] ?_
      cases h5 : decide (1 ≤ x.fk)
      · skip
        have h5p := of_decide_eq_false h5
        refine x_b H [.k, .k, .k, .k, .m, .m, .m] <| x_nil <| x_then <| x_retc <| x_ret (.bool false) (by kernel_rfl) (by kernel_rfl) ?_
        have e : decide (RightS x) = (false) := by
          first | exact decide_eq_true ⟨by omega, by omega, h3p, fun hk => ⟨by omega, by omega⟩⟩ | exact decide_eq_false (fun hh => by obtain ⟨q1, q2, q3, q4⟩ := hh; first | omega | exact h3p q3 | (have q5 := q4 (by omega); omega)) | exact decide_eq_decide.2 ⟨fun hh => (by have q5 := hh.2.2.2 (by omega); omega), fun hh => ⟨by omega, by omega, h3p, fun _ => ⟨by omega, by omega⟩⟩⟩
        exact ⟨by rw [e], H.below⟩
      have h5p := of_decide_eq_true h5
      refine x_b H [.m, .m, .l 0 67, .v (.bool (decide (x.fk ≤ 7))), .v (.bool (decide (x.fk ≤ 7))), .v (.bool (decide (x.fk ≤ 7))), .v (.bool (decide (x.fk ≤ 7)))] <| x_nil <| x_then <| x_retc <| x_ret (.bool (decide (x.fk ≤ 7))) (by kernel_rfl) (by kernel_rfl) ?_
      have e : decide (RightS x) = (decide (x.fk ≤ 7)) := by
        first | exact decide_eq_true ⟨by omega, by omega, h3p, fun hk => ⟨by omega, by omega⟩⟩ | exact decide_eq_false (fun hh => by obtain ⟨q1, q2, q3, q4⟩ := hh; first | omega | exact h3p q3 | (have q5 := q4 (by omega); omega)) | exact decide_eq_decide.2 ⟨fun hh => (by have q5 := hh.2.2.2 (by omega); omega), fun hh => ⟨by omega, by omega, h3p, fun _ => ⟨by omega, by omega⟩⟩⟩
      exact ⟨by rw [e], H.below⟩
    have h2p := of_decide_eq_true h2
    refine q_b [.k, .k, .k, .k, .m] <| q_nil ?_
    clear H
    intro v3 H
    refine x_then <| x_t (by kernel_rfl) <| x_seq <| x_region <| x_b H [.m] <| x_nil <| x_then ?_
    refine x_retc <| x_then_ret <| x_ret (.bool false) (by kernel_rfl) (by kernel_rfl) ?_
    have e : decide (RightS x) = (false) := by
      first | exact decide_eq_true ⟨by omega, by omega, trivial, fun hk => ⟨by omega, by omega⟩⟩ | exact decide_eq_false (fun hh => by obtain ⟨q1, q2, q3, q4⟩ := hh; first | omega | exact trivial q3 | (have q5 := q4 (by omega); omega)) | exact decide_eq_decide.2 ⟨fun hh => (by have q5 := hh.2.2.2 (by omega); omega), fun hh => ⟨by omega, by omega, trivial, fun _ => ⟨by omega, by omega⟩⟩⟩
    exact ⟨by rw [e], H.below⟩
  have h1p := of_decide_eq_true h1
  refine q_b [.k, .k, .k, .m, .m, .k, .k, .k, .k, .m] <| q_nil ?_
  clear H
  intro v4 H
  refine x_then <| x_t (by kernel_rfl) <| x_seq <| x_region <| x_b H [.m] <| x_nil <| x_then ?_
  refine x_retc <| x_then_ret <| x_ret (.bool false) (by kernel_rfl) (by kernel_rfl) ?_
  have e : decide (RightS x) = (false) := by
    first | exact decide_eq_true ⟨by omega, by omega, trivial, fun hk => ⟨by omega, by omega⟩⟩ | exact decide_eq_false (fun hh => by obtain ⟨q1, q2, q3, q4⟩ := hh; first | omega | exact trivial q3 | (have q5 := q4 (by omega); omega)) | exact decide_eq_decide.2 ⟨fun hh => (by have q5 := hh.2.2.2 (by omega); omega), fun hh => ⟨by omega, by omega, trivial, fun _ => ⟨by omega, by omega⟩⟩⟩
  exact ⟨by rw [e], H.below⟩
end Go.Proofs.YtjbaabffilejeaaDoor
