/- The buckets' laws: what stands before and beside the plain laws: the anchor. -/
import Derived.Test.YthmbiddnpogolaaBucketB
namespace Go.Proofs.Ythmbiddnpogolaa
open Go.ChangeShapes Go.WideShapes Go.ChangeAt Go.RowKit
set_option linter.unusedVariables false

@[go_sem] theorem field_bucket0 (x y : Value) (w : World) : (Instr.field 37 (.agg #[x, y]) 0).run Try.prog w = .ok x w := by kernel_rfl
@[go_sem] theorem field_bucket1 (x y : Value) (w : World) : (Instr.field 37 (.agg #[x, y]) 1).run Try.prog w = .ok y w := by kernel_rfl
set_option maxRecDepth 100000 in
theorem anchor15_any (w : World) : Calls Try.prog 21 #[] w fun e w' => e = .returned (.bool true) ∧ Below w.heap.size w w' := by
  have e1 : fillB 0 0 3 2 3 = 3 := by decide
  have e2 : crossB 0 0 3 2 3 = true := by decide
  have e3 : ticksL 3 0 3 2 1 = 3 := by decide
  have e4 : ticksA 3 0 3 2 1 = 1 := by decide
  have e5 : ticksL 3 1 3 2 1 = 2 := by decide
  have e6 : ticksA 3 1 3 2 1 = 0 := by decide
  go_enter Try.func21, Try.ntmps21
  go_wp2_with fail
  refine (bfill_any _ _ _ _ _ (by omega) _).mono ?_; rintro e' w1 ⟨rfl, hb⟩
  rw [e1, e2]
  obtain ⟨b0, hz, hb⟩ := after1 hb
  obtain ⟨k0, k1, f0, f1⟩ := cells2 b0
  go_wp2
  have b0' := blkPast b0 (.cells #[.int .i64 3, .int .i64 0] 37)
  have b1 := blk0 w1 (.cells #[.int .i64 3, .int .i64 0] 37)
  have hb1 := hb.alloc hb.size (.cells #[.int .i64 3, .int .i64 0] 37)
  obtain ⟨k0, k1, f0, f1⟩ := cells2 b0'
  obtain ⟨k2, k3, f2, f3⟩ := cells2 b1
  clear b0 b0' b1 hb
  generalize hw2 : w1.alloc (.cells #[.int .i64 3, .int .i64 0] 37) = w2 at *
  generalize hg : w1.heap.size = g at *
  clear hw2
  go_region_held3 (fun w' => Below w.heap.size w w' ∧ w'.cell? ⟨w.heap.size, 0, none⟩ = some (.int .i64 3) ∧ w'.cell? ⟨w.heap.size, 1, none⟩ = some (.int .i64 2) ∧ w'.cell? ⟨g, 0, none⟩ = some (.int .i64 3) ∧ w'.cell? ⟨g, 1, none⟩ = some (.int .i64 0))
    (first | (go_split_ands; (repeat' apply And.intro) <;> first | assumption | exact Below.drew (by assumption) | exact cellKeep (by assumption) (by assumption) | exact belowKeep (by assumption) (by assumption)))
    (first
      | (go_at_call_of 27 (Value.agg #[.int .i64 3, .int .i64 0]); refine (btick_any _ _ _ _ _).mono ?_; rw [e3, e4]; rintro e' w1 ⟨rfl, hb⟩)
      | (go_at_call_of 27 (Value.agg #[.int .i64 3, .int .i64 1]); refine (btick_any _ _ _ _ _).mono ?_; rw [e5, e6]; rintro e' w1 ⟨rfl, hb⟩))
  go_wp2
  go_ret
  go_split_ands
  exact ⟨rfl, by assumption⟩

/-! ### the plain laws -/
theorem bOk00 (l e : Int) : bOk 0 0 l e = ruleOk l e := by
  rw [Bool.eq_iff_iff, bOk_iff]; simp [ruleOk, inB]; omega
theorem tickL_eq {v a l e : Int} (h : bOk v a l e = true) : ticksL v a l e 1 = BtickV e v a := by
  have h' := bOk_iff.1 h
  unfold ticksL BtickV
  rw [h]
  by_cases c : a + 1 = e
  · have c2 : e - a ≤ 1 := by omega
    have c3 : (1 : Int) - (e - a) = 0 := by omega
    simp only [c, c2, c3]
    simp
    omega
  · have c2 : ¬ e - a ≤ 1 := by omega
    simp [c, c2]
theorem tickA_eq {v a l e : Int} (h : bOk v a l e = true) : ticksA v a l e 1 = BtickA e a := by
  have h' := bOk_iff.1 h
  unfold ticksA BtickA
  rw [h]
  by_cases c : a + 1 = e
  · have c2 : ¬ (1 : Int) < e - a := by omega
    have c3 : (1 : Int) - (e - a) = 0 := by omega
    simp [c, c2, c3]
  · have c2 : (1 : Int) < e - a := by omega
    simp [c, c2]
theorem btick_bad (v a l e : Int) (h : bOk v a l e = false) (w : World) :
    Calls Try.prog 27 #[.agg #[.int .i64 v, .int .i64 a], .agg #[.int .i64 l, .int .i64 e]] w fun e' w' => e' = .returned (.agg #[.int .i64 v, .int .i64 a]) ∧ Below w.heap.size w w' := by
  have := btick_any v a l e w
  rwa [show ticksL v a l e 1 = v by simp [ticksL, h], show ticksA v a l e 1 = a by simp [ticksA, h]] at this
theorem btick_ok (v a l e : Int) (h : bOk v a l e = true) (w : World) :
    Calls Try.prog 27 #[.agg #[.int .i64 v, .int .i64 a], .agg #[.int .i64 l, .int .i64 e]] w fun e' w' => e' = .returned (.agg #[.int .i64 (BtickV e v a), .int .i64 (BtickA e a)]) ∧ Below w.heap.size w w' := by
  have := btick_any v a l e w
  rwa [tickL_eq h, tickA_eq h] at this
end Go.Proofs.Ythmbiddnpogolaa
