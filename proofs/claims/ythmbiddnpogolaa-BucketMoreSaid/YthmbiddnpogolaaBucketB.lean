/- Contracts of the document's buckets (cuirassref15.B). -/
import Derived.Test.YthmbiddnpogolaaBucket
namespace Go.Proofs.Ythmbiddnpogolaa
open Go.ChangeShapes Go.WideShapes Go.ChangeAt Go.RowKit
set_option linter.unusedVariables false
/-! ### the document's bucket -/
theorem BRight_any (l e v a : Int) (w : World) :
    Calls Try.prog 25 #[.agg #[.int .i64 l, .int .i64 e, .int .i64 v, .int .i64 a]] w fun e' w' => e' = .returned (.bool (bOk v a l e)) ∧ Below w.heap.size w w' := by
  go_enter Try.func25, Try.ntmps25
  go_wp2
  all_goals (go_ret; exact ⟨ret_bool (by rw [Bool.eq_iff_iff, bOk_iff]; simp <;> omega), alloc1 _ _⟩)

theorem BFill_any (l e v a n : Int) (h0 : 0 ≤ v) (h1 : v ≤ 65536) (h2 : 0 ≤ n) (h3 : n ≤ 9223372036854775807) (w : World) :
    Calls Try.prog 28 #[.agg #[.int .i64 l, .int .i64 e, .int .i64 v, .int .i64 a], .int .i64 n] w fun e' w' => e' = .returned (.tuple #[.agg #[.int .i64 l, .int .i64 e, .int .i64 (min (v + n) 65536), .int .i64 a], .bool (decide (v < l) && decide (l ≤ min (v + n) 65536))]) ∧ Below w.heap.size w w' := by
  have hvl2 : ¬ v < l → decide (v < l) = false := fun h => by simpa using h
  by_cases c1 : 65536 - v < n <;> by_cases c2 : v < l
  · have HM : Hid (min (v + n) 65536 = 65536) := by show _ = _; omega
    rw [HM.out]
    go_enter Try.func28, Try.ntmps28
    go_wp2
    go_region
    go_wp2
    refine bodyPost_ret (v := .tuple #[.agg #[.int .i64 l, .int .i64 e, .int .i64 (65536), .int .i64 a], .bool (decide (l ≤ 65536))]) (by simp [results, Try.results28, go_sem]) rfl ⟨?_, ?_⟩
    · exact ret_x_bool (by first | (rw [hvl3]; rfl) | simp [c2])
    · exact (alloc2 _ _ _).drew
  · have HM : Hid (min (v + n) 65536 = 65536) := by show _ = _; omega
    rw [HM.out]
    have hvl3 := hvl2 c2
    go_enter Try.func28, Try.ntmps28
    go_wp2
    go_region
    go_wp2
    refine bodyPost_ret (v := .tuple #[.agg #[.int .i64 l, .int .i64 e, .int .i64 (65536), .int .i64 a], .bool false]) (by simp [results, Try.results28, go_sem]) rfl ⟨?_, ?_⟩
    · exact ret_x_bool (by first | (rw [hvl3]; rfl) | simp [c2])
    · exact (alloc2 _ _ _).drew
  · have HM : Hid (min (v + n) 65536 = v + n) := by show _ = _; omega
    rw [HM.out]
    go_enter Try.func28, Try.ntmps28
    go_wp2
    go_region
    go_wp2
    refine bodyPost_ret (v := .tuple #[.agg #[.int .i64 l, .int .i64 e, .int .i64 (v + n), .int .i64 a], .bool (decide (l ≤ v + n))]) (by simp [results, Try.results28, go_sem]) rfl ⟨?_, ?_⟩
    · exact ret_x_bool (by first | (rw [hvl3]; rfl) | simp [c2])
    · exact (alloc2 _ _ _).drew
  · have HM : Hid (min (v + n) 65536 = v + n) := by show _ = _; omega
    rw [HM.out]
    have hvl3 := hvl2 c2
    go_enter Try.func28, Try.ntmps28
    go_wp2
    go_region
    go_wp2
    refine bodyPost_ret (v := .tuple #[.agg #[.int .i64 l, .int .i64 e, .int .i64 (v + n), .int .i64 a], .bool false]) (by simp [results, Try.results28, go_sem]) rfl ⟨?_, ?_⟩
    · exact ret_x_bool (by first | (rw [hvl3]; rfl) | simp [c2])
    · exact (alloc2 _ _ _).drew

def BtickA (e a : Int) : Int := if a + 1 = e then 0 else a + 1
def BtickV (e v a : Int) : Int := if a + 1 = e then (if 0 < v then v - 1 else v) else v
theorem BTick_any (l e v a : Int) (h0 : 0 ≤ v) (h1 : v ≤ 65536) (h2 : 0 ≤ a) (h3 : a ≤ 65536) (w : World) :
    Calls Try.prog 29 #[.agg #[.int .i64 l, .int .i64 e, .int .i64 v, .int .i64 a]] w fun e' w' => e' = .returned (.agg #[.int .i64 l, .int .i64 e, .int .i64 (BtickV e v a), .int .i64 (BtickA e a)]) ∧ Below w.heap.size w w' := by
  by_cases c1 : a + 1 = e
  · have c1b : (a + 1 == e) = true := by simpa using c1
    have HA : Hid (BtickA e a = 0) := by show _ = _; simp [BtickA, c1]
    by_cases c2 : 0 < v
    · have HV : Hid (BtickV e v a = v - 1) := by show _ = _; simp [BtickV, c1, c2]
      rw [HA.out, HV.out]
      clear c1
      go_enter Try.func29, Try.ntmps29
      go_wp2
      refine bodyPost_ret (v := .agg #[.int .i64 l, .int .i64 e, .int .i64 (v - 1), .int .i64 0]) (by simp [results, Try.results29, go_sem]) rfl ⟨rfl, alloc2 _ _ _⟩
    · have HV : Hid (BtickV e v a = v) := by show _ = _; simp [BtickV, c2]
      rw [HA.out, HV.out]
      clear c1
      go_enter Try.func29, Try.ntmps29
      go_wp2
      refine bodyPost_ret (v := .agg #[.int .i64 l, .int .i64 e, .int .i64 v, .int .i64 0]) (by simp [results, Try.results29, go_sem]) rfl ⟨rfl, alloc2 _ _ _⟩
  · have c1b : (a + 1 == e) = false := by simpa using c1
    have HA : Hid (BtickA e a = a + 1) := by show _ = _; simp [BtickA, c1]
    have HV : Hid (BtickV e v a = v) := by show _ = _; simp [BtickV, c1]
    rw [HA.out, HV.out]
    clear c1
    go_enter Try.func29, Try.ntmps29
    go_wp2
    refine bodyPost_ret (v := .agg #[.int .i64 l, .int .i64 e, .int .i64 v, .int .i64 (a + 1)]) (by simp [results, Try.results29, go_sem]) rfl ⟨rfl, alloc2 _ _ _⟩
end Go.Proofs.Ythmbiddnpogolaa
