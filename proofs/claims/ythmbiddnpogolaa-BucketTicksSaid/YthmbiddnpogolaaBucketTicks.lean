/- So many ticks are so many times one, for any bucket: for every input the Go function BucketTicks returns true. -/
import Derived.Test.YthmbiddnpogolaaBucketPlain
import Derived.Test.YthmbiddnpogolaaOpen
import Derived.Lib.Hide
namespace Go.Proofs.Ythmbiddnpogolaa.bucketTicks
open Go.ChangeShapes Go.WideShapes Go.ChangeAt Go.RowKit
set_option linter.unusedVariables false

theorem walk_far (l e v a n : Int) (hn : 2000 < n) (w : World) :
    Calls Try.prog 5 #[.agg #[.int .i64 l, .int .i64 e], .agg #[.int .i64 v, .int .i64 a], .int .i64 n] w fun e' w' => e' = .returned (.bool true) ∧ Below w.heap.size w w' := by
  go_enter Try.func5, Try.ntmps5
  go_wp2_with fail
  refine (anchor15_any _).mono ?_; rintro e' w1 ⟨rfl, hb⟩
  obtain ⟨b0, b1, hb⟩ := out2 hb
  go_wp2
  go_ret
  exact ⟨rfl, hb⟩

set_option maxRecDepth 100000 in
theorem walk_bad (l e v a n : Int) (h : bOk v a l e = false) (hn : n ≤ 2000) (w : World) :
    Calls Try.prog 5 #[.agg #[.int .i64 l, .int .i64 e], .agg #[.int .i64 v, .int .i64 a], .int .i64 n] w fun e' w' => e' = .returned (.bool true) ∧ Below w.heap.size w w' := by
  go_enter Try.func5, Try.ntmps5
  go_wp2_with fail
  refine (anchor15_any _).mono ?_; rintro e' w1 ⟨rfl, hb⟩
  obtain ⟨b0, b1, hb⟩ := out2 hb
  obtain ⟨c_b0_0, c_b0_1, f_b0_0, f_b0_1⟩ := cells2 b0
  have y_b0 := lt_blk b0
  obtain ⟨c_b1_0, c_b1_1, f_b1_0, f_b1_1⟩ := cells2 b1
  have y_b1 := lt_blk b1
  go_wp2_with fail
  refine (of_any _ _ _ _ _).mono ?_; rintro e' w2 ⟨rfl, hb2⟩
  clear c_b0_0 f_b0_0 c_b0_1 f_b0_1 y_b0 c_b1_0 f_b1_0 c_b1_1 f_b1_1 y_b1
  replace b0 := blkKeep b0 hb2
  replace b1 := blkKeep b1 hb2
  replace hb := belowKeep hb hb2
  obtain ⟨c_b0_0, c_b0_1, f_b0_0, f_b0_1⟩ := cells2 b0
  have y_b0 := lt_blk b0
  obtain ⟨c_b1_0, c_b1_1, f_b1_0, f_b1_1⟩ := cells2 b1
  have y_b1 := lt_blk b1
  go_wp2_with fail
  refine (bticks_bad _ _ _ _ _ h _).mono ?_; rintro e' w3 ⟨rfl, hb3⟩
  clear c_b0_0 f_b0_0 c_b0_1 f_b0_1 y_b0 c_b1_0 f_b1_0 c_b1_1 f_b1_1 y_b1
  obtain ⟨b2, hlow⟩ := out1 hb3
  replace b0 := blkKeep b0 hlow
  replace b1 := blkKeep b1 hlow
  replace hb := belowKeep hb hlow
  clear hlow
  generalize hg : w2.heap.size = g2 at *
  obtain ⟨c_b0_0, c_b0_1, f_b0_0, f_b0_1⟩ := cells2 b0
  have y_b0 := lt_blk b0
  obtain ⟨c_b1_0, c_b1_1, f_b1_0, f_b1_1⟩ := cells2 b1
  have y_b1 := lt_blk b1
  obtain ⟨c_b2_0, c_b2_1, c_b2_2, c_b2_3, f_b2_0, f_b2_1, f_b2_2, f_b2_3⟩ := cells4 b2
  have y_b2 := lt_blk b2
  go_wp2_with fail
  refine (BRight_any _ _ _ _ _).mono ?_; rw [h]; rintro e' w5 ⟨rfl, hb5⟩
  clear c_b0_0 f_b0_0 c_b0_1 f_b0_1 y_b0 c_b1_0 f_b1_0 c_b1_1 f_b1_1 y_b1 c_b2_0 f_b2_0 c_b2_1 f_b2_1 c_b2_2 f_b2_2 c_b2_3 f_b2_3 y_b2
  obtain ⟨b3, hlow⟩ := out1 hb5
  replace b0 := blkKeep b0 hlow
  replace b1 := blkKeep b1 hlow
  replace b2 := blkKeep b2 hlow
  replace hb := belowKeep hb hlow
  clear hlow
  generalize hg3 : w3.heap.size = g3 at *
  obtain ⟨c_b0_0, c_b0_1, -, -⟩ := cells2 b0
  have y_b0 := lt_blk b0
  obtain ⟨c_b1_0, c_b1_1, -, -⟩ := cells2 b1
  have y_b1 := lt_blk b1
  obtain ⟨c_b2_0, c_b2_1, c_b2_2, c_b2_3, -, -, -, -⟩ := cells4 b2
  have y_b2 := lt_blk b2
  obtain ⟨c_b3_0, c_b3_1, -, -⟩ := cells2 b3
  have y_b3 := lt_blk b3
  go_wp2
  go_ret
  exact ⟨rfl, hb⟩

set_option maxRecDepth 100000 in
theorem walk_neg (l e v a n : Int) (h : bOk v a l e = true) (hn : n < 1) (w : World) :
    Calls Try.prog 5 #[.agg #[.int .i64 l, .int .i64 e], .agg #[.int .i64 v, .int .i64 a], .int .i64 n] w fun e' w' => e' = .returned (.bool true) ∧ Below w.heap.size w w' := by
  go_enter Try.func5, Try.ntmps5
  go_wp2_with fail
  refine (anchor15_any _).mono ?_; rintro e' w1 ⟨rfl, hb⟩
  obtain ⟨b0, b1, hb⟩ := out2 hb
  obtain ⟨c_b0_0, c_b0_1, f_b0_0, f_b0_1⟩ := cells2 b0
  have y_b0 := lt_blk b0
  obtain ⟨c_b1_0, c_b1_1, f_b1_0, f_b1_1⟩ := cells2 b1
  have y_b1 := lt_blk b1
  go_wp2_with fail
  refine (of_any _ _ _ _ _).mono ?_; rintro e' w2 ⟨rfl, hb2⟩
  clear c_b0_0 f_b0_0 c_b0_1 f_b0_1 y_b0 c_b1_0 f_b1_0 c_b1_1 f_b1_1 y_b1
  replace b0 := blkKeep b0 hb2
  replace b1 := blkKeep b1 hb2
  replace hb := belowKeep hb hb2
  obtain ⟨c_b0_0, c_b0_1, f_b0_0, f_b0_1⟩ := cells2 b0
  have y_b0 := lt_blk b0
  obtain ⟨c_b1_0, c_b1_1, f_b1_0, f_b1_1⟩ := cells2 b1
  have y_b1 := lt_blk b1
  go_wp2_with fail
  refine (bticks_neg _ _ _ _ _ hn _).mono ?_; rintro e' w3 ⟨rfl, hb3⟩
  clear c_b0_0 f_b0_0 c_b0_1 f_b0_1 y_b0 c_b1_0 f_b1_0 c_b1_1 f_b1_1 y_b1
  obtain ⟨b2, hlow⟩ := out1 hb3
  replace b0 := blkKeep b0 hlow
  replace b1 := blkKeep b1 hlow
  replace hb := belowKeep hb hlow
  clear hlow
  generalize hg : w2.heap.size = g2 at *
  obtain ⟨c_b0_0, c_b0_1, f_b0_0, f_b0_1⟩ := cells2 b0
  have y_b0 := lt_blk b0
  obtain ⟨c_b1_0, c_b1_1, f_b1_0, f_b1_1⟩ := cells2 b1
  have y_b1 := lt_blk b1
  obtain ⟨c_b2_0, c_b2_1, c_b2_2, c_b2_3, f_b2_0, f_b2_1, f_b2_2, f_b2_3⟩ := cells4 b2
  have y_b2 := lt_blk b2
  go_wp2_with fail
  refine (BRight_any _ _ _ _ _).mono ?_; rw [h]; rintro e' w5 ⟨rfl, hb5⟩
  clear c_b0_0 f_b0_0 c_b0_1 f_b0_1 y_b0 c_b1_0 f_b1_0 c_b1_1 f_b1_1 y_b1 c_b2_0 f_b2_0 c_b2_1 f_b2_1 c_b2_2 f_b2_2 c_b2_3 f_b2_3 y_b2
  obtain ⟨b3, hlow⟩ := out1 hb5
  replace b0 := blkKeep b0 hlow
  replace b1 := blkKeep b1 hlow
  replace b2 := blkKeep b2 hlow
  replace hb := belowKeep hb hlow
  clear hlow
  generalize hg3 : w3.heap.size = g3 at *
  obtain ⟨c_b0_0, c_b0_1, -, -⟩ := cells2 b0
  have y_b0 := lt_blk b0
  obtain ⟨c_b1_0, c_b1_1, -, -⟩ := cells2 b1
  have y_b1 := lt_blk b1
  obtain ⟨c_b2_0, c_b2_1, c_b2_2, c_b2_3, -, -, -, -⟩ := cells4 b2
  have y_b2 := lt_blk b2
  obtain ⟨c_b3_0, c_b3_1, -, -⟩ := cells2 b3
  have y_b3 := lt_blk b3
  go_wp2
  go_ret
  exact ⟨rfl, hb⟩

set_option maxRecDepth 100000 in
set_option maxHeartbeats 1000000 in
theorem walk_loop (l e v a : Int) (N : Nat) (h : bOk v a l e = true) (hN : 1 ≤ N) (hN2 : N ≤ 2000) (w : World) :
    Calls Try.prog 5 #[.agg #[.int .i64 l, .int .i64 e], .agg #[.int .i64 v, .int .i64 a], .int .i64 N] w fun e' w' => e' = .returned (.bool true) ∧ Below w.heap.size w w' := by
  obtain ⟨V, HV⟩ : ∃ V, Hid (ticksL v a l e N = V) := ⟨_, rfl⟩
  obtain ⟨A, HA⟩ : ∃ A, Hid (ticksA v a l e N = A) := ⟨_, rfl⟩
  go_enter Try.func5, Try.ntmps5
  go_wp2_with fail
  refine (anchor15_any _).mono ?_; rintro e' w1 ⟨rfl, hb⟩
  obtain ⟨b0, b1, hb⟩ := out2 hb
  obtain ⟨c_b0_0, c_b0_1, f_b0_0, f_b0_1⟩ := cells2 b0
  have y_b0 := lt_blk b0
  obtain ⟨c_b1_0, c_b1_1, f_b1_0, f_b1_1⟩ := cells2 b1
  have y_b1 := lt_blk b1
  go_wp2_with fail
  refine (of_any _ _ _ _ _).mono ?_; rintro e' w2 ⟨rfl, hb2⟩
  clear c_b0_0 f_b0_0 c_b0_1 f_b0_1 y_b0 c_b1_0 f_b1_0 c_b1_1 f_b1_1 y_b1
  replace b0 := blkKeep b0 hb2
  replace b1 := blkKeep b1 hb2
  replace hb := belowKeep hb hb2
  have z1 := lt_blk b1
  obtain ⟨c_b0_0, c_b0_1, f_b0_0, f_b0_1⟩ := cells2 b0
  have y_b0 := lt_blk b0
  obtain ⟨c_b1_0, c_b1_1, f_b1_0, f_b1_1⟩ := cells2 b1
  have y_b1 := lt_blk b1
  go_wp2_with fail
  refine (bticks_any _ _ _ _ _ (by omega) _).mono ?_; rw [HV.out, HA.out]; rintro e' w3 ⟨rfl, hb3⟩
  clear c_b0_0 f_b0_0 c_b0_1 f_b0_1 y_b0 c_b1_0 f_b1_0 c_b1_1 f_b1_1 y_b1
  obtain ⟨b2, hlow⟩ := out1 hb3
  replace b0 := blkKeep b0 hlow
  replace b1 := blkKeep b1 hlow
  replace hb := belowKeep hb hlow
  clear hlow
  have z2 := lt_blk b2
  generalize hg : w2.heap.size = g2 at *
  obtain ⟨c_b0_0, c_b0_1, f_b0_0, f_b0_1⟩ := cells2 b0
  have y_b0 := lt_blk b0
  obtain ⟨c_b1_0, c_b1_1, f_b1_0, f_b1_1⟩ := cells2 b1
  have y_b1 := lt_blk b1
  obtain ⟨c_b2_0, c_b2_1, c_b2_2, c_b2_3, f_b2_0, f_b2_1, f_b2_2, f_b2_3⟩ := cells4 b2
  have y_b2 := lt_blk b2
  go_wp2_with fail
  refine (BRight_any _ _ _ _ _).mono ?_; rw [h]; rintro e' w5 ⟨rfl, hb5⟩
  clear c_b0_0 f_b0_0 c_b0_1 f_b0_1 y_b0 c_b1_0 f_b1_0 c_b1_1 f_b1_1 y_b1 c_b2_0 f_b2_0 c_b2_1 f_b2_1 c_b2_2 f_b2_2 c_b2_3 f_b2_3 y_b2
  obtain ⟨b3, hlow⟩ := out1 hb5
  replace b0 := blkKeep b0 hlow
  replace b1 := blkKeep b1 hlow
  replace b2 := blkKeep b2 hlow
  replace hb := belowKeep hb hlow
  clear hlow
  generalize hg3 : w3.heap.size = g3 at *
  go_wp2
  go_loopw [31] (fun i wr => ∃ k : Nat, k ≤ N ∧ i = .int .i64 k ∧ Below w.heap.size w wr ∧ wr.heap[w.heap.size]? = some (.cells #[.int .i64 l, .int .i64 e] 35 (0, 0)) ∧
      wr.heap[g2]? = some (.cells #[.int .i64 l, .int .i64 e, .int .i64 (ticksL v a l e k), .int .i64 (ticksA v a l e k)] 39 (0, 0)) ∧ wr.heap[g3]? = some (.cells #[.int .i64 V, .int .i64 A] 37 (0, 0)))
    (fun i _ => N - (intOf i).toNat)
  case atStart =>
    refine ⟨0, Nat.zero_le _, rfl, hb, b0, ?_, b3⟩
    rw [show ((0 : Nat) : Int) = 0 from rfl, ticksL_0, ticksA_0]; exact b2
  case round =>
    obtain ⟨k, hk, rfl, hb, b0, b2, b3⟩ := hrel
    obtain ⟨-, ⟨v0, v1⟩, a0, a1⟩ := bOk_iff.1 (ticks_ok h k)
    obtain ⟨⟨-, e0, e1⟩, -, -⟩ := bOk_iff.1 h
    by_cases hlt : k < N
    · obtain ⟨s1, s2⟩ := ticks_step h k (by omega)
      have S1 := Lib.hid s1
      have S2 := Lib.hid s2
      clear s1 s2
      generalize ticksL v a l e k = L0 at *
      generalize ticksA v a l e k = A0 at *
      obtain ⟨c_b0_0, c_b0_1, f_b0_0, f_b0_1⟩ := cells2 b0
      have y_b0 := lt_blk b0
      obtain ⟨c_b2_0, c_b2_1, c_b2_2, c_b2_3, f_b2_0, f_b2_1, f_b2_2, f_b2_3⟩ := cells4 b2
      have y_b2 := lt_blk b2
      obtain ⟨c_b3_0, c_b3_1, f_b3_0, f_b3_1⟩ := cells2 b3
      have y_b3 := lt_blk b3
      go_wp2_with fail
      refine (BTick_any _ _ _ _ v0 v1 a0 (by omega) _).mono ?_; rintro e' w6 ⟨rfl, hb6⟩
      clear c_b0_0 f_b0_0 c_b0_1 f_b0_1 y_b0 c_b2_0 f_b2_0 c_b2_1 f_b2_1 c_b2_2 f_b2_2 c_b2_3 f_b2_3 y_b2 c_b3_0 f_b3_0 c_b3_1 f_b3_1 y_b3
      replace b0 := blkKeep b0 hb6
      replace b2 := blkKeep b2 hb6
      replace b3 := blkKeep b3 hb6
      replace hb := belowKeep hb hb6
      obtain ⟨c_b0_0, c_b0_1, f_b0_0, f_b0_1⟩ := cells2 b0
      have y_b0 := lt_blk b0
      obtain ⟨c_b2_0, c_b2_1, c_b2_2, c_b2_3, f_b2_0, f_b2_1, f_b2_2, f_b2_3⟩ := cells4 b2
      have y_b2 := lt_blk b2
      obtain ⟨c_b3_0, c_b3_1, f_b3_0, f_b3_1⟩ := cells2 b3
      have y_b3 := lt_blk b3
      go_wp2
      go_roundw
      case rel =>
        refine ⟨k + 1, by omega, by go_num, put4b hb (by omega) _ _ _ _, put4o b0 (by omega) _ _ _ _, ?_, put4o b3 (by omega) _ _ _ _⟩
        rw [show ((k + 1 : Nat) : Int) = (k : Int) + 1 by omega, S1.out, S2.out]
        exact put4 b2 _ _ _ _
      case measure => simp [intOf]; omega
    · obtain rfl : k = N := by omega
      rw [HV.out, HA.out] at b2
      obtain ⟨c_b0_0, c_b0_1, -, -⟩ := cells2 b0
      have y_b0 := lt_blk b0
      obtain ⟨c_b2_0, c_b2_1, c_b2_2, c_b2_3, -, -, -, -⟩ := cells4 b2
      have y_b2 := lt_blk b2
      obtain ⟨c_b3_0, c_b3_1, -, -⟩ := cells2 b3
      have y_b3 := lt_blk b3
      go_wp2
      refine wp_region_class 5 (fun w' => Below w.heap.size w w' ∧ w'.heap[w.heap.size]? = some (.cells #[.int .i64 l, .int .i64 e] 35 (0, 0)) ∧ w'.heap[g2]? = some (.cells #[.int .i64 l, .int .i64 e, .int .i64 V, .int .i64 A] 39 (0, 0)) ∧ w'.heap[g3]? = some (.cells #[.int .i64 V, .int .i64 A] 37 (0, 0)) ∧ w'.cell? ⟨w.heap.size, 0, none⟩ = some (.int .i64 l) ∧ w'.cell? ⟨w.heap.size, 1, none⟩ = some (.int .i64 e) ∧ w'.cell? ⟨g2, 0, none⟩ = some (.int .i64 l) ∧ w'.cell? ⟨g2, 1, none⟩ = some (.int .i64 e) ∧ w'.cell? ⟨g2, 2, none⟩ = some (.int .i64 V) ∧ w'.cell? ⟨g2, 3, none⟩ = some (.int .i64 A) ∧ w'.cell? ⟨g3, 0, none⟩ = some (.int .i64 V) ∧ w'.cell? ⟨g3, 1, none⟩ = some (.int .i64 A)) (by kernel_rfl) (by kernel_rfl) ?_ ?_
      · (try dsimp only); (first | (go_split_ands; (repeat' apply And.intro) <;> first | assumption | exact Below.drew (by assumption) | exact blkDrew (by assumption) | exact cellKeep (by assumption) (by assumption) | exact belowKeep (by assumption) (by assumption) | exact blkKeep (by assumption) (by assumption)))
      simp only [List.take_succ_cons, List.take_zero, List.drop_succ_cons, List.drop_zero]
      first | (refine quiet_neg (by rfl) ?_; simp only [Act.put, List.setIfInBounds_toArray, List.set_cons_zero, List.set_cons_succ]) | (refine quiet_ex (by rfl) ?_; apply Exists.intro; refine ⟨fun w0 hS => ?_, ?_⟩; (focus ((try dsimp only at hS); go_simp; (first | done | (with_reducible rfl) | (go_at_call 22; refine (of_any _ _ _ _ _).mono ?_; rintro e' w1 ⟨rfl, hbc⟩; refine ⟨rfl, ?_⟩; (try dsimp only); (first | (go_split_ands; (repeat' apply And.intro) <;> first | assumption | exact Below.drew (by assumption) | exact blkDrew (by assumption) | exact cellKeep (by assumption) (by assumption) | exact belowKeep (by assumption) (by assumption) | exact blkKeep (by assumption) (by assumption))))))); (try simp only [Act.put, List.setIfInBounds_toArray, List.set_cons_zero, List.set_cons_succ]))
      first | (refine quiet_neg (by rfl) ?_; simp only [Act.put, List.setIfInBounds_toArray, List.set_cons_zero, List.set_cons_succ]) | (refine quiet_ex (by rfl) ?_; apply Exists.intro; refine ⟨fun w0 hS => ?_, ?_⟩; (focus ((try dsimp only at hS); go_simp; (first | done | (with_reducible rfl) | (go_at_call 22; refine (of_any _ _ _ _ _).mono ?_; rintro e' w1 ⟨rfl, hbc⟩; refine ⟨rfl, ?_⟩; (try dsimp only); (first | (go_split_ands; (repeat' apply And.intro) <;> first | assumption | exact Below.drew (by assumption) | exact blkDrew (by assumption) | exact cellKeep (by assumption) (by assumption) | exact belowKeep (by assumption) (by assumption) | exact blkKeep (by assumption) (by assumption))))))); (try simp only [Act.put, List.setIfInBounds_toArray, List.set_cons_zero, List.set_cons_succ]))
      first | (refine quiet_neg (by rfl) ?_; simp only [Act.put, List.setIfInBounds_toArray, List.set_cons_zero, List.set_cons_succ]) | (refine quiet_ex (by rfl) ?_; apply Exists.intro; refine ⟨fun w0 hS => ?_, ?_⟩; (focus ((try dsimp only at hS); go_simp; (first | done | (with_reducible rfl) | (go_at_call 22; refine (of_any _ _ _ _ _).mono ?_; rintro e' w1 ⟨rfl, hbc⟩; refine ⟨rfl, ?_⟩; (try dsimp only); (first | (go_split_ands; (repeat' apply And.intro) <;> first | assumption | exact Below.drew (by assumption) | exact blkDrew (by assumption) | exact cellKeep (by assumption) (by assumption) | exact belowKeep (by assumption) (by assumption) | exact blkKeep (by assumption) (by assumption))))))); (try simp only [Act.put, List.setIfInBounds_toArray, List.set_cons_zero, List.set_cons_succ]))
      first | (refine quiet_neg (by rfl) ?_; simp only [Act.put, List.setIfInBounds_toArray, List.set_cons_zero, List.set_cons_succ]) | (refine quiet_ex (by rfl) ?_; apply Exists.intro; refine ⟨fun w0 hS => ?_, ?_⟩; (focus ((try dsimp only at hS); go_simp; (first | done | (with_reducible rfl) | (go_at_call 22; refine (of_any _ _ _ _ _).mono ?_; rintro e' w1 ⟨rfl, hbc⟩; refine ⟨rfl, ?_⟩; (try dsimp only); (first | (go_split_ands; (repeat' apply And.intro) <;> first | assumption | exact Below.drew (by assumption) | exact blkDrew (by assumption) | exact cellKeep (by assumption) (by assumption) | exact belowKeep (by assumption) (by assumption) | exact blkKeep (by assumption) (by assumption))))))); (try simp only [Act.put, List.setIfInBounds_toArray, List.set_cons_zero, List.set_cons_succ]))
      first | (refine quiet_neg (by rfl) ?_; simp only [Act.put, List.setIfInBounds_toArray, List.set_cons_zero, List.set_cons_succ]) | (refine quiet_ex (by rfl) ?_; apply Exists.intro; refine ⟨fun w0 hS => ?_, ?_⟩; (focus ((try dsimp only at hS); go_simp; (first | done | (with_reducible rfl) | (go_at_call 22; refine (of_any _ _ _ _ _).mono ?_; rintro e' w1 ⟨rfl, hbc⟩; refine ⟨rfl, ?_⟩; (try dsimp only); (first | (go_split_ands; (repeat' apply And.intro) <;> first | assumption | exact Below.drew (by assumption) | exact blkDrew (by assumption) | exact cellKeep (by assumption) (by assumption) | exact belowKeep (by assumption) (by assumption) | exact blkKeep (by assumption) (by assumption))))))); (try simp only [Act.put, List.setIfInBounds_toArray, List.set_cons_zero, List.set_cons_succ]))
      refine wpQuiet_nil ?_
      intro w' hS
      try dsimp only at hS
      obtain ⟨hb, b0, b2, b3, hrest⟩ := hS
      clear hrest
      go_wp2
      go_ret
      exact ⟨rfl, hb⟩

theorem walk (l e v a n : Int) (w : World) :
    Calls Try.prog 5 #[.agg #[.int .i64 l, .int .i64 e], .agg #[.int .i64 v, .int .i64 a], .int .i64 n] w fun e' w' => e' = .returned (.bool true) ∧ Below w.heap.size w w' := by
  by_cases c : 2000 < n
  · exact walk_far l e v a n c w
  · cases h : bOk v a l e
    · exact walk_bad l e v a n h (by omega) w
    · by_cases c1 : n < 1
      · exact walk_neg l e v a n h c1 w
      · obtain ⟨N, rfl⟩ := Int.eq_ofNat_of_zero_le (show 0 ≤ n by omega)
        exact walk_loop l e v a N h (by omega) (by omega) w

theorem own : ownKnob Try.prog.godebug = none := by kernel_rfl
theorem laidOut : laidOutB Try.prog = true := by kernel_rfl
theorem pl0 : plain Try.prog 6 35 = some [.inl .i64, .inl .i64] := by kernel_rfl
theorem pl1 : plain Try.prog 6 37 = some [.inl .i64, .inl .i64] := by kernel_rfl
set_option maxRecDepth 100000 in
theorem lifted (os : Os) (started : os.Started) (H : Type) (enc : TypeId × Value → H) :
    ReturnsInHanded {} Try.checked os 5 .any (Rows.bucketTicksSpec.pre6 enc Try.prog Try.f5 Rows.bucketTicksRow.domain false) (Rows.bucketTicksSpec.post enc Try.prog Try.f5 false true false false) := by
  refine returnsInHanded_of_change (C := Try.checked) own started (by kernel_rfl) Try.func5
    (ChangeSpec.witness6 (enc := enc) (C := Try.checked) false ⟨#[], #[.agg #[.int .i64 0, .int .i64 0], .agg #[.int .i64 0, .int .i64 0], .int .i64 0], []⟩ 8 (by kernel_rfl) (by kernel_rfl) (by kernel_rfl) (by kernel_rfl)) ?_
  intro W base args ds gs before hval0 hW hcnd _
  have hval : ∀ (j : Nat) t v, Try.f5.params[j]? = some t → args[j]? = some v → Value.okWide Try.prog W .any base t v := hval0
  have hW' := hW
  obtain ⟨p, q, hA0, hV, rfl, hfz, hnd⟩ := hW
  have hA : DataW.TrodAll enc Try.prog W 0 (fun _ => true) true Try.f5.params.toList args.toList ds p := hA0
  rw [Try.params5] at hA hval
  obtain ⟨v0, vs0, d0, ds0, p0, q0, hargs, rfl, rfl, h0, r0⟩ := trodAll_cons hA
  obtain ⟨v1, vs1, d1, ds1, p1, q1, rfl, rfl, rfl, h1, r1⟩ := trodAll_cons r0
  obtain ⟨v2, vs2, d2, ds2, p2, q2, rfl, rfl, rfl, h2, r2⟩ := trodAll_cons r1
  obtain ⟨rfl, rfl, rfl⟩ := trodAll_nil r2
  obtain rfl : args = #[v0, v1, v2] := by cases args; simp_all
  obtain ⟨rfl, rfl⟩ := trodVars_none hV
  have k0 := h0
  have lt0 : ∀ x ∈ p0, x.block < W.heap.size := by obtain ⟨m, hm⟩ := k0; exact DataW.trod_lt m _ _ _ hm
  obtain ⟨cs0, rfl, fit0⟩ := open_struct 6 pl0 Try.underlying35 (hval 0 35 v0 rfl rfl) h0
  simp only [fitsAll_cons, fitsAll_nil, lfFits] at fit0
  obtain ⟨_, _, rfl, ⟨a0_0, rfl, w0_0⟩, _, _, rfl, ⟨a0_1, rfl, w0_1⟩, rfl⟩ := fit0
  have k1 := h1
  have lt1 : ∀ x ∈ p1, x.block < W.heap.size := by obtain ⟨m, hm⟩ := k1; exact DataW.trod_lt m _ _ _ hm
  obtain ⟨cs1, rfl, fit1⟩ := open_struct 6 pl1 Try.underlying37 (hval 1 37 v1 rfl rfl) h1
  simp only [fitsAll_cons, fitsAll_nil, lfFits] at fit1
  obtain ⟨_, _, rfl, ⟨a1_0, rfl, w1_0⟩, _, _, rfl, ⟨a1_1, rfl, w1_1⟩, rfl⟩ := fit1
  obtain ⟨a2, rfl, rfl, rfl, w2⟩ := open_int Try.underlying3 (hval 2 3 v2 rfl rfl) h2
  clear hA0 hval0
  refine (walk a0_0 a0_1 a1_0 a1_1 a2 W).mono fun e W' ⟨he, bel⟩ => ?_
  subst he
  exact ⟨_, rfl, _, _, _, [], _, [], hW', trodAll_mk1 (shut_bool Try.underlying4 _), (trodAll_cons_mk (Below.trod laidOut (by kernel_rfl) (of_decide_eq_true (by kernel_rfl)) k0 bel lt0) (trodAll_cons_mk (Below.trod laidOut (by kernel_rfl) (of_decide_eq_true (by kernel_rfl)) k1 bel lt1) (trodAll_cons_mk (shut_int Try.underlying3 w2) trodAll_mk0))), rfl, bel.frame _, fun h => by cases h⟩

theorem over : Rows.bucketTicksRow.holds Try.pinned (OpenSpec.ofChange Rows.bucketTicksSpec) :=
  OpenClaim.holds_of_wide 5 Try.f5 rfl rfl rfl rfl rfl rfl rfl ⟨rfl, rfl, rfl, rfl, rfl⟩ rfl rfl rfl rfl rfl (by kernel_rfl) Try.func5 (by kernel_rfl)
    (of_decide_eq_true (by kernel_rfl)) (by unfold Func.isWrapper; first | (rw [if_pos (by decide +kernel)]; kernel_rfl) | (rw [if_neg (by decide +kernel)]; exact ⟨rfl, rfl⟩))
    (fun os started H enc _ => lifted os started H enc)

/-- The statement. -/
theorem proved : Rows.BucketTicksSaid := over
#print axioms proved
end Go.Proofs.Ythmbiddnpogolaa.bucketTicks
