/- Contracts: a configuration's register: which configurations may be, packed, unpacked. -/
import Derived.Test.YthmbiddnpogolaaPart
import Derived.Test.YthmbiddnpogolaaGeom
import Derived.Test.YthmbiddnpogolaaBucket
namespace Go.Proofs.Ythmbiddnpogolaa
open Go.ChangeShapes Go.WideShapes Go.ChangeAt Go.RowKit
set_option linter.unusedVariables false

theorem rawRight_any (m : Int) (w : World) :
    Calls Try.prog 77 #[.int .i64 m] w fun e w' => e = .returned (.bool (decide (m = 1) || decide (m = 2))) ∧ w = w' := by
  by_cases h1 : m = 1
  · subst h1
    go_enter Try.func77, Try.ntmps77
    go_wp2
    go_ret
    exact ⟨rfl, rfl⟩
  · have q1 : (m == 1) = false := by simpa using h1
    go_enter Try.func77, Try.ntmps77
    go_wp2
    go_ret
    exact ⟨ret_bool (by rw [Bool.eq_iff_iff]; simp [h1]), rfl⟩

def rulesOk (l1 e1 l2 e2 room heavy : Int) : Bool := ruleOk l1 e1 && (ruleOk l2 e2 && (decide (1 ≤ room) && (decide (room ≤ 256) && (decide (1 ≤ heavy) && decide (heavy ≤ 65536)))))
theorem rulesRight_any (l1 e1 l2 e2 room heavy : Int) (w : World) :
    Calls Try.prog 78 #[.agg #[.int .i64 l1, .int .i64 e1, .int .i64 l2, .int .i64 e2, .int .i64 room, .int .i64 heavy]] w fun e w' => e = .returned (.bool (rulesOk l1 e1 l2 e2 room heavy)) ∧ Below w.heap.size w w' := by
  cases h0 : ruleOk l1 e1
  · go_enter Try.func78, Try.ntmps78
    go_wp2_with fail
    refine (rule_any _ _ _).mono ?_; rw [h0]; rintro e' w1 ⟨rfl, hb⟩
    obtain ⟨b0, hb⟩ := out1 hb
    obtain ⟨c_b0_0, c_b0_1, c_b0_2, c_b0_3, c_b0_4, c_b0_5, f_b0_0, f_b0_1, f_b0_2, f_b0_3, f_b0_4, f_b0_5⟩ := cells6 b0
    have y_b0 := lt_blk b0
    go_wp2
    go_ret
    exact ⟨ret_bool (by simp [rulesOk, *]), hb⟩
  · have hA := h0
    clear h0
    cases h0 : ruleOk l2 e2
    · skip
      go_enter Try.func78, Try.ntmps78
      go_wp2_with fail
      refine (rule_any _ _ _).mono ?_; rw [hA]; rintro e' w1 ⟨rfl, hb⟩
      obtain ⟨b0, hb⟩ := out1 hb
      obtain ⟨c_b0_0, c_b0_1, c_b0_2, c_b0_3, c_b0_4, c_b0_5, f_b0_0, f_b0_1, f_b0_2, f_b0_3, f_b0_4, f_b0_5⟩ := cells6 b0
      have y_b0 := lt_blk b0
      go_wp2_with fail
      refine (rule_any _ _ _).mono ?_; rw [h0]; rintro e' w2 ⟨rfl, hb2⟩
      clear c_b0_0 f_b0_0 c_b0_1 f_b0_1 c_b0_2 f_b0_2 c_b0_3 f_b0_3 c_b0_4 f_b0_4 c_b0_5 f_b0_5 y_b0
      replace b0 := blkKeep b0 hb2
      replace hb := belowKeep hb hb2
      obtain ⟨c_b0_0, c_b0_1, c_b0_2, c_b0_3, c_b0_4, c_b0_5, f_b0_0, f_b0_1, f_b0_2, f_b0_3, f_b0_4, f_b0_5⟩ := cells6 b0
      have y_b0 := lt_blk b0
      go_wp2
      go_ret
      exact ⟨ret_bool (by simp [rulesOk, *]), hb⟩
    · skip
      by_cases h1 : 1 ≤ room
      rotate_left
      · have q1 : decide (1 ≤ room) = false := by simpa using h1
        go_enter Try.func78, Try.ntmps78
        go_wp2_with fail
        refine (rule_any _ _ _).mono ?_; rw [hA]; rintro e' w1 ⟨rfl, hb⟩
        obtain ⟨b0, hb⟩ := out1 hb
        obtain ⟨c_b0_0, c_b0_1, c_b0_2, c_b0_3, c_b0_4, c_b0_5, f_b0_0, f_b0_1, f_b0_2, f_b0_3, f_b0_4, f_b0_5⟩ := cells6 b0
        have y_b0 := lt_blk b0
        go_wp2_with fail
        refine (rule_any _ _ _).mono ?_; rw [h0]; rintro e' w2 ⟨rfl, hb2⟩
        clear c_b0_0 f_b0_0 c_b0_1 f_b0_1 c_b0_2 f_b0_2 c_b0_3 f_b0_3 c_b0_4 f_b0_4 c_b0_5 f_b0_5 y_b0
        replace b0 := blkKeep b0 hb2
        replace hb := belowKeep hb hb2
        obtain ⟨c_b0_0, c_b0_1, c_b0_2, c_b0_3, c_b0_4, c_b0_5, f_b0_0, f_b0_1, f_b0_2, f_b0_3, f_b0_4, f_b0_5⟩ := cells6 b0
        have y_b0 := lt_blk b0
        go_wp2
        go_ret
        exact ⟨ret_bool (by simp [rulesOk, *]), hb⟩
      · have q1 : decide (1 ≤ room) = true := by simpa using h1
        by_cases h2 : room ≤ 256
        rotate_left
        · have q2 : decide (room ≤ 256) = false := by simpa using h2
          go_enter Try.func78, Try.ntmps78
          go_wp2_with fail
          refine (rule_any _ _ _).mono ?_; rw [hA]; rintro e' w1 ⟨rfl, hb⟩
          obtain ⟨b0, hb⟩ := out1 hb
          obtain ⟨c_b0_0, c_b0_1, c_b0_2, c_b0_3, c_b0_4, c_b0_5, f_b0_0, f_b0_1, f_b0_2, f_b0_3, f_b0_4, f_b0_5⟩ := cells6 b0
          have y_b0 := lt_blk b0
          go_wp2_with fail
          refine (rule_any _ _ _).mono ?_; rw [h0]; rintro e' w2 ⟨rfl, hb2⟩
          clear c_b0_0 f_b0_0 c_b0_1 f_b0_1 c_b0_2 f_b0_2 c_b0_3 f_b0_3 c_b0_4 f_b0_4 c_b0_5 f_b0_5 y_b0
          replace b0 := blkKeep b0 hb2
          replace hb := belowKeep hb hb2
          obtain ⟨c_b0_0, c_b0_1, c_b0_2, c_b0_3, c_b0_4, c_b0_5, f_b0_0, f_b0_1, f_b0_2, f_b0_3, f_b0_4, f_b0_5⟩ := cells6 b0
          have y_b0 := lt_blk b0
          go_wp2
          go_ret
          exact ⟨ret_bool (by simp [rulesOk, *]), hb⟩
        · have q2 : decide (room ≤ 256) = true := by simpa using h2
          by_cases h3 : 1 ≤ heavy
          rotate_left
          · have q3 : decide (1 ≤ heavy) = false := by simpa using h3
            go_enter Try.func78, Try.ntmps78
            go_wp2_with fail
            refine (rule_any _ _ _).mono ?_; rw [hA]; rintro e' w1 ⟨rfl, hb⟩
            obtain ⟨b0, hb⟩ := out1 hb
            obtain ⟨c_b0_0, c_b0_1, c_b0_2, c_b0_3, c_b0_4, c_b0_5, f_b0_0, f_b0_1, f_b0_2, f_b0_3, f_b0_4, f_b0_5⟩ := cells6 b0
            have y_b0 := lt_blk b0
            go_wp2_with fail
            refine (rule_any _ _ _).mono ?_; rw [h0]; rintro e' w2 ⟨rfl, hb2⟩
            clear c_b0_0 f_b0_0 c_b0_1 f_b0_1 c_b0_2 f_b0_2 c_b0_3 f_b0_3 c_b0_4 f_b0_4 c_b0_5 f_b0_5 y_b0
            replace b0 := blkKeep b0 hb2
            replace hb := belowKeep hb hb2
            obtain ⟨c_b0_0, c_b0_1, c_b0_2, c_b0_3, c_b0_4, c_b0_5, f_b0_0, f_b0_1, f_b0_2, f_b0_3, f_b0_4, f_b0_5⟩ := cells6 b0
            have y_b0 := lt_blk b0
            go_wp2
            go_ret
            exact ⟨ret_bool (by simp [rulesOk, *]), hb⟩
          · have q3 : decide (1 ≤ heavy) = true := by simpa using h3
            go_enter Try.func78, Try.ntmps78
            go_wp2_with fail
            refine (rule_any _ _ _).mono ?_; rw [hA]; rintro e' w1 ⟨rfl, hb⟩
            obtain ⟨b0, hb⟩ := out1 hb
            obtain ⟨c_b0_0, c_b0_1, c_b0_2, c_b0_3, c_b0_4, c_b0_5, f_b0_0, f_b0_1, f_b0_2, f_b0_3, f_b0_4, f_b0_5⟩ := cells6 b0
            have y_b0 := lt_blk b0
            go_wp2_with fail
            refine (rule_any _ _ _).mono ?_; rw [h0]; rintro e' w2 ⟨rfl, hb2⟩
            clear c_b0_0 f_b0_0 c_b0_1 f_b0_1 c_b0_2 f_b0_2 c_b0_3 f_b0_3 c_b0_4 f_b0_4 c_b0_5 f_b0_5 y_b0
            replace b0 := blkKeep b0 hb2
            replace hb := belowKeep hb hb2
            obtain ⟨c_b0_0, c_b0_1, c_b0_2, c_b0_3, c_b0_4, c_b0_5, f_b0_0, f_b0_1, f_b0_2, f_b0_3, f_b0_4, f_b0_5⟩ := cells6 b0
            have y_b0 := lt_blk b0
            go_wp2
            go_ret
            exact ⟨ret_bool (by simp [rulesOk, *]), hb⟩

def cfgOk (r s b o c way res m l1 e1 l2 e2 room heavy log : Int) : Bool :=
  layoutOk r s b o c way res && ((decide (m = 1) || decide (m = 2)) && (rulesOk l1 e1 l2 e2 room heavy && (decide (1 ≤ log) && decide (log ≤ 256))))

def packF (M R S B O C W V b : Nat) : List (Nat × Nat) := [(2, M), (4, R), (4, S), (5, B), (11, O), (7, C), (2, W), (7, V), (1, b)]
theorem packF_ok {M R S B O C W V b : Nat} (h : M < 65536 ∧ R < 65536 ∧ S < 65536 ∧ B < 65536 ∧ O < 65536 ∧ C < 65536 ∧ W < 65536 ∧ V < 65536 ∧ b < 65536) : fieldsOk (packF M R S B O C W V b) := by
  refine ⟨?_, by simp [packF, P26.wid]⟩
  intro f hf
  simp only [packF, List.mem_cons, List.not_mem_nil, or_false] at hf
  rcases hf with rfl | rfl | rfl | rfl | rfl | rfl | rfl | rfl | rfl <;> (constructor <;> simp <;> omega)

theorem packF_at {w : World} {g : Nat} {t : TypeId} {M R S B O C W V b : Nat} (h : w.heap[g]? = some (.cells #[.int .i64 2, .int .u64 M, .int .i64 4, .int .u64 R, .int .i64 4, .int .u64 S, .int .i64 5, .int .u64 B, .int .i64 11, .int .u64 O, .int .i64 7, .int .u64 C, .int .i64 2, .int .u64 W, .int .i64 7, .int .u64 V, .int .i64 1, .int .u64 b] t (0, 0))) :
    fieldsAt w g (packF M R S B O C W V b) := by
  intro i hi
  match i, hi with
  | 0, _ => exact ⟨cellBlk h rfl, cellBlk h rfl⟩
  | 1, _ => exact ⟨cellBlk h rfl, cellBlk h rfl⟩
  | 2, _ => exact ⟨cellBlk h rfl, cellBlk h rfl⟩
  | 3, _ => exact ⟨cellBlk h rfl, cellBlk h rfl⟩
  | 4, _ => exact ⟨cellBlk h rfl, cellBlk h rfl⟩
  | 5, _ => exact ⟨cellBlk h rfl, cellBlk h rfl⟩
  | 6, _ => exact ⟨cellBlk h rfl, cellBlk h rfl⟩
  | 7, _ => exact ⟨cellBlk h rfl, cellBlk h rfl⟩
  | 8, _ => exact ⟨cellBlk h rfl, cellBlk h rfl⟩

theorem packF_at' {w : World} {g : Nat} {t : TypeId} {M R S B O C W V b : Nat} {bi : Int} (hbi : bi = (b : Int)) (h : w.heap[g]? = some (.cells #[.int .i64 2, .int .u64 M, .int .i64 4, .int .u64 R, .int .i64 4, .int .u64 S, .int .i64 5, .int .u64 B, .int .i64 11, .int .u64 O, .int .i64 7, .int .u64 C, .int .i64 2, .int .u64 W, .int .i64 7, .int .u64 V, .int .i64 1, .int .u64 bi] t (0, 0))) :
    fieldsAt w g (packF M R S B O C W V b) := by
  subst hbi
  exact packF_at h

set_option maxRecDepth 100000 in
set_option maxHeartbeats 1000000 in
theorem pack_any (M R S B O C W V : Nat) (bk : Bool) (h : M < 65536 ∧ R < 65536 ∧ S < 65536 ∧ B < 65536 ∧ O < 65536 ∧ C < 65536 ∧ W < 65536 ∧ V < 65536) (w : World) :
    Calls Try.prog 75 #[.agg #[.int .i64 R, .int .i64 S, .int .i64 B, .int .i64 O, .int .i64 C, .int .i64 W, .int .i64 V], .int .i64 M, .bool bk] w
      fun e w' => e = .returned (.int .u64 (P26.joinN (packF M R S B O C W V (if bk then 1 else 0)))) ∧ Below w.heap.size w w' := by
  obtain ⟨h1, h2, h3, h4, h5, h6, h7, h8⟩ := h
  obtain ⟨q, HQ⟩ : ∃ q : Nat, Hid ((if bk = true then 1 else 0) = q) := ⟨_, Lib.hid rfl⟩
  have hq : q < 65536 := by have := HQ.out; cases bk <;> simp at this <;> omega
  have hqi : Hid ((if bk = true then (1 : Int) else 0) = (q : Int)) := by
    show _ = _
    have := HQ.out; cases bk <;> simp at this ⊢ <;> omega
  rw [HQ.out]
  have hok := packF_ok ⟨h1, h2, h3, h4, h5, h6, h7, h8, hq⟩
  go_enter Try.func75, Try.ntmps75
  go_wp2
  obtain ⟨b0, b1⟩ := blks2 w (.cells #[.int .i64 R, .int .i64 S, .int .i64 B, .int .i64 O, .int .i64 C, .int .i64 W, .int .i64 V] 100) (.cells #[.int .i64 R, .int .i64 S, .int .i64 B, .int .i64 O, .int .i64 C] 98)
  have hb := alloc2 w (.cells #[.int .i64 R, .int .i64 S, .int .i64 B, .int .i64 O, .int .i64 C, .int .i64 W, .int .i64 V] 100) (.cells #[.int .i64 R, .int .i64 S, .int .i64 B, .int .i64 O, .int .i64 C] 98)
  obtain ⟨c_b0_0, c_b0_1, c_b0_2, c_b0_3, c_b0_4, c_b0_5, c_b0_6, -, -, -, -, -, -, -⟩ := cells7 b0
  have y_b0 := lt_blk b0
  obtain ⟨c_b1_0, c_b1_1, c_b1_2, c_b1_3, c_b1_4, -, -, -, -, -⟩ := cells5 b1
  have y_b1 := lt_blk b1
  refine wp_region_class 34 (fun w' => Below w.heap.size w w' ∧ w'.heap[w.heap.size]? = some (.cells #[.int .i64 R, .int .i64 S, .int .i64 B, .int .i64 O, .int .i64 C, .int .i64 W, .int .i64 V] 100 (0, 0)) ∧ w'.heap[w.heap.size + 1]? = some (.cells #[.int .i64 R, .int .i64 S, .int .i64 B, .int .i64 O, .int .i64 C] 98 (0, 0)) ∧ w'.cell? ⟨w.heap.size, 0, none⟩ = some (.int .i64 R) ∧ w'.cell? ⟨w.heap.size, 1, none⟩ = some (.int .i64 S) ∧ w'.cell? ⟨w.heap.size, 2, none⟩ = some (.int .i64 B) ∧ w'.cell? ⟨w.heap.size, 3, none⟩ = some (.int .i64 O) ∧ w'.cell? ⟨w.heap.size, 4, none⟩ = some (.int .i64 C) ∧ w'.cell? ⟨w.heap.size, 5, none⟩ = some (.int .i64 W) ∧ w'.cell? ⟨w.heap.size, 6, none⟩ = some (.int .i64 V) ∧ w'.cell? ⟨w.heap.size + 1, 0, none⟩ = some (.int .i64 R) ∧ w'.cell? ⟨w.heap.size + 1, 1, none⟩ = some (.int .i64 S) ∧ w'.cell? ⟨w.heap.size + 1, 2, none⟩ = some (.int .i64 B) ∧ w'.cell? ⟨w.heap.size + 1, 3, none⟩ = some (.int .i64 O) ∧ w'.cell? ⟨w.heap.size + 1, 4, none⟩ = some (.int .i64 C)) (by kernel_rfl) (by kernel_rfl) ?_ ?_
  · (try dsimp only); (first | (go_split_ands; (repeat' apply And.intro) <;> first | assumption | exact Below.drew (by assumption) | exact blkDrew (by assumption) | exact cellKeep (by assumption) (by assumption) | exact belowKeep (by assumption) (by assumption) | exact blkKeep (by assumption) (by assumption)))
  simp only [List.take_succ_cons, List.take_zero, List.drop_succ_cons, List.drop_zero]
  first | (refine quiet_neg (by rfl) ?_; simp only [Act.put, List.setIfInBounds_toArray, List.set_cons_zero, List.set_cons_succ]) | (refine quiet_ex (by rfl) ?_; apply Exists.intro; refine ⟨fun w0 hS => ?_, ?_⟩; (focus ((try dsimp only at hS); go_simp; (first | done | (with_reducible rfl) | (go_at_call 92; refine (flag_any _ _).mono ?_; rw [hqi.out]; rintro e' w1 ⟨rfl, rfl⟩; refine ⟨rfl, ?_⟩; (try dsimp only); (first | (go_split_ands; (repeat' apply And.intro) <;> first | assumption | exact Below.drew (by assumption) | exact blkDrew (by assumption) | exact cellKeep (by assumption) (by assumption) | exact belowKeep (by assumption) (by assumption) | exact blkKeep (by assumption) (by assumption))))))); (try simp only [Act.put, List.setIfInBounds_toArray, List.set_cons_zero, List.set_cons_succ]))
  first | (refine quiet_neg (by rfl) ?_; simp only [Act.put, List.setIfInBounds_toArray, List.set_cons_zero, List.set_cons_succ]) | (refine quiet_ex (by rfl) ?_; apply Exists.intro; refine ⟨fun w0 hS => ?_, ?_⟩; (focus ((try dsimp only at hS); go_simp; (first | done | (with_reducible rfl) | (go_at_call 92; refine (flag_any _ _).mono ?_; rw [hqi.out]; rintro e' w1 ⟨rfl, rfl⟩; refine ⟨rfl, ?_⟩; (try dsimp only); (first | (go_split_ands; (repeat' apply And.intro) <;> first | assumption | exact Below.drew (by assumption) | exact blkDrew (by assumption) | exact cellKeep (by assumption) (by assumption) | exact belowKeep (by assumption) (by assumption) | exact blkKeep (by assumption) (by assumption))))))); (try simp only [Act.put, List.setIfInBounds_toArray, List.set_cons_zero, List.set_cons_succ]))
  first | (refine quiet_neg (by rfl) ?_; simp only [Act.put, List.setIfInBounds_toArray, List.set_cons_zero, List.set_cons_succ]) | (refine quiet_ex (by rfl) ?_; apply Exists.intro; refine ⟨fun w0 hS => ?_, ?_⟩; (focus ((try dsimp only at hS); go_simp; (first | done | (with_reducible rfl) | (go_at_call 92; refine (flag_any _ _).mono ?_; rw [hqi.out]; rintro e' w1 ⟨rfl, rfl⟩; refine ⟨rfl, ?_⟩; (try dsimp only); (first | (go_split_ands; (repeat' apply And.intro) <;> first | assumption | exact Below.drew (by assumption) | exact blkDrew (by assumption) | exact cellKeep (by assumption) (by assumption) | exact belowKeep (by assumption) (by assumption) | exact blkKeep (by assumption) (by assumption))))))); (try simp only [Act.put, List.setIfInBounds_toArray, List.set_cons_zero, List.set_cons_succ]))
  first | (refine quiet_neg (by rfl) ?_; simp only [Act.put, List.setIfInBounds_toArray, List.set_cons_zero, List.set_cons_succ]) | (refine quiet_ex (by rfl) ?_; apply Exists.intro; refine ⟨fun w0 hS => ?_, ?_⟩; (focus ((try dsimp only at hS); go_simp; (first | done | (with_reducible rfl) | (go_at_call 92; refine (flag_any _ _).mono ?_; rw [hqi.out]; rintro e' w1 ⟨rfl, rfl⟩; refine ⟨rfl, ?_⟩; (try dsimp only); (first | (go_split_ands; (repeat' apply And.intro) <;> first | assumption | exact Below.drew (by assumption) | exact blkDrew (by assumption) | exact cellKeep (by assumption) (by assumption) | exact belowKeep (by assumption) (by assumption) | exact blkKeep (by assumption) (by assumption))))))); (try simp only [Act.put, List.setIfInBounds_toArray, List.set_cons_zero, List.set_cons_succ]))
  first | (refine quiet_neg (by rfl) ?_; simp only [Act.put, List.setIfInBounds_toArray, List.set_cons_zero, List.set_cons_succ]) | (refine quiet_ex (by rfl) ?_; apply Exists.intro; refine ⟨fun w0 hS => ?_, ?_⟩; (focus ((try dsimp only at hS); go_simp; (first | done | (with_reducible rfl) | (go_at_call 92; refine (flag_any _ _).mono ?_; rw [hqi.out]; rintro e' w1 ⟨rfl, rfl⟩; refine ⟨rfl, ?_⟩; (try dsimp only); (first | (go_split_ands; (repeat' apply And.intro) <;> first | assumption | exact Below.drew (by assumption) | exact blkDrew (by assumption) | exact cellKeep (by assumption) (by assumption) | exact belowKeep (by assumption) (by assumption) | exact blkKeep (by assumption) (by assumption))))))); (try simp only [Act.put, List.setIfInBounds_toArray, List.set_cons_zero, List.set_cons_succ]))
  first | (refine quiet_neg (by rfl) ?_; simp only [Act.put, List.setIfInBounds_toArray, List.set_cons_zero, List.set_cons_succ]) | (refine quiet_ex (by rfl) ?_; apply Exists.intro; refine ⟨fun w0 hS => ?_, ?_⟩; (focus ((try dsimp only at hS); go_simp; (first | done | (with_reducible rfl) | (go_at_call 92; refine (flag_any _ _).mono ?_; rw [hqi.out]; rintro e' w1 ⟨rfl, rfl⟩; refine ⟨rfl, ?_⟩; (try dsimp only); (first | (go_split_ands; (repeat' apply And.intro) <;> first | assumption | exact Below.drew (by assumption) | exact blkDrew (by assumption) | exact cellKeep (by assumption) (by assumption) | exact belowKeep (by assumption) (by assumption) | exact blkKeep (by assumption) (by assumption))))))); (try simp only [Act.put, List.setIfInBounds_toArray, List.set_cons_zero, List.set_cons_succ]))
  first | (refine quiet_neg (by rfl) ?_; simp only [Act.put, List.setIfInBounds_toArray, List.set_cons_zero, List.set_cons_succ]) | (refine quiet_ex (by rfl) ?_; apply Exists.intro; refine ⟨fun w0 hS => ?_, ?_⟩; (focus ((try dsimp only at hS); go_simp; (first | done | (with_reducible rfl) | (go_at_call 92; refine (flag_any _ _).mono ?_; rw [hqi.out]; rintro e' w1 ⟨rfl, rfl⟩; refine ⟨rfl, ?_⟩; (try dsimp only); (first | (go_split_ands; (repeat' apply And.intro) <;> first | assumption | exact Below.drew (by assumption) | exact blkDrew (by assumption) | exact cellKeep (by assumption) (by assumption) | exact belowKeep (by assumption) (by assumption) | exact blkKeep (by assumption) (by assumption))))))); (try simp only [Act.put, List.setIfInBounds_toArray, List.set_cons_zero, List.set_cons_succ]))
  first | (refine quiet_neg (by rfl) ?_; simp only [Act.put, List.setIfInBounds_toArray, List.set_cons_zero, List.set_cons_succ]) | (refine quiet_ex (by rfl) ?_; apply Exists.intro; refine ⟨fun w0 hS => ?_, ?_⟩; (focus ((try dsimp only at hS); go_simp; (first | done | (with_reducible rfl) | (go_at_call 92; refine (flag_any _ _).mono ?_; rw [hqi.out]; rintro e' w1 ⟨rfl, rfl⟩; refine ⟨rfl, ?_⟩; (try dsimp only); (first | (go_split_ands; (repeat' apply And.intro) <;> first | assumption | exact Below.drew (by assumption) | exact blkDrew (by assumption) | exact cellKeep (by assumption) (by assumption) | exact belowKeep (by assumption) (by assumption) | exact blkKeep (by assumption) (by assumption))))))); (try simp only [Act.put, List.setIfInBounds_toArray, List.set_cons_zero, List.set_cons_succ]))
  first | (refine quiet_neg (by rfl) ?_; simp only [Act.put, List.setIfInBounds_toArray, List.set_cons_zero, List.set_cons_succ]) | (refine quiet_ex (by rfl) ?_; apply Exists.intro; refine ⟨fun w0 hS => ?_, ?_⟩; (focus ((try dsimp only at hS); go_simp; (first | done | (with_reducible rfl) | (go_at_call 92; refine (flag_any _ _).mono ?_; rw [hqi.out]; rintro e' w1 ⟨rfl, rfl⟩; refine ⟨rfl, ?_⟩; (try dsimp only); (first | (go_split_ands; (repeat' apply And.intro) <;> first | assumption | exact Below.drew (by assumption) | exact blkDrew (by assumption) | exact cellKeep (by assumption) (by assumption) | exact belowKeep (by assumption) (by assumption) | exact blkKeep (by assumption) (by assumption))))))); (try simp only [Act.put, List.setIfInBounds_toArray, List.set_cons_zero, List.set_cons_succ]))
  first | (refine quiet_neg (by rfl) ?_; simp only [Act.put, List.setIfInBounds_toArray, List.set_cons_zero, List.set_cons_succ]) | (refine quiet_ex (by rfl) ?_; apply Exists.intro; refine ⟨fun w0 hS => ?_, ?_⟩; (focus ((try dsimp only at hS); go_simp; (first | done | (with_reducible rfl) | (go_at_call 92; refine (flag_any _ _).mono ?_; rw [hqi.out]; rintro e' w1 ⟨rfl, rfl⟩; refine ⟨rfl, ?_⟩; (try dsimp only); (first | (go_split_ands; (repeat' apply And.intro) <;> first | assumption | exact Below.drew (by assumption) | exact blkDrew (by assumption) | exact cellKeep (by assumption) (by assumption) | exact belowKeep (by assumption) (by assumption) | exact blkKeep (by assumption) (by assumption))))))); (try simp only [Act.put, List.setIfInBounds_toArray, List.set_cons_zero, List.set_cons_succ]))
  first | (refine quiet_neg (by rfl) ?_; simp only [Act.put, List.setIfInBounds_toArray, List.set_cons_zero, List.set_cons_succ]) | (refine quiet_ex (by rfl) ?_; apply Exists.intro; refine ⟨fun w0 hS => ?_, ?_⟩; (focus ((try dsimp only at hS); go_simp; (first | done | (with_reducible rfl) | (go_at_call 92; refine (flag_any _ _).mono ?_; rw [hqi.out]; rintro e' w1 ⟨rfl, rfl⟩; refine ⟨rfl, ?_⟩; (try dsimp only); (first | (go_split_ands; (repeat' apply And.intro) <;> first | assumption | exact Below.drew (by assumption) | exact blkDrew (by assumption) | exact cellKeep (by assumption) (by assumption) | exact belowKeep (by assumption) (by assumption) | exact blkKeep (by assumption) (by assumption))))))); (try simp only [Act.put, List.setIfInBounds_toArray, List.set_cons_zero, List.set_cons_succ]))
  first | (refine quiet_neg (by rfl) ?_; simp only [Act.put, List.setIfInBounds_toArray, List.set_cons_zero, List.set_cons_succ]) | (refine quiet_ex (by rfl) ?_; apply Exists.intro; refine ⟨fun w0 hS => ?_, ?_⟩; (focus ((try dsimp only at hS); go_simp; (first | done | (with_reducible rfl) | (go_at_call 92; refine (flag_any _ _).mono ?_; rw [hqi.out]; rintro e' w1 ⟨rfl, rfl⟩; refine ⟨rfl, ?_⟩; (try dsimp only); (first | (go_split_ands; (repeat' apply And.intro) <;> first | assumption | exact Below.drew (by assumption) | exact blkDrew (by assumption) | exact cellKeep (by assumption) (by assumption) | exact belowKeep (by assumption) (by assumption) | exact blkKeep (by assumption) (by assumption))))))); (try simp only [Act.put, List.setIfInBounds_toArray, List.set_cons_zero, List.set_cons_succ]))
  first | (refine quiet_neg (by rfl) ?_; simp only [Act.put, List.setIfInBounds_toArray, List.set_cons_zero, List.set_cons_succ]) | (refine quiet_ex (by rfl) ?_; apply Exists.intro; refine ⟨fun w0 hS => ?_, ?_⟩; (focus ((try dsimp only at hS); go_simp; (first | done | (with_reducible rfl) | (go_at_call 92; refine (flag_any _ _).mono ?_; rw [hqi.out]; rintro e' w1 ⟨rfl, rfl⟩; refine ⟨rfl, ?_⟩; (try dsimp only); (first | (go_split_ands; (repeat' apply And.intro) <;> first | assumption | exact Below.drew (by assumption) | exact blkDrew (by assumption) | exact cellKeep (by assumption) (by assumption) | exact belowKeep (by assumption) (by assumption) | exact blkKeep (by assumption) (by assumption))))))); (try simp only [Act.put, List.setIfInBounds_toArray, List.set_cons_zero, List.set_cons_succ]))
  first | (refine quiet_neg (by rfl) ?_; simp only [Act.put, List.setIfInBounds_toArray, List.set_cons_zero, List.set_cons_succ]) | (refine quiet_ex (by rfl) ?_; apply Exists.intro; refine ⟨fun w0 hS => ?_, ?_⟩; (focus ((try dsimp only at hS); go_simp; (first | done | (with_reducible rfl) | (go_at_call 92; refine (flag_any _ _).mono ?_; rw [hqi.out]; rintro e' w1 ⟨rfl, rfl⟩; refine ⟨rfl, ?_⟩; (try dsimp only); (first | (go_split_ands; (repeat' apply And.intro) <;> first | assumption | exact Below.drew (by assumption) | exact blkDrew (by assumption) | exact cellKeep (by assumption) (by assumption) | exact belowKeep (by assumption) (by assumption) | exact blkKeep (by assumption) (by assumption))))))); (try simp only [Act.put, List.setIfInBounds_toArray, List.set_cons_zero, List.set_cons_succ]))
  first | (refine quiet_neg (by rfl) ?_; simp only [Act.put, List.setIfInBounds_toArray, List.set_cons_zero, List.set_cons_succ]) | (refine quiet_ex (by rfl) ?_; apply Exists.intro; refine ⟨fun w0 hS => ?_, ?_⟩; (focus ((try dsimp only at hS); go_simp; (first | done | (with_reducible rfl) | (go_at_call 92; refine (flag_any _ _).mono ?_; rw [hqi.out]; rintro e' w1 ⟨rfl, rfl⟩; refine ⟨rfl, ?_⟩; (try dsimp only); (first | (go_split_ands; (repeat' apply And.intro) <;> first | assumption | exact Below.drew (by assumption) | exact blkDrew (by assumption) | exact cellKeep (by assumption) (by assumption) | exact belowKeep (by assumption) (by assumption) | exact blkKeep (by assumption) (by assumption))))))); (try simp only [Act.put, List.setIfInBounds_toArray, List.set_cons_zero, List.set_cons_succ]))
  first | (refine quiet_neg (by rfl) ?_; simp only [Act.put, List.setIfInBounds_toArray, List.set_cons_zero, List.set_cons_succ]) | (refine quiet_ex (by rfl) ?_; apply Exists.intro; refine ⟨fun w0 hS => ?_, ?_⟩; (focus ((try dsimp only at hS); go_simp; (first | done | (with_reducible rfl) | (go_at_call 92; refine (flag_any _ _).mono ?_; rw [hqi.out]; rintro e' w1 ⟨rfl, rfl⟩; refine ⟨rfl, ?_⟩; (try dsimp only); (first | (go_split_ands; (repeat' apply And.intro) <;> first | assumption | exact Below.drew (by assumption) | exact blkDrew (by assumption) | exact cellKeep (by assumption) (by assumption) | exact belowKeep (by assumption) (by assumption) | exact blkKeep (by assumption) (by assumption))))))); (try simp only [Act.put, List.setIfInBounds_toArray, List.set_cons_zero, List.set_cons_succ]))
  first | (refine quiet_neg (by rfl) ?_; simp only [Act.put, List.setIfInBounds_toArray, List.set_cons_zero, List.set_cons_succ]) | (refine quiet_ex (by rfl) ?_; apply Exists.intro; refine ⟨fun w0 hS => ?_, ?_⟩; (focus ((try dsimp only at hS); go_simp; (first | done | (with_reducible rfl) | (go_at_call 92; refine (flag_any _ _).mono ?_; rw [hqi.out]; rintro e' w1 ⟨rfl, rfl⟩; refine ⟨rfl, ?_⟩; (try dsimp only); (first | (go_split_ands; (repeat' apply And.intro) <;> first | assumption | exact Below.drew (by assumption) | exact blkDrew (by assumption) | exact cellKeep (by assumption) (by assumption) | exact belowKeep (by assumption) (by assumption) | exact blkKeep (by assumption) (by assumption))))))); (try simp only [Act.put, List.setIfInBounds_toArray, List.set_cons_zero, List.set_cons_succ]))
  first | (refine quiet_neg (by rfl) ?_; simp only [Act.put, List.setIfInBounds_toArray, List.set_cons_zero, List.set_cons_succ]) | (refine quiet_ex (by rfl) ?_; apply Exists.intro; refine ⟨fun w0 hS => ?_, ?_⟩; (focus ((try dsimp only at hS); go_simp; (first | done | (with_reducible rfl) | (go_at_call 92; refine (flag_any _ _).mono ?_; rw [hqi.out]; rintro e' w1 ⟨rfl, rfl⟩; refine ⟨rfl, ?_⟩; (try dsimp only); (first | (go_split_ands; (repeat' apply And.intro) <;> first | assumption | exact Below.drew (by assumption) | exact blkDrew (by assumption) | exact cellKeep (by assumption) (by assumption) | exact belowKeep (by assumption) (by assumption) | exact blkKeep (by assumption) (by assumption))))))); (try simp only [Act.put, List.setIfInBounds_toArray, List.set_cons_zero, List.set_cons_succ]))
  first | (refine quiet_neg (by rfl) ?_; simp only [Act.put, List.setIfInBounds_toArray, List.set_cons_zero, List.set_cons_succ]) | (refine quiet_ex (by rfl) ?_; apply Exists.intro; refine ⟨fun w0 hS => ?_, ?_⟩; (focus ((try dsimp only at hS); go_simp; (first | done | (with_reducible rfl) | (go_at_call 92; refine (flag_any _ _).mono ?_; rw [hqi.out]; rintro e' w1 ⟨rfl, rfl⟩; refine ⟨rfl, ?_⟩; (try dsimp only); (first | (go_split_ands; (repeat' apply And.intro) <;> first | assumption | exact Below.drew (by assumption) | exact blkDrew (by assumption) | exact cellKeep (by assumption) (by assumption) | exact belowKeep (by assumption) (by assumption) | exact blkKeep (by assumption) (by assumption))))))); (try simp only [Act.put, List.setIfInBounds_toArray, List.set_cons_zero, List.set_cons_succ]))
  first | (refine quiet_neg (by rfl) ?_; simp only [Act.put, List.setIfInBounds_toArray, List.set_cons_zero, List.set_cons_succ]) | (refine quiet_ex (by rfl) ?_; apply Exists.intro; refine ⟨fun w0 hS => ?_, ?_⟩; (focus ((try dsimp only at hS); go_simp; (first | done | (with_reducible rfl) | (go_at_call 92; refine (flag_any _ _).mono ?_; rw [hqi.out]; rintro e' w1 ⟨rfl, rfl⟩; refine ⟨rfl, ?_⟩; (try dsimp only); (first | (go_split_ands; (repeat' apply And.intro) <;> first | assumption | exact Below.drew (by assumption) | exact blkDrew (by assumption) | exact cellKeep (by assumption) (by assumption) | exact belowKeep (by assumption) (by assumption) | exact blkKeep (by assumption) (by assumption))))))); (try simp only [Act.put, List.setIfInBounds_toArray, List.set_cons_zero, List.set_cons_succ]))
  first | (refine quiet_neg (by rfl) ?_; simp only [Act.put, List.setIfInBounds_toArray, List.set_cons_zero, List.set_cons_succ]) | (refine quiet_ex (by rfl) ?_; apply Exists.intro; refine ⟨fun w0 hS => ?_, ?_⟩; (focus ((try dsimp only at hS); go_simp; (first | done | (with_reducible rfl) | (go_at_call 92; refine (flag_any _ _).mono ?_; rw [hqi.out]; rintro e' w1 ⟨rfl, rfl⟩; refine ⟨rfl, ?_⟩; (try dsimp only); (first | (go_split_ands; (repeat' apply And.intro) <;> first | assumption | exact Below.drew (by assumption) | exact blkDrew (by assumption) | exact cellKeep (by assumption) (by assumption) | exact belowKeep (by assumption) (by assumption) | exact blkKeep (by assumption) (by assumption))))))); (try simp only [Act.put, List.setIfInBounds_toArray, List.set_cons_zero, List.set_cons_succ]))
  first | (refine quiet_neg (by rfl) ?_; simp only [Act.put, List.setIfInBounds_toArray, List.set_cons_zero, List.set_cons_succ]) | (refine quiet_ex (by rfl) ?_; apply Exists.intro; refine ⟨fun w0 hS => ?_, ?_⟩; (focus ((try dsimp only at hS); go_simp; (first | done | (with_reducible rfl) | (go_at_call 92; refine (flag_any _ _).mono ?_; rw [hqi.out]; rintro e' w1 ⟨rfl, rfl⟩; refine ⟨rfl, ?_⟩; (try dsimp only); (first | (go_split_ands; (repeat' apply And.intro) <;> first | assumption | exact Below.drew (by assumption) | exact blkDrew (by assumption) | exact cellKeep (by assumption) (by assumption) | exact belowKeep (by assumption) (by assumption) | exact blkKeep (by assumption) (by assumption))))))); (try simp only [Act.put, List.setIfInBounds_toArray, List.set_cons_zero, List.set_cons_succ]))
  first | (refine quiet_neg (by rfl) ?_; simp only [Act.put, List.setIfInBounds_toArray, List.set_cons_zero, List.set_cons_succ]) | (refine quiet_ex (by rfl) ?_; apply Exists.intro; refine ⟨fun w0 hS => ?_, ?_⟩; (focus ((try dsimp only at hS); go_simp; (first | done | (with_reducible rfl) | (go_at_call 92; refine (flag_any _ _).mono ?_; rw [hqi.out]; rintro e' w1 ⟨rfl, rfl⟩; refine ⟨rfl, ?_⟩; (try dsimp only); (first | (go_split_ands; (repeat' apply And.intro) <;> first | assumption | exact Below.drew (by assumption) | exact blkDrew (by assumption) | exact cellKeep (by assumption) (by assumption) | exact belowKeep (by assumption) (by assumption) | exact blkKeep (by assumption) (by assumption))))))); (try simp only [Act.put, List.setIfInBounds_toArray, List.set_cons_zero, List.set_cons_succ]))
  first | (refine quiet_neg (by rfl) ?_; simp only [Act.put, List.setIfInBounds_toArray, List.set_cons_zero, List.set_cons_succ]) | (refine quiet_ex (by rfl) ?_; apply Exists.intro; refine ⟨fun w0 hS => ?_, ?_⟩; (focus ((try dsimp only at hS); go_simp; (first | done | (with_reducible rfl) | (go_at_call 92; refine (flag_any _ _).mono ?_; rw [hqi.out]; rintro e' w1 ⟨rfl, rfl⟩; refine ⟨rfl, ?_⟩; (try dsimp only); (first | (go_split_ands; (repeat' apply And.intro) <;> first | assumption | exact Below.drew (by assumption) | exact blkDrew (by assumption) | exact cellKeep (by assumption) (by assumption) | exact belowKeep (by assumption) (by assumption) | exact blkKeep (by assumption) (by assumption))))))); (try simp only [Act.put, List.setIfInBounds_toArray, List.set_cons_zero, List.set_cons_succ]))
  first | (refine quiet_neg (by rfl) ?_; simp only [Act.put, List.setIfInBounds_toArray, List.set_cons_zero, List.set_cons_succ]) | (refine quiet_ex (by rfl) ?_; apply Exists.intro; refine ⟨fun w0 hS => ?_, ?_⟩; (focus ((try dsimp only at hS); go_simp; (first | done | (with_reducible rfl) | (go_at_call 92; refine (flag_any _ _).mono ?_; rw [hqi.out]; rintro e' w1 ⟨rfl, rfl⟩; refine ⟨rfl, ?_⟩; (try dsimp only); (first | (go_split_ands; (repeat' apply And.intro) <;> first | assumption | exact Below.drew (by assumption) | exact blkDrew (by assumption) | exact cellKeep (by assumption) (by assumption) | exact belowKeep (by assumption) (by assumption) | exact blkKeep (by assumption) (by assumption))))))); (try simp only [Act.put, List.setIfInBounds_toArray, List.set_cons_zero, List.set_cons_succ]))
  first | (refine quiet_neg (by rfl) ?_; simp only [Act.put, List.setIfInBounds_toArray, List.set_cons_zero, List.set_cons_succ]) | (refine quiet_ex (by rfl) ?_; apply Exists.intro; refine ⟨fun w0 hS => ?_, ?_⟩; (focus ((try dsimp only at hS); go_simp; (first | done | (with_reducible rfl) | (go_at_call 92; refine (flag_any _ _).mono ?_; rw [hqi.out]; rintro e' w1 ⟨rfl, rfl⟩; refine ⟨rfl, ?_⟩; (try dsimp only); (first | (go_split_ands; (repeat' apply And.intro) <;> first | assumption | exact Below.drew (by assumption) | exact blkDrew (by assumption) | exact cellKeep (by assumption) (by assumption) | exact belowKeep (by assumption) (by assumption) | exact blkKeep (by assumption) (by assumption))))))); (try simp only [Act.put, List.setIfInBounds_toArray, List.set_cons_zero, List.set_cons_succ]))
  first | (refine quiet_neg (by rfl) ?_; simp only [Act.put, List.setIfInBounds_toArray, List.set_cons_zero, List.set_cons_succ]) | (refine quiet_ex (by rfl) ?_; apply Exists.intro; refine ⟨fun w0 hS => ?_, ?_⟩; (focus ((try dsimp only at hS); go_simp; (first | done | (with_reducible rfl) | (go_at_call 92; refine (flag_any _ _).mono ?_; rw [hqi.out]; rintro e' w1 ⟨rfl, rfl⟩; refine ⟨rfl, ?_⟩; (try dsimp only); (first | (go_split_ands; (repeat' apply And.intro) <;> first | assumption | exact Below.drew (by assumption) | exact blkDrew (by assumption) | exact cellKeep (by assumption) (by assumption) | exact belowKeep (by assumption) (by assumption) | exact blkKeep (by assumption) (by assumption))))))); (try simp only [Act.put, List.setIfInBounds_toArray, List.set_cons_zero, List.set_cons_succ]))
  first | (refine quiet_neg (by rfl) ?_; simp only [Act.put, List.setIfInBounds_toArray, List.set_cons_zero, List.set_cons_succ]) | (refine quiet_ex (by rfl) ?_; apply Exists.intro; refine ⟨fun w0 hS => ?_, ?_⟩; (focus ((try dsimp only at hS); go_simp; (first | done | (with_reducible rfl) | (go_at_call 92; refine (flag_any _ _).mono ?_; rw [hqi.out]; rintro e' w1 ⟨rfl, rfl⟩; refine ⟨rfl, ?_⟩; (try dsimp only); (first | (go_split_ands; (repeat' apply And.intro) <;> first | assumption | exact Below.drew (by assumption) | exact blkDrew (by assumption) | exact cellKeep (by assumption) (by assumption) | exact belowKeep (by assumption) (by assumption) | exact blkKeep (by assumption) (by assumption))))))); (try simp only [Act.put, List.setIfInBounds_toArray, List.set_cons_zero, List.set_cons_succ]))
  first | (refine quiet_neg (by rfl) ?_; simp only [Act.put, List.setIfInBounds_toArray, List.set_cons_zero, List.set_cons_succ]) | (refine quiet_ex (by rfl) ?_; apply Exists.intro; refine ⟨fun w0 hS => ?_, ?_⟩; (focus ((try dsimp only at hS); go_simp; (first | done | (with_reducible rfl) | (go_at_call 92; refine (flag_any _ _).mono ?_; rw [hqi.out]; rintro e' w1 ⟨rfl, rfl⟩; refine ⟨rfl, ?_⟩; (try dsimp only); (first | (go_split_ands; (repeat' apply And.intro) <;> first | assumption | exact Below.drew (by assumption) | exact blkDrew (by assumption) | exact cellKeep (by assumption) (by assumption) | exact belowKeep (by assumption) (by assumption) | exact blkKeep (by assumption) (by assumption))))))); (try simp only [Act.put, List.setIfInBounds_toArray, List.set_cons_zero, List.set_cons_succ]))
  first | (refine quiet_neg (by rfl) ?_; simp only [Act.put, List.setIfInBounds_toArray, List.set_cons_zero, List.set_cons_succ]) | (refine quiet_ex (by rfl) ?_; apply Exists.intro; refine ⟨fun w0 hS => ?_, ?_⟩; (focus ((try dsimp only at hS); go_simp; (first | done | (with_reducible rfl) | (go_at_call 92; refine (flag_any _ _).mono ?_; rw [hqi.out]; rintro e' w1 ⟨rfl, rfl⟩; refine ⟨rfl, ?_⟩; (try dsimp only); (first | (go_split_ands; (repeat' apply And.intro) <;> first | assumption | exact Below.drew (by assumption) | exact blkDrew (by assumption) | exact cellKeep (by assumption) (by assumption) | exact belowKeep (by assumption) (by assumption) | exact blkKeep (by assumption) (by assumption))))))); (try simp only [Act.put, List.setIfInBounds_toArray, List.set_cons_zero, List.set_cons_succ]))
  first | (refine quiet_neg (by rfl) ?_; simp only [Act.put, List.setIfInBounds_toArray, List.set_cons_zero, List.set_cons_succ]) | (refine quiet_ex (by rfl) ?_; apply Exists.intro; refine ⟨fun w0 hS => ?_, ?_⟩; (focus ((try dsimp only at hS); go_simp; (first | done | (with_reducible rfl) | (go_at_call 92; refine (flag_any _ _).mono ?_; rw [hqi.out]; rintro e' w1 ⟨rfl, rfl⟩; refine ⟨rfl, ?_⟩; (try dsimp only); (first | (go_split_ands; (repeat' apply And.intro) <;> first | assumption | exact Below.drew (by assumption) | exact blkDrew (by assumption) | exact cellKeep (by assumption) (by assumption) | exact belowKeep (by assumption) (by assumption) | exact blkKeep (by assumption) (by assumption))))))); (try simp only [Act.put, List.setIfInBounds_toArray, List.set_cons_zero, List.set_cons_succ]))
  first | (refine quiet_neg (by rfl) ?_; simp only [Act.put, List.setIfInBounds_toArray, List.set_cons_zero, List.set_cons_succ]) | (refine quiet_ex (by rfl) ?_; apply Exists.intro; refine ⟨fun w0 hS => ?_, ?_⟩; (focus ((try dsimp only at hS); go_simp; (first | done | (with_reducible rfl) | (go_at_call 92; refine (flag_any _ _).mono ?_; rw [hqi.out]; rintro e' w1 ⟨rfl, rfl⟩; refine ⟨rfl, ?_⟩; (try dsimp only); (first | (go_split_ands; (repeat' apply And.intro) <;> first | assumption | exact Below.drew (by assumption) | exact blkDrew (by assumption) | exact cellKeep (by assumption) (by assumption) | exact belowKeep (by assumption) (by assumption) | exact blkKeep (by assumption) (by assumption))))))); (try simp only [Act.put, List.setIfInBounds_toArray, List.set_cons_zero, List.set_cons_succ]))
  first | (refine quiet_neg (by rfl) ?_; simp only [Act.put, List.setIfInBounds_toArray, List.set_cons_zero, List.set_cons_succ]) | (refine quiet_ex (by rfl) ?_; apply Exists.intro; refine ⟨fun w0 hS => ?_, ?_⟩; (focus ((try dsimp only at hS); go_simp; (first | done | (with_reducible rfl) | (go_at_call 92; refine (flag_any _ _).mono ?_; rw [hqi.out]; rintro e' w1 ⟨rfl, rfl⟩; refine ⟨rfl, ?_⟩; (try dsimp only); (first | (go_split_ands; (repeat' apply And.intro) <;> first | assumption | exact Below.drew (by assumption) | exact blkDrew (by assumption) | exact cellKeep (by assumption) (by assumption) | exact belowKeep (by assumption) (by assumption) | exact blkKeep (by assumption) (by assumption))))))); (try simp only [Act.put, List.setIfInBounds_toArray, List.set_cons_zero, List.set_cons_succ]))
  first | (refine quiet_neg (by rfl) ?_; simp only [Act.put, List.setIfInBounds_toArray, List.set_cons_zero, List.set_cons_succ]) | (refine quiet_ex (by rfl) ?_; apply Exists.intro; refine ⟨fun w0 hS => ?_, ?_⟩; (focus ((try dsimp only at hS); go_simp; (first | done | (with_reducible rfl) | (go_at_call 92; refine (flag_any _ _).mono ?_; rw [hqi.out]; rintro e' w1 ⟨rfl, rfl⟩; refine ⟨rfl, ?_⟩; (try dsimp only); (first | (go_split_ands; (repeat' apply And.intro) <;> first | assumption | exact Below.drew (by assumption) | exact blkDrew (by assumption) | exact cellKeep (by assumption) (by assumption) | exact belowKeep (by assumption) (by assumption) | exact blkKeep (by assumption) (by assumption))))))); (try simp only [Act.put, List.setIfInBounds_toArray, List.set_cons_zero, List.set_cons_succ]))
  refine wpQuiet_nil ?_
  intro w' hS
  try dsimp only at hS
  obtain ⟨hb, b0, b1, hrest⟩ := hS
  clear hrest
  go_wp2_with fail
  refine (join_any _ 9 (packF M R S B O C W V q) hok _ (by simp) (packF_at (blk0 _ _))).mono ?_
  rintro e' w8 ⟨rfl, hb8⟩
  go_wp2
  go_ret
  exact ⟨rfl, belowKeep (hb.alloc hb.size _) hb8⟩

set_option maxRecDepth 100000 in
set_option maxHeartbeats 1000000 in
theorem packed_any (M R S B O C W V : Nat) (bk : Bool) (h : M < 65536 ∧ R < 65536 ∧ S < 65536 ∧ B < 65536 ∧ O < 65536 ∧ C < 65536 ∧ W < 65536 ∧ V < 65536) (w : World) :
    Calls Try.prog 53 #[.agg #[.int .i64 R, .int .i64 S, .int .i64 B, .int .i64 O, .int .i64 C, .int .i64 W, .int .i64 V], .int .i64 M, .bool bk] w
      fun e w' => e = .returned (.int .u64 (P26.joinN (packF M R S B O C W V (if bk then 1 else 0)))) ∧ Below w.heap.size w w' := by
  obtain ⟨h1, h2, h3, h4, h5, h6, h7, h8⟩ := h
  cases bk
  · have hok := packF_ok (b := 0) ⟨h1, h2, h3, h4, h5, h6, h7, h8, by omega⟩
    have hs := (P26.join_sum _ hok.2).1
    go_enter Try.func53, Try.ntmps53
    go_wp2_with fail
    refine (Join_any _ 9 (packF M R S B O C W V 0) hok _ (by simp) (packF_at' (b := 0) (bi := 0) rfl (blks3 w _ _ _).2.2)).mono ?_
    rw [← hs]
    rintro e' w8 ⟨rfl, rfl⟩
    go_wp2
    go_ret
    exact ⟨rfl, alloc3 _ _ _ _⟩
  · have hok := packF_ok (b := 1) ⟨h1, h2, h3, h4, h5, h6, h7, h8, by omega⟩
    have hs := (P26.join_sum _ hok.2).1
    go_enter Try.func53, Try.ntmps53
    go_wp2_with fail
    refine (Join_any _ 9 (packF M R S B O C W V 1) hok _ (by simp) (packF_at' (b := 1) (bi := 1) rfl (blks3 w _ _ _).2.2)).mono ?_
    rw [← hs]
    rintro e' w8 ⟨rfl, rfl⟩
    go_wp2
    go_ret
    exact ⟨rfl, alloc3 _ _ _ _⟩

set_option maxRecDepth 100000 in
set_option maxHeartbeats 1000000 in
theorem cfgRight_any (r s b o c way res m l1 e1 l2 e2 room heavy log : Int) (bk : Bool) (hr : r ≤ 9223372036854775807) (hb : b ≤ 9223372036854775807) (ho : o ≤ 9223372036854775807) (hc : c ≤ 9223372036854775807) (w : World) :
    Calls Try.prog 51 #[.agg #[.int .i64 r, .int .i64 s, .int .i64 b, .int .i64 o, .int .i64 c, .int .i64 way, .int .i64 res, .int .i64 m, .int .i64 l1, .int .i64 e1, .int .i64 l2, .int .i64 e2, .int .i64 room, .int .i64 heavy, .int .i64 log, .bool bk]] w
      fun e w' => e = .returned (.bool (cfgOk r s b o c way res m l1 e1 l2 e2 room heavy log)) ∧ Below w.heap.size w w' := by
  cases hL : layoutOk r s b o c way res
  · go_enter Try.func51, Try.ntmps51
    go_wp2_with fail
    refine (lRight_any _ _ _ _ _ _ _ hr hb ho hc _).mono ?_; rw [hL]; rintro e' w1 ⟨rfl, hb⟩
    obtain ⟨b0, hb⟩ := out1 hb
    go_wp2
    go_ret
    exact ⟨ret_bool (by simp [cfgOk, hL]), hb⟩
  · cases hM : (decide (m = 1) || decide (m = 2))
    · go_enter Try.func51, Try.ntmps51
      go_wp2_with fail
      refine (lRight_any _ _ _ _ _ _ _ hr hb ho hc _).mono ?_; rw [hL]; rintro e' w1 ⟨rfl, hb⟩
      obtain ⟨b0, hb⟩ := out1 hb
      obtain ⟨c_b0_0, c_b0_1, c_b0_2, c_b0_3, c_b0_4, c_b0_5, c_b0_6, c_b0_7, c_b0_8, c_b0_9, c_b0_10, c_b0_11, c_b0_12, c_b0_13, c_b0_14, c_b0_15, f_b0_0, f_b0_1, f_b0_2, f_b0_3, f_b0_4, f_b0_5, f_b0_6, f_b0_7, f_b0_8, f_b0_9, f_b0_10, f_b0_11, f_b0_12, f_b0_13, f_b0_14, f_b0_15⟩ := cells16 b0
      have y_b0 := lt_blk b0
      go_wp2_with fail
      refine (rawRight_any _ _).mono ?_; rw [hM]; rintro e' w2 ⟨rfl, rfl⟩
      go_wp2
      go_ret
      exact ⟨ret_bool (by simp only [cfgOk, hL, hM]; simp), hb⟩
    · cases hU : rulesOk l1 e1 l2 e2 room heavy
      · go_enter Try.func51, Try.ntmps51
        go_wp2_with fail
        refine (lRight_any _ _ _ _ _ _ _ hr hb ho hc _).mono ?_; rw [hL]; rintro e' w1 ⟨rfl, hb⟩
        obtain ⟨b0, hb⟩ := out1 hb
        obtain ⟨c_b0_0, c_b0_1, c_b0_2, c_b0_3, c_b0_4, c_b0_5, c_b0_6, c_b0_7, c_b0_8, c_b0_9, c_b0_10, c_b0_11, c_b0_12, c_b0_13, c_b0_14, c_b0_15, f_b0_0, f_b0_1, f_b0_2, f_b0_3, f_b0_4, f_b0_5, f_b0_6, f_b0_7, f_b0_8, f_b0_9, f_b0_10, f_b0_11, f_b0_12, f_b0_13, f_b0_14, f_b0_15⟩ := cells16 b0
        have y_b0 := lt_blk b0
        go_wp2_with fail
        refine (rawRight_any _ _).mono ?_; rw [hM]; rintro e' w2 ⟨rfl, rfl⟩
        go_wp2_with fail
        refine (rulesRight_any _ _ _ _ _ _ _).mono ?_; rw [hU]; rintro e' w3 ⟨rfl, hb3⟩
        clear c_b0_0 f_b0_0 c_b0_1 f_b0_1 c_b0_2 f_b0_2 c_b0_3 f_b0_3 c_b0_4 f_b0_4 c_b0_5 f_b0_5 c_b0_6 f_b0_6 c_b0_7 f_b0_7 c_b0_8 f_b0_8 c_b0_9 f_b0_9 c_b0_10 f_b0_10 c_b0_11 f_b0_11 c_b0_12 f_b0_12 c_b0_13 f_b0_13 c_b0_14 f_b0_14 c_b0_15 f_b0_15 y_b0
        replace b0 := blkKeep b0 hb3
        replace hb := belowKeep hb hb3
        go_wp2
        go_ret
        exact ⟨ret_bool (by simp only [cfgOk, hL, hM, hU]; simp), hb⟩
      · skip
        by_cases h0 : 1 ≤ log
        rotate_left
        · have q0 : decide (1 ≤ log) = false := by simpa using h0
          go_enter Try.func51, Try.ntmps51
          go_wp2_with fail
          refine (lRight_any _ _ _ _ _ _ _ hr hb ho hc _).mono ?_; rw [hL]; rintro e' w1 ⟨rfl, hb⟩
          obtain ⟨b0, hb⟩ := out1 hb
          obtain ⟨c_b0_0, c_b0_1, c_b0_2, c_b0_3, c_b0_4, c_b0_5, c_b0_6, c_b0_7, c_b0_8, c_b0_9, c_b0_10, c_b0_11, c_b0_12, c_b0_13, c_b0_14, c_b0_15, f_b0_0, f_b0_1, f_b0_2, f_b0_3, f_b0_4, f_b0_5, f_b0_6, f_b0_7, f_b0_8, f_b0_9, f_b0_10, f_b0_11, f_b0_12, f_b0_13, f_b0_14, f_b0_15⟩ := cells16 b0
          have y_b0 := lt_blk b0
          go_wp2_with fail
          refine (rawRight_any _ _).mono ?_; rw [hM]; rintro e' w2 ⟨rfl, rfl⟩
          go_wp2_with fail
          refine (rulesRight_any _ _ _ _ _ _ _).mono ?_; rw [hU]; rintro e' w3 ⟨rfl, hb3⟩
          clear c_b0_0 f_b0_0 c_b0_1 f_b0_1 c_b0_2 f_b0_2 c_b0_3 f_b0_3 c_b0_4 f_b0_4 c_b0_5 f_b0_5 c_b0_6 f_b0_6 c_b0_7 f_b0_7 c_b0_8 f_b0_8 c_b0_9 f_b0_9 c_b0_10 f_b0_10 c_b0_11 f_b0_11 c_b0_12 f_b0_12 c_b0_13 f_b0_13 c_b0_14 f_b0_14 c_b0_15 f_b0_15 y_b0
          replace b0 := blkKeep b0 hb3
          replace hb := belowKeep hb hb3
          obtain ⟨c_b0_0, c_b0_1, c_b0_2, c_b0_3, c_b0_4, c_b0_5, c_b0_6, c_b0_7, c_b0_8, c_b0_9, c_b0_10, c_b0_11, c_b0_12, c_b0_13, c_b0_14, c_b0_15, f_b0_0, f_b0_1, f_b0_2, f_b0_3, f_b0_4, f_b0_5, f_b0_6, f_b0_7, f_b0_8, f_b0_9, f_b0_10, f_b0_11, f_b0_12, f_b0_13, f_b0_14, f_b0_15⟩ := cells16 b0
          have y_b0 := lt_blk b0
          go_wp2
          go_ret
          exact ⟨ret_bool (by simp only [cfgOk, hL, hM, hU]; rw [Bool.eq_iff_iff]; simp <;> omega), hb⟩
        · have q0 : decide (1 ≤ log) = true := by simpa using h0
          go_enter Try.func51, Try.ntmps51
          go_wp2_with fail
          refine (lRight_any _ _ _ _ _ _ _ hr hb ho hc _).mono ?_; rw [hL]; rintro e' w1 ⟨rfl, hb⟩
          obtain ⟨b0, hb⟩ := out1 hb
          obtain ⟨c_b0_0, c_b0_1, c_b0_2, c_b0_3, c_b0_4, c_b0_5, c_b0_6, c_b0_7, c_b0_8, c_b0_9, c_b0_10, c_b0_11, c_b0_12, c_b0_13, c_b0_14, c_b0_15, f_b0_0, f_b0_1, f_b0_2, f_b0_3, f_b0_4, f_b0_5, f_b0_6, f_b0_7, f_b0_8, f_b0_9, f_b0_10, f_b0_11, f_b0_12, f_b0_13, f_b0_14, f_b0_15⟩ := cells16 b0
          have y_b0 := lt_blk b0
          go_wp2_with fail
          refine (rawRight_any _ _).mono ?_; rw [hM]; rintro e' w2 ⟨rfl, rfl⟩
          go_wp2_with fail
          refine (rulesRight_any _ _ _ _ _ _ _).mono ?_; rw [hU]; rintro e' w3 ⟨rfl, hb3⟩
          clear c_b0_0 f_b0_0 c_b0_1 f_b0_1 c_b0_2 f_b0_2 c_b0_3 f_b0_3 c_b0_4 f_b0_4 c_b0_5 f_b0_5 c_b0_6 f_b0_6 c_b0_7 f_b0_7 c_b0_8 f_b0_8 c_b0_9 f_b0_9 c_b0_10 f_b0_10 c_b0_11 f_b0_11 c_b0_12 f_b0_12 c_b0_13 f_b0_13 c_b0_14 f_b0_14 c_b0_15 f_b0_15 y_b0
          replace b0 := blkKeep b0 hb3
          replace hb := belowKeep hb hb3
          obtain ⟨c_b0_0, c_b0_1, c_b0_2, c_b0_3, c_b0_4, c_b0_5, c_b0_6, c_b0_7, c_b0_8, c_b0_9, c_b0_10, c_b0_11, c_b0_12, c_b0_13, c_b0_14, c_b0_15, f_b0_0, f_b0_1, f_b0_2, f_b0_3, f_b0_4, f_b0_5, f_b0_6, f_b0_7, f_b0_8, f_b0_9, f_b0_10, f_b0_11, f_b0_12, f_b0_13, f_b0_14, f_b0_15⟩ := cells16 b0
          have y_b0 := lt_blk b0
          go_wp2
          go_ret
          exact ⟨ret_bool (by simp only [cfgOk, hL, hM, hU]; rw [Bool.eq_iff_iff]; simp <;> omega), hb⟩
end Go.Proofs.Ythmbiddnpogolaa
