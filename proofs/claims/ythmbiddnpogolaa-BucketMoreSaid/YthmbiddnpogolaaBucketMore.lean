/- A bucket that holds more, at one age, holds as much at least behind any steps; one that is filled more, too: for every input the Go function BucketMore returns true. -/
import Derived.Test.YthmbiddnpogolaaBucketPlain
import Derived.Test.YthmbiddnpogolaaOpen
import Derived.Lib.Hide
namespace Go.Proofs.Ythmbiddnpogolaa.bucketMore
open Go.ChangeShapes Go.WideShapes Go.ChangeAt Go.RowKit
set_option linter.unusedVariables false

set_option maxRecDepth 100000 in
set_option maxHeartbeats 1000000 in
theorem walk_out (l e v a m : Int) (ad : Option Addr) (len cap : Nat) (h : bOk v a l e = false ∨ bOk v a l e = true ∧ m < 0 ∨ bOk v a l e = true ∧ 0 ≤ m ∧ 60 < len) (hm : len ≤ maxLen) (w : World) :
    Calls Try.prog 8 #[.agg #[.int .i64 l, .int .i64 e], .agg #[.int .i64 v, .int .i64 a], .int .i64 m, .slice ad len cap] w fun e' w' => e' = .returned (.bool true) ∧ Below w.heap.size w w' := by
  unfold maxLen at hm
  rcases h with h | ⟨h, d⟩ | ⟨h, d, hl⟩
  all_goals
    (try have q : decide (60 < (len : Int)) = true := by simp; omega)
    go_enter Try.func8, Try.ntmps8
    go_wp2_with fail
    refine (anchor15_any _).mono ?_; rintro e' w1 ⟨rfl, hb⟩
    obtain ⟨b0, b1, hb⟩ := out2 hb
    obtain ⟨c_b0_0, c_b0_1, f_b0_0, f_b0_1⟩ := cells2 b0
    have y_b0 := lt_blk b0
    obtain ⟨c_b1_0, c_b1_1, f_b1_0, f_b1_1⟩ := cells2 b1
    have y_b1 := lt_blk b1
    go_wp2_with fail
    refine (bright_any _ _ _ _ _).mono ?_; rw [h]; rintro e' w2 ⟨rfl, hb2⟩
    clear c_b0_0 f_b0_0 c_b0_1 f_b0_1 y_b0 c_b1_0 f_b1_0 c_b1_1 f_b1_1 y_b1
    replace b0 := blkKeep b0 hb2
    replace b1 := blkKeep b1 hb2
    replace hb := belowKeep hb hb2
    go_wp2
    go_ret
    exact ⟨rfl, hb⟩

def at0 (ad : Option Addr) (w : World) (len : Nat) (zs : List Int) : Prop :=
  0 < len → ∃ b off, ad = some ⟨b, off, none⟩ ∧ b < w.heap.size ∧ (∀ i, i < len → w.cell? ⟨b, off + i, none⟩ = some (.int .i64 (zs.getD i 0))) ∧ ∀ i, i < len → zs.getD i 0 ≤ 9223372036854775807

theorem fill_ok {v a l e n : Int} (h : bOk v a l e = true) (hn : 0 ≤ n) : bOk (min (v + n) 65536) a l e = true := by
  obtain ⟨⟨⟨l0, l1⟩, e0, e1⟩, ⟨v0, v1⟩, a0, a1⟩ := bOk_iff.1 h
  exact bOk_iff.2 ⟨⟨⟨l0, l1⟩, e0, e1⟩, ⟨by omega, by omega⟩, a0, a1⟩
theorem tick_le {e v u a : Int} (h : v ≤ u) : BtickV e v a ≤ BtickV e u a := by
  unfold BtickV; split <;> (try split) <;> (try split) <;> omega

set_option maxRecDepth 100000 in
set_option maxHeartbeats 4000000 in
theorem walk_in (l e v0 a0 m : Int) (ad : Option Addr) (len cap : Nat) (zs : List Int) (h : bOk v0 a0 l e = true) (hm0 : 0 ≤ m) (hm : m ≤ 9223372036854775807) (hlen : len ≤ 60) (w : World) (hz : at0 ad w len zs) :
    Calls Try.prog 8 #[.agg #[.int .i64 l, .int .i64 e], .agg #[.int .i64 v0, .int .i64 a0], .int .i64 m, .slice ad len cap] w fun e' w' => e' = .returned (.bool true) ∧ Below w.heap.size w w' := by
  have q : decide (60 < (len : Int)) = false := by simp; omega
  have hok0 := fill_ok h hm0
  obtain ⟨u0, E0⟩ : ∃ M, Hid (min (v0 + m) 65536 = M) := ⟨_, rfl⟩
  obtain ⟨C, EC⟩ : ∃ C, Hid ((decide (v0 < l) && decide (l ≤ u0)) = C) := ⟨_, rfl⟩
  have hu0 : v0 ≤ u0 := by
    have := E0.out
    have := (bOk_iff.1 h).2.1
    omega
  rw [E0.out] at hok0
  go_enter Try.func8, Try.ntmps8
  go_wp2_with fail
  refine (anchor15_any _).mono ?_; rintro e' w1 ⟨rfl, hb⟩
  obtain ⟨b0, b1, hb⟩ := out2 hb
  obtain ⟨c_b0_0, c_b0_1, f_b0_0, f_b0_1⟩ := cells2 b0
  have y_b0 := lt_blk b0
  obtain ⟨c_b1_0, c_b1_1, f_b1_0, f_b1_1⟩ := cells2 b1
  have y_b1 := lt_blk b1
  go_wp2_with fail
  refine (bright_any _ _ _ _ _).mono ?_; rw [h]; rintro e' w2 ⟨rfl, hb2⟩
  clear c_b0_0 f_b0_0 c_b0_1 f_b0_1 y_b0 c_b1_0 f_b1_0 c_b1_1 f_b1_1 y_b1
  replace b0 := blkKeep b0 hb2
  replace b1 := blkKeep b1 hb2
  replace hb := belowKeep hb hb2
  obtain ⟨c_b0_0, c_b0_1, f_b0_0, f_b0_1⟩ := cells2 b0
  have y_b0 := lt_blk b0
  obtain ⟨c_b1_0, c_b1_1, f_b1_0, f_b1_1⟩ := cells2 b1
  have y_b1 := lt_blk b1
  go_wp2_with fail
  refine (bfill_good _ _ _ _ _ h hm0 hm _).mono ?_; rw [E0.out, EC.out]; rintro e' w3 ⟨rfl, hb3⟩
  clear c_b0_0 f_b0_0 c_b0_1 f_b0_1 y_b0 c_b1_0 f_b1_0 c_b1_1 f_b1_1 y_b1
  replace b0 := blkKeep b0 hb3
  replace b1 := blkKeep b1 hb3
  replace hb := belowKeep hb hb3
  have z0 := lt_blk b1
  replace b0 := blkPast b0 (.cells #[.int .i64 u0, .int .i64 a0] 37)
  replace b1 := blkPast b1 (.cells #[.int .i64 u0, .int .i64 a0] 37)
  have b2 := blk0 w3 (.cells #[.int .i64 u0, .int .i64 a0] 37)
  replace hb := hb.alloc hb.size (.cells #[.int .i64 u0, .int .i64 a0] 37)
  go_wp2
  generalize hw4 : w3.alloc (.cells #[.int .i64 u0, .int .i64 a0] 37) = w4 at *
  generalize hg : w3.heap.size = g at *
  clear hw4
  go_loopw [37] (fun i wr => ∃ (k : Nat) (v u a : Int), k ≤ len ∧ i = .int .i64 k ∧ v ≤ u ∧ bOk v a l e = true ∧ bOk u a l e = true ∧ Below w.heap.size w wr ∧
      wr.heap[w.heap.size]? = some (.cells #[.int .i64 l, .int .i64 e] 35 (0, 0)) ∧ wr.heap[w.heap.size + 1]? = some (.cells #[.int .i64 v, .int .i64 a] 37 (0, 0)) ∧ wr.heap[g]? = some (.cells #[.int .i64 u, .int .i64 a] 37 (0, 0)))
    (fun i _ => len - (intOf i).toNat)
  case atStart =>
    exact ⟨0, v0, u0, a0, Nat.zero_le _, rfl, hu0, h, hok0, hb, b0, b1, b2⟩
  case round =>
    obtain ⟨k, v, u, a, hk, rfl, hvu, hv, hu, hb, b0, b1, b2⟩ := hrel
    obtain ⟨-, ⟨v0', v1⟩, a0', a1⟩ := bOk_iff.1 hv
    by_cases hlt : k < len
    · obtain ⟨ba, off, rfl, hba, hcell, hmax⟩ := hz (by omega)
      have hc := (hb.cell (p := ⟨ba, off + k, none⟩) hba).trans (hcell k hlt)
      have hmx := hmax k hlt
      generalize zs.getD k 0 = z at hc hmx
      clear hcell hmax
      by_cases hneg : z < 0
      · have t1 := tick_ok hv
        have t2 := tick_ok hu
        have t3 := tick_le (e := e) (a := a) hvu
        obtain ⟨V, E1⟩ : ∃ M, Hid (BtickV e v a = M) := ⟨_, rfl⟩
        obtain ⟨U, E2⟩ : ∃ M, Hid (BtickV e u a = M) := ⟨_, rfl⟩
        obtain ⟨A, E3⟩ : ∃ M, Hid (BtickA e a = M) := ⟨_, rfl⟩
        rw [E1.out, E3.out] at t1
        rw [E2.out, E3.out] at t2
        rw [E1.out, E2.out] at t3
        have T1 := Lib.hid t1
        have T2 := Lib.hid t2
        clear t1 t2
        obtain ⟨c_b0_0, c_b0_1, -, -⟩ := cells2 b0
        have y_b0 := lt_blk b0
        obtain ⟨c_b1_0, c_b1_1, -, -⟩ := cells2 b1
        have y_b1 := lt_blk b1
        obtain ⟨c_b2_0, c_b2_1, -, -⟩ := cells2 b2
        have y_b2 := lt_blk b2
        go_wp2
        refine wp_region_class 6 (fun w' => Below w.heap.size w w' ∧ w'.heap[w.heap.size]? = some (.cells #[.int .i64 l, .int .i64 e] 35 (0, 0)) ∧ w'.heap[w.heap.size + 1]? = some (.cells #[.int .i64 v, .int .i64 a] 37 (0, 0)) ∧ w'.heap[g]? = some (.cells #[.int .i64 u, .int .i64 a] 37 (0, 0)) ∧ w'.cell? ⟨w.heap.size, 0, none⟩ = some (.int .i64 l) ∧ w'.cell? ⟨w.heap.size, 1, none⟩ = some (.int .i64 e) ∧ w'.cell? ⟨w.heap.size + 1, 0, none⟩ = some (.int .i64 v) ∧ w'.cell? ⟨w.heap.size + 1, 1, none⟩ = some (.int .i64 a) ∧ w'.cell? ⟨g, 0, none⟩ = some (.int .i64 u) ∧ w'.cell? ⟨g, 1, none⟩ = some (.int .i64 a)) (by kernel_rfl) (by kernel_rfl) ?_ ?_
        · (try dsimp only); (first | (go_split_ands; (repeat' apply And.intro) <;> first | assumption | exact Below.drew (by assumption) | exact blkDrew (by assumption) | exact cellKeep (by assumption) (by assumption) | exact belowKeep (by assumption) (by assumption) | exact blkKeep (by assumption) (by assumption)))
        simp only [List.take_succ_cons, List.take_zero, List.drop_succ_cons, List.drop_zero]
        first | (refine quiet_neg (by rfl) ?_; simp only [Act.put, List.setIfInBounds_toArray, List.set_cons_zero, List.set_cons_succ]) | (refine quiet_ex (by rfl) ?_; apply Exists.intro; refine ⟨fun w0 hS => ?_, ?_⟩; (focus ((try dsimp only at hS); go_simp; (first | done | (with_reducible rfl) | (go_at_call 27; refine (btick_ok _ _ _ _ (by first | exact hv | exact hu) _).mono ?_; (first | rw [E1.out, E3.out] | rw [E2.out, E3.out]); rintro e' w1 ⟨rfl, hbc⟩; refine ⟨rfl, ?_⟩; (try dsimp only); (first | (go_split_ands; (repeat' apply And.intro) <;> first | assumption | exact Below.drew (by assumption) | exact blkDrew (by assumption) | exact cellKeep (by assumption) (by assumption) | exact belowKeep (by assumption) (by assumption) | exact blkKeep (by assumption) (by assumption))))))); (try simp only [Act.put, List.setIfInBounds_toArray, List.set_cons_zero, List.set_cons_succ]))
        first | (refine quiet_neg (by rfl) ?_; simp only [Act.put, List.setIfInBounds_toArray, List.set_cons_zero, List.set_cons_succ]) | (refine quiet_ex (by rfl) ?_; apply Exists.intro; refine ⟨fun w0 hS => ?_, ?_⟩; (focus ((try dsimp only at hS); go_simp; (first | done | (with_reducible rfl) | (go_at_call 27; refine (btick_ok _ _ _ _ (by first | exact hv | exact hu) _).mono ?_; (first | rw [E1.out, E3.out] | rw [E2.out, E3.out]); rintro e' w1 ⟨rfl, hbc⟩; refine ⟨rfl, ?_⟩; (try dsimp only); (first | (go_split_ands; (repeat' apply And.intro) <;> first | assumption | exact Below.drew (by assumption) | exact blkDrew (by assumption) | exact cellKeep (by assumption) (by assumption) | exact belowKeep (by assumption) (by assumption) | exact blkKeep (by assumption) (by assumption))))))); (try simp only [Act.put, List.setIfInBounds_toArray, List.set_cons_zero, List.set_cons_succ]))
        first | (refine quiet_neg (by rfl) ?_; simp only [Act.put, List.setIfInBounds_toArray, List.set_cons_zero, List.set_cons_succ]) | (refine quiet_ex (by rfl) ?_; apply Exists.intro; refine ⟨fun w0 hS => ?_, ?_⟩; (focus ((try dsimp only at hS); go_simp; (first | done | (with_reducible rfl) | (go_at_call 27; refine (btick_ok _ _ _ _ (by first | exact hv | exact hu) _).mono ?_; (first | rw [E1.out, E3.out] | rw [E2.out, E3.out]); rintro e' w1 ⟨rfl, hbc⟩; refine ⟨rfl, ?_⟩; (try dsimp only); (first | (go_split_ands; (repeat' apply And.intro) <;> first | assumption | exact Below.drew (by assumption) | exact blkDrew (by assumption) | exact cellKeep (by assumption) (by assumption) | exact belowKeep (by assumption) (by assumption) | exact blkKeep (by assumption) (by assumption))))))); (try simp only [Act.put, List.setIfInBounds_toArray, List.set_cons_zero, List.set_cons_succ]))
        first | (refine quiet_neg (by rfl) ?_; simp only [Act.put, List.setIfInBounds_toArray, List.set_cons_zero, List.set_cons_succ]) | (refine quiet_ex (by rfl) ?_; apply Exists.intro; refine ⟨fun w0 hS => ?_, ?_⟩; (focus ((try dsimp only at hS); go_simp; (first | done | (with_reducible rfl) | (go_at_call 27; refine (btick_ok _ _ _ _ (by first | exact hv | exact hu) _).mono ?_; (first | rw [E1.out, E3.out] | rw [E2.out, E3.out]); rintro e' w1 ⟨rfl, hbc⟩; refine ⟨rfl, ?_⟩; (try dsimp only); (first | (go_split_ands; (repeat' apply And.intro) <;> first | assumption | exact Below.drew (by assumption) | exact blkDrew (by assumption) | exact cellKeep (by assumption) (by assumption) | exact belowKeep (by assumption) (by assumption) | exact blkKeep (by assumption) (by assumption))))))); (try simp only [Act.put, List.setIfInBounds_toArray, List.set_cons_zero, List.set_cons_succ]))
        first | (refine quiet_neg (by rfl) ?_; simp only [Act.put, List.setIfInBounds_toArray, List.set_cons_zero, List.set_cons_succ]) | (refine quiet_ex (by rfl) ?_; apply Exists.intro; refine ⟨fun w0 hS => ?_, ?_⟩; (focus ((try dsimp only at hS); go_simp; (first | done | (with_reducible rfl) | (go_at_call 27; refine (btick_ok _ _ _ _ (by first | exact hv | exact hu) _).mono ?_; (first | rw [E1.out, E3.out] | rw [E2.out, E3.out]); rintro e' w1 ⟨rfl, hbc⟩; refine ⟨rfl, ?_⟩; (try dsimp only); (first | (go_split_ands; (repeat' apply And.intro) <;> first | assumption | exact Below.drew (by assumption) | exact blkDrew (by assumption) | exact cellKeep (by assumption) (by assumption) | exact belowKeep (by assumption) (by assumption) | exact blkKeep (by assumption) (by assumption))))))); (try simp only [Act.put, List.setIfInBounds_toArray, List.set_cons_zero, List.set_cons_succ]))
        first | (refine quiet_neg (by rfl) ?_; simp only [Act.put, List.setIfInBounds_toArray, List.set_cons_zero, List.set_cons_succ]) | (refine quiet_ex (by rfl) ?_; apply Exists.intro; refine ⟨fun w0 hS => ?_, ?_⟩; (focus ((try dsimp only at hS); go_simp; (first | done | (with_reducible rfl) | (go_at_call 27; refine (btick_ok _ _ _ _ (by first | exact hv | exact hu) _).mono ?_; (first | rw [E1.out, E3.out] | rw [E2.out, E3.out]); rintro e' w1 ⟨rfl, hbc⟩; refine ⟨rfl, ?_⟩; (try dsimp only); (first | (go_split_ands; (repeat' apply And.intro) <;> first | assumption | exact Below.drew (by assumption) | exact blkDrew (by assumption) | exact cellKeep (by assumption) (by assumption) | exact belowKeep (by assumption) (by assumption) | exact blkKeep (by assumption) (by assumption))))))); (try simp only [Act.put, List.setIfInBounds_toArray, List.set_cons_zero, List.set_cons_succ]))
        refine wpQuiet_nil ?_
        intro w' hS
        try dsimp only at hS
        obtain ⟨hb, b0, b1, b2, hrest⟩ := hS
        clear hrest
        have z2 := lt_blk b2
        obtain ⟨c_b0_0, c_b0_1, f_b0_0, f_b0_1⟩ := cells2 b0
        have y_b0 := lt_blk b0
        obtain ⟨c_b1_0, c_b1_1, f_b1_0, f_b1_1⟩ := cells2 b1
        have y_b1 := lt_blk b1
        obtain ⟨c_b2_0, c_b2_1, f_b2_0, f_b2_1⟩ := cells2 b2
        have y_b2 := lt_blk b2
        go_wp2_with fail
        refine (bright_any _ _ _ _ _).mono ?_; rw [T1.out]; rintro e' w7 ⟨rfl, hb7⟩
        clear c_b0_0 f_b0_0 c_b0_1 f_b0_1 y_b0 c_b1_0 f_b1_0 c_b1_1 f_b1_1 y_b1 c_b2_0 f_b2_0 c_b2_1 f_b2_1 y_b2
        replace b0 := blkKeep (put2o (put2o b0 (g := w.heap.size + 1) (by omega) (.int .i64 V) (.int .i64 A)) (g := g) (by omega) (.int .i64 U) (.int .i64 A)) hb7
        replace b1 := blkKeep (put2o (put2 b1 (.int .i64 V) (.int .i64 A)) (g := g) (by omega) (.int .i64 U) (.int .i64 A)) hb7
        replace b2 := blkKeep (put2 (put2o b2 (g := w.heap.size + 1) (by omega) (.int .i64 V) (.int .i64 A)) (.int .i64 U) (.int .i64 A)) hb7
        replace hb := belowKeep (put2b (put2b hb (g := w.heap.size + 1) (by omega) (.int .i64 V) (.int .i64 A)) (g := g) (by omega) (.int .i64 U) (.int .i64 A)) hb7
        obtain ⟨c_b0_0, c_b0_1, f_b0_0, f_b0_1⟩ := cells2 b0
        have y_b0 := lt_blk b0
        obtain ⟨c_b1_0, c_b1_1, f_b1_0, f_b1_1⟩ := cells2 b1
        have y_b1 := lt_blk b1
        obtain ⟨c_b2_0, c_b2_1, f_b2_0, f_b2_1⟩ := cells2 b2
        have y_b2 := lt_blk b2
        go_wp2_with fail
        refine (bright_any _ _ _ _ _).mono ?_; rw [T2.out]; rintro e' w8 ⟨rfl, hb8⟩
        clear c_b0_0 f_b0_0 c_b0_1 f_b0_1 y_b0 c_b1_0 f_b1_0 c_b1_1 f_b1_1 y_b1 c_b2_0 f_b2_0 c_b2_1 f_b2_1 y_b2
        replace b0 := blkKeep b0 hb8
        replace b1 := blkKeep b1 hb8
        replace b2 := blkKeep b2 hb8
        replace hb := belowKeep hb hb8
        obtain ⟨c_b0_0, c_b0_1, f_b0_0, f_b0_1⟩ := cells2 b0
        have y_b0 := lt_blk b0
        obtain ⟨c_b1_0, c_b1_1, f_b1_0, f_b1_1⟩ := cells2 b1
        have y_b1 := lt_blk b1
        obtain ⟨c_b2_0, c_b2_1, f_b2_0, f_b2_1⟩ := cells2 b2
        have y_b2 := lt_blk b2
        go_wp2
        go_roundw
        case rel => exact ⟨k + 1, V, U, A, by omega, by go_num, t3, T1.out, T2.out, hb, b0, b1, b2⟩
        case measure => simp [intOf]; omega
      · have hz0 : 0 ≤ z := by omega
        have t1 := fill_ok hv hz0
        have t2 := fill_ok hu hz0
        have t3 : min (v + z) 65536 ≤ min (u + z) 65536 := by omega
        obtain ⟨V, E1⟩ : ∃ M, Hid (min (v + z) 65536 = M) := ⟨_, rfl⟩
        obtain ⟨U, E2⟩ : ∃ M, Hid (min (u + z) 65536 = M) := ⟨_, rfl⟩
        obtain ⟨C1, F1⟩ : ∃ M, Hid ((decide (v < l) && decide (l ≤ V)) = M) := ⟨_, rfl⟩
        obtain ⟨C2, F2⟩ : ∃ M, Hid ((decide (u < l) && decide (l ≤ U)) = M) := ⟨_, rfl⟩
        rw [E1.out] at t1
        rw [E2.out] at t2
        rw [E1.out, E2.out] at t3
        have T1 := Lib.hid t1
        have T2 := Lib.hid t2
        clear t1 t2
        obtain ⟨c_b0_0, c_b0_1, f_b0_0, f_b0_1⟩ := cells2 b0
        have y_b0 := lt_blk b0
        obtain ⟨c_b1_0, c_b1_1, f_b1_0, f_b1_1⟩ := cells2 b1
        have y_b1 := lt_blk b1
        obtain ⟨c_b2_0, c_b2_1, f_b2_0, f_b2_1⟩ := cells2 b2
        have y_b2 := lt_blk b2
        go_wp2_with fail
        refine (bfill_good _ _ _ _ _ hv hz0 hmx _).mono ?_; rw [E1.out, F1.out]; rintro e' w6 ⟨rfl, hb6⟩
        clear c_b0_0 f_b0_0 c_b0_1 f_b0_1 y_b0 c_b1_0 f_b1_0 c_b1_1 f_b1_1 y_b1 c_b2_0 f_b2_0 c_b2_1 f_b2_1 y_b2
        replace b0 := blkKeep b0 hb6
        replace b1 := blkKeep b1 hb6
        replace b2 := blkKeep b2 hb6
        replace hb := belowKeep hb hb6
        obtain ⟨c_b0_0, c_b0_1, f_b0_0, f_b0_1⟩ := cells2 b0
        have y_b0 := lt_blk b0
        obtain ⟨c_b1_0, c_b1_1, f_b1_0, f_b1_1⟩ := cells2 b1
        have y_b1 := lt_blk b1
        obtain ⟨c_b2_0, c_b2_1, f_b2_0, f_b2_1⟩ := cells2 b2
        have y_b2 := lt_blk b2
        go_wp2_with fail
        refine (bfill_good _ _ _ _ _ hu hz0 hmx _).mono ?_; rw [E2.out, F2.out]; rintro e' w7 ⟨rfl, hb7⟩
        clear c_b0_0 f_b0_0 c_b0_1 f_b0_1 y_b0 c_b1_0 f_b1_0 c_b1_1 f_b1_1 y_b1 c_b2_0 f_b2_0 c_b2_1 f_b2_1 y_b2
        have z3 := lt_blk b2
        replace b0 := blkKeep (put2o b0 (g := w.heap.size + 1) (by omega) (.int .i64 V) (.int .i64 a)) hb7
        replace b2 := blkKeep (put2o b2 (g := w.heap.size + 1) (by omega) (.int .i64 V) (.int .i64 a)) hb7
        replace b1 := blkKeep (put2 b1 (.int .i64 V) (.int .i64 a)) hb7
        replace hb := belowKeep (put2b hb (g := w.heap.size + 1) (by omega) (.int .i64 V) (.int .i64 a)) hb7
        obtain ⟨c_b0_0, c_b0_1, f_b0_0, f_b0_1⟩ := cells2 b0
        have y_b0 := lt_blk b0
        obtain ⟨c_b1_0, c_b1_1, f_b1_0, f_b1_1⟩ := cells2 b1
        have y_b1 := lt_blk b1
        obtain ⟨c_b2_0, c_b2_1, f_b2_0, f_b2_1⟩ := cells2 b2
        have y_b2 := lt_blk b2
        go_wp2_with fail
        refine (bright_any _ _ _ _ _).mono ?_; rw [T1.out]; rintro e' w8 ⟨rfl, hb8⟩
        clear c_b0_0 f_b0_0 c_b0_1 f_b0_1 y_b0 c_b1_0 f_b1_0 c_b1_1 f_b1_1 y_b1 c_b2_0 f_b2_0 c_b2_1 f_b2_1 y_b2
        replace b0 := blkKeep (put2o b0 (g := g) (by omega) (.int .i64 U) (.int .i64 a)) hb8
        replace b1 := blkKeep (put2o b1 (g := g) (by omega) (.int .i64 U) (.int .i64 a)) hb8
        replace b2 := blkKeep (put2 b2 (.int .i64 U) (.int .i64 a)) hb8
        replace hb := belowKeep (put2b hb (g := g) (by omega) (.int .i64 U) (.int .i64 a)) hb8
        obtain ⟨c_b0_0, c_b0_1, f_b0_0, f_b0_1⟩ := cells2 b0
        have y_b0 := lt_blk b0
        obtain ⟨c_b1_0, c_b1_1, f_b1_0, f_b1_1⟩ := cells2 b1
        have y_b1 := lt_blk b1
        obtain ⟨c_b2_0, c_b2_1, f_b2_0, f_b2_1⟩ := cells2 b2
        have y_b2 := lt_blk b2
        go_wp2_with fail
        refine (bright_any _ _ _ _ _).mono ?_; rw [T2.out]; rintro e' w9 ⟨rfl, hb9⟩
        clear c_b0_0 f_b0_0 c_b0_1 f_b0_1 y_b0 c_b1_0 f_b1_0 c_b1_1 f_b1_1 y_b1 c_b2_0 f_b2_0 c_b2_1 f_b2_1 y_b2
        replace b0 := blkKeep b0 hb9
        replace b1 := blkKeep b1 hb9
        replace b2 := blkKeep b2 hb9
        replace hb := belowKeep hb hb9
        obtain ⟨c_b0_0, c_b0_1, f_b0_0, f_b0_1⟩ := cells2 b0
        have y_b0 := lt_blk b0
        obtain ⟨c_b1_0, c_b1_1, f_b1_0, f_b1_1⟩ := cells2 b1
        have y_b1 := lt_blk b1
        obtain ⟨c_b2_0, c_b2_1, f_b2_0, f_b2_1⟩ := cells2 b2
        have y_b2 := lt_blk b2
        go_wp2
        go_roundw
        case rel => exact ⟨k + 1, V, U, a, by omega, by go_num, t3, T1.out, T2.out, hb, b0, b1, b2⟩
        case measure => simp [intOf]; omega
    · obtain rfl : k = len := by omega
      obtain ⟨c_b0_0, c_b0_1, f_b0_0, f_b0_1⟩ := cells2 b0
      have y_b0 := lt_blk b0
      obtain ⟨c_b1_0, c_b1_1, f_b1_0, f_b1_1⟩ := cells2 b1
      have y_b1 := lt_blk b1
      obtain ⟨c_b2_0, c_b2_1, f_b2_0, f_b2_1⟩ := cells2 b2
      have y_b2 := lt_blk b2
      go_wp2
      go_ret
      exact ⟨rfl, hb⟩

theorem walk (l e v a m : Int) (hm : m ≤ 9223372036854775807) (ad : Option Addr) (len cap : Nat) (rows : List (List Value)) (hl : len ≤ cap) (hc : cap ≤ maxLen) (w : World) (hr : rowsAt w [.inl .i64] ad len rows) :
    Calls Try.prog 8 #[.agg #[.int .i64 l, .int .i64 e], .agg #[.int .i64 v, .int .i64 a], .int .i64 m, .slice ad len cap] w fun e' w' => e' = .returned (.bool true) ∧ Below w.heap.size w w' := by
  cases h : bOk v a l e
  · exact walk_out l e v a m ad len cap (Or.inl h) (by omega) w
  · by_cases h0 : m < 0
    · exact walk_out l e v a m ad len cap (Or.inr (Or.inl ⟨h, h0⟩)) (by omega) w
    · by_cases h6 : 60 < len
      · exact walk_out l e v a m ad len cap (Or.inr (Or.inr ⟨h, by omega, h6⟩)) (by omega) w
      · by_cases hp : 0 < len
        · obtain ⟨b, off, zs, h1, h2, h3, h4, h5⟩ := ints_of_rows hr hp
          exact walk_in l e v a m ad len cap zs h (by omega) hm (by omega) w (fun _ => ⟨b, off, h1, h2, h4, fun i hi => (h5 i hi).2⟩)
        · exact walk_in l e v a m ad len cap [] h (by omega) hm (by omega) w (fun h' => absurd h' hp)

theorem own : ownKnob Try.prog.godebug = none := by kernel_rfl
theorem laidOut : laidOutB Try.prog = true := by kernel_rfl
theorem pl0 : plain Try.prog 6 35 = some [.inl .i64, .inl .i64] := by kernel_rfl
theorem pl1 : plain Try.prog 6 37 = some [.inl .i64, .inl .i64] := by kernel_rfl
theorem pl3 : plain Try.prog 6 3 = some [.inl .i64] := by kernel_rfl
theorem ce3 : Try.prog.cellsOf 3 = 1 := by kernel_rfl
set_option maxRecDepth 100000 in
theorem lifted (os : Os) (started : os.Started) (H : Type) (enc : TypeId × Value → H) :
    ReturnsInHanded {} Try.checked os 8 .any (Rows.bucketMoreSpec.pre6 enc Try.prog Try.f8 Rows.bucketMoreRow.domain false) (Rows.bucketMoreSpec.post enc Try.prog Try.f8 false true false false) := by
  refine returnsInHanded_of_change (C := Try.checked) own started (by kernel_rfl) Try.func8
    (ChangeSpec.witness6 (enc := enc) (C := Try.checked) false ⟨#[], #[.agg #[.int .i64 0, .int .i64 0], .agg #[.int .i64 0, .int .i64 0], .int .i64 0, .slice none 0 0], []⟩ 8 (by kernel_rfl) (by kernel_rfl) (by kernel_rfl) (by kernel_rfl)) ?_
  intro W base args ds gs before hval0 hW hcnd _
  have hval : ∀ (j : Nat) t v, Try.f8.params[j]? = some t → args[j]? = some v → Value.okWide Try.prog W .any base t v := hval0
  have hW' := hW
  obtain ⟨p, q, hA0, hV, rfl, hfz, hnd⟩ := hW
  have hA : DataW.TrodAll enc Try.prog W 0 (fun _ => true) true Try.f8.params.toList args.toList ds p := hA0
  rw [Try.params8] at hA hval
  obtain ⟨v0, vs0, d0, ds0, p0, q0, hargs, rfl, rfl, h0, r0⟩ := trodAll_cons hA
  obtain ⟨v1, vs1, d1, ds1, p1, q1, rfl, rfl, rfl, h1, r1⟩ := trodAll_cons r0
  obtain ⟨v2, vs2, d2, ds2, p2, q2, rfl, rfl, rfl, h2, r2⟩ := trodAll_cons r1
  obtain ⟨v3, vs3, d3, ds3, p3, q3, rfl, rfl, rfl, h3, r3⟩ := trodAll_cons r2
  obtain ⟨rfl, rfl, rfl⟩ := trodAll_nil r3
  obtain rfl : args = #[v0, v1, v2, v3] := by cases args; simp_all
  obtain ⟨rfl, rfl⟩ := trodVars_none hV
  have k0 := h0
  have lt0 : ∀ x ∈ p0, x.block < W.heap.size := by obtain ⟨m, hm⟩ := k0; exact DataW.trod_lt m _ _ _ hm
  obtain ⟨cs0, rfl, fit0⟩ := open_struct 6 pl0 Try.underlying35 (hval 0 35 v0 rfl rfl) h0
  simp only [fitsAll_cons, fitsAll_nil, lfFits] at fit0
  obtain ⟨_, _, rfl, ⟨a0_0, rfl, w0_0⟩, _, _, rfl, ⟨a0_1, rfl, w0_1⟩, rfl⟩ := fit0
  have k1 := h1
  have lt1 : ∀ x ∈ p1, x.block < W.heap.size := by obtain ⟨m, hm⟩ := k1; exact DataW.trod_lt m _ _ _ hm
  obtain ⟨cs1, rfl, fit1⟩ := open_struct 6 pl1 Try.underlying37 (hval 1 37 v1 rfl rfl) h1
  simp only [fitsAll_cons, fitsAll_nil, lfFits] at fit1
  obtain ⟨_, _, rfl, ⟨a1_0, rfl, w1_0⟩, _, _, rfl, ⟨a1_1, rfl, w1_1⟩, rfl⟩ := fit1
  obtain ⟨a2, rfl, rfl, rfl, w2⟩ := open_int Try.underlying3 (hval 2 3 v2 rfl rfl) h2
  have k3 := h3
  have lt3 : ∀ x ∈ p3, x.block < W.heap.size := by obtain ⟨m, hm⟩ := k3; exact DataW.trod_lt m _ _ _ hm
  obtain ⟨a3, len3, cap3, rows3, rfl, hl3, hm3, hr3⟩ := open_slice_plain 6 Try.underlying51 pl3 (ce3.trans rfl) (hval 3 51 v3 rfl rfl) h3
  clear hA0 hval0
  refine (walk a0_0 a0_1 a1_0 a1_1 a2 (wf_i64 w2).2 a3 len3 cap3 rows3 hl3 hm3 W hr3).mono fun e W' ⟨he, bel⟩ => ?_
  subst he
  exact ⟨_, rfl, _, _, _, [], _, [], hW', trodAll_mk1 (shut_bool Try.underlying4 _), (trodAll_cons_mk (Below.trod laidOut (by kernel_rfl) (of_decide_eq_true (by kernel_rfl)) k0 bel lt0) (trodAll_cons_mk (Below.trod laidOut (by kernel_rfl) (of_decide_eq_true (by kernel_rfl)) k1 bel lt1) (trodAll_cons_mk (shut_int Try.underlying3 w2) (trodAll_cons_mk (Below.trod laidOut (by kernel_rfl) (of_decide_eq_true (by kernel_rfl)) k3 bel lt3) trodAll_mk0)))), rfl, bel.frame _, fun h => by cases h⟩

theorem over : Rows.bucketMoreRow.holds Try.pinned (OpenSpec.ofChange Rows.bucketMoreSpec) :=
  OpenClaim.holds_of_wide 8 Try.f8 rfl rfl rfl rfl rfl rfl rfl ⟨rfl, rfl, rfl, rfl, rfl⟩ rfl rfl rfl rfl rfl (by kernel_rfl) Try.func8 (by kernel_rfl)
    (of_decide_eq_true (by kernel_rfl)) (by unfold Func.isWrapper; first | (rw [if_pos (by decide +kernel)]; kernel_rfl) | (rw [if_neg (by decide +kernel)]; exact ⟨rfl, rfl⟩))
    (fun os started H enc _ => lifted os started H enc)

/-- The statement. -/
theorem proved : Rows.BucketMoreSaid := over
#print axioms proved
end Go.Proofs.Ythmbiddnpogolaa.bucketMore
