/- Contracts: regs.Pack. -/
import Derived.Test.YthmbiddnpogolaaRegsPack
namespace Go.Proofs.Ythmbiddnpogolaa
open Go.ChangeShapes Go.WideShapes Go.ChangeAt Go.RowKit
set_option linter.unusedVariables false

set_option maxRecDepth 100000 in
set_option maxHeartbeats 1000000 in
theorem Pack_no (r s b o c way res m l1 e1 l2 e2 room heavy log : Int) (bk : Bool) (hr : r ≤ 9223372036854775807) (hb : b ≤ 9223372036854775807) (ho : o ≤ 9223372036854775807) (hc : c ≤ 9223372036854775807)
    (h : cfgOk r s b o c way res m l1 e1 l2 e2 room heavy log = false) (w : World) :
    Calls Try.prog 50 #[.agg #[.int .i64 r, .int .i64 s, .int .i64 b, .int .i64 o, .int .i64 c, .int .i64 way, .int .i64 res, .int .i64 m, .int .i64 l1, .int .i64 e1, .int .i64 l2, .int .i64 e2, .int .i64 room, .int .i64 heavy, .int .i64 log, .bool bk]] w
      fun e w' => e = .returned (.tuple #[.int .u64 0, .int .i64 22]) ∧ Below w.heap.size w w' := by
  go_enter Try.func50, Try.ntmps50
  go_wp2_with fail
  refine (cfgRight_any _ _ _ _ _ _ _ _ _ _ _ _ _ _ _ _ hr hb ho hc _).mono ?_; rw [h]; rintro e' w1 ⟨rfl, hb⟩
  obtain ⟨b0, hb⟩ := out1 hb
  go_wp2
  go_ret2
  exact ⟨rfl, hb⟩

set_option maxRecDepth 100000 in
set_option maxHeartbeats 1000000 in
theorem Pack_yes (M R S B O C W V : Nat) (l1 e1 l2 e2 room heavy log : Int) (bk : Bool) (hN : M < 65536 ∧ R < 65536 ∧ S < 65536 ∧ B < 65536 ∧ O < 65536 ∧ C < 65536 ∧ W < 65536 ∧ V < 65536)
    (h : cfgOk R S B O C W V M l1 e1 l2 e2 room heavy log = true) (w : World) :
    Calls Try.prog 50 #[.agg #[.int .i64 R, .int .i64 S, .int .i64 B, .int .i64 O, .int .i64 C, .int .i64 W, .int .i64 V, .int .i64 M, .int .i64 l1, .int .i64 e1, .int .i64 l2, .int .i64 e2, .int .i64 room, .int .i64 heavy, .int .i64 log, .bool bk]] w
      fun e w' => e = .returned (.tuple #[.int .u64 (P26.joinN (packF M R S B O C W V (if bk then 1 else 0))), .int .i64 0]) ∧ Below w.heap.size w w' := by
  obtain ⟨q, HQ⟩ : ∃ q : Nat, Hid (P26.joinN (packF M R S B O C W V (if bk then 1 else 0)) = q) := ⟨_, Lib.hid rfl⟩
  rw [HQ.out]
  go_enter Try.func50, Try.ntmps50
  go_wp2_with fail
  refine (cfgRight_any _ _ _ _ _ _ _ _ _ _ _ _ _ _ _ _ (by omega) (by omega) (by omega) (by omega) _).mono ?_; rw [h]; rintro e' w1 ⟨rfl, hb⟩
  obtain ⟨b0, hb⟩ := out1 hb
  obtain ⟨c_b0_0, c_b0_1, c_b0_2, c_b0_3, c_b0_4, c_b0_5, c_b0_6, c_b0_7, c_b0_8, c_b0_9, c_b0_10, c_b0_11, c_b0_12, c_b0_13, c_b0_14, c_b0_15, f_b0_0, f_b0_1, f_b0_2, f_b0_3, f_b0_4, f_b0_5, f_b0_6, f_b0_7, f_b0_8, f_b0_9, f_b0_10, f_b0_11, f_b0_12, f_b0_13, f_b0_14, f_b0_15⟩ := cells16 b0
  have y_b0 := lt_blk b0
  go_wp2_with fail
  refine (pack_any M R S B O C W V bk hN _).mono ?_; rw [HQ.out]; rintro e' w2 ⟨rfl, hb2⟩
  clear c_b0_0 f_b0_0 c_b0_1 f_b0_1 c_b0_2 f_b0_2 c_b0_3 f_b0_3 c_b0_4 f_b0_4 c_b0_5 f_b0_5 c_b0_6 f_b0_6 c_b0_7 f_b0_7 c_b0_8 f_b0_8 c_b0_9 f_b0_9 c_b0_10 f_b0_10 c_b0_11 f_b0_11 c_b0_12 f_b0_12 c_b0_13 f_b0_13 c_b0_14 f_b0_14 c_b0_15 f_b0_15 y_b0
  replace b0 := blkKeep b0 hb2
  replace hb := belowKeep hb hb2
  go_wp2
  go_ret2
  exact ⟨rfl, hb⟩

end Go.Proofs.Ythmbiddnpogolaa
