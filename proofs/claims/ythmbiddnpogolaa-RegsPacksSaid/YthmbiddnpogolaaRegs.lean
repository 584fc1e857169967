/- Contracts of the fields of a word (regs.Get, regs.Put, the reference's Field and Power): each returns what the plain functions of Plain26 give. -/
import Derived.Test.YthmbiddnpogolaaBase
import Derived.Test.YthmbiddnpogolaaPlain26
import Derived.WalkKit
import Derived.ProofKit
import Derived.OpenShut
import Derived.WalkLawsBesides
import Derived.WalkSpells
import Derived.Laws.BitsAllLaws
namespace Go.Proofs.Ythmbiddnpogolaa
open Go.ChangeShapes Go.WideShapes Go.ChangeAt Go.RowKit


def rightB (a n : Int) : Bool := decide (0 ≤ a ∧ 1 ≤ n ∧ a ≤ 64 ∧ n ≤ 64 - a)
theorem rightB_nat {a n : Int} (h : rightB a n = true) : ∃ A N : Nat, a = A ∧ n = N ∧ 1 ≤ N ∧ A + N ≤ 64 := by
  have h2 : 0 ≤ a ∧ 1 ≤ n ∧ a ≤ 64 ∧ n ≤ 64 - a := by simpa [rightB] using h
  exact ⟨a.toNat, n.toNat, by omega, by omega, by omega, by omega⟩

theorem right_any (a n : Int) (w : World) :
    Calls Try.prog 56 #[.int .i64 a, .int .i64 n] w fun e w' => e = .returned (.bool (rightB a n)) ∧ w = w' := by
  go_enter Try.func56, Try.ntmps56
  go_wp2
  all_goals (go_ret; exact ⟨ret_bool (by rw [Bool.eq_iff_iff]; simp [rightB]; try omega), rfl⟩)

theorem ones_eq (n : Int) (h0 : 1 ≤ n) (h1 : n ≤ 64) : (18446744073709551615 : Int) / 2 ^ (64 - n).toNat = 2 ^ n.toNat - 1 := by
  obtain ⟨k, rfl⟩ := Int.eq_ofNat_of_zero_le (show 0 ≤ n by omega)
  have hk : (64 - (k : Int)).toNat = 64 - k := by omega
  rw [hk, Int.toNat_natCast]
  have h : 1 ≤ k ∧ k ≤ 64 := by omega
  have : ∀ k : Fin 65, 1 ≤ k.val → (18446744073709551615 : Int) / 2 ^ (64 - k.val) = 2 ^ k.val - 1 := by decide +kernel
  exact this ⟨k, by omega⟩ h.1

theorem ones_any (n : Int) (h0 : 1 ≤ n) (h1 : n ≤ 64) (w : World) :
    Calls Try.prog 57 #[.int .i64 n] w fun e w' => e = .returned (.int .u64 (2 ^ n.toNat - 1)) ∧ w = w' := by
  go_enter Try.func57, Try.ntmps57
  go_wp2
  go_ret
  exact ⟨ret_u64 (ones_eq n h0 h1), rfl⟩

theorem get_eq (X A N : Nat) (hX : X < 18446744073709551616) (hN : N ≤ 64) : bits BinOp.and IntKind.u64 ((X : Int) / 2 ^ (A : Int).toNat) (2 ^ (N : Int).toNat - 1) = (P26.getV X A N : Int) := by
  have e1 : ((X : Int) / 2 ^ (A : Int).toNat) = ((X / 2 ^ A : Nat) : Int) := by simp
  have hp := Nat.two_pow_pos N
  have e2 : ((2 : Int) ^ (N : Int).toNat - 1) = ((2 ^ N - 1 : Nat) : Int) := by
    rw [Int.ofNat_sub hp]; simp
  have hle : 2 ^ N ≤ 2 ^ 64 := Nat.pow_le_pow_right (by omega) hN
  rw [e1, e2, u64_and_nat _ _ (Nat.lt_of_le_of_lt (Nat.div_le_self _ _) hX) (by omega), Nat.and_two_pow_sub_one_eq_mod]
  rfl

theorem put_eq (X A N V : Nat) (hX : X < 18446744073709551616) (hN : A + N ≤ 64) (hV : V < 2 ^ N) :
    bits BinOp.or IntKind.u64 (bits BinOp.andNot IntKind.u64 (X : Int) (IntKind.u64.wrap ((2 ^ (N : Int).toNat - 1) * 2 ^ (A : Int).toNat))) (IntKind.u64.wrap ((V : Int) * 2 ^ (A : Int).toNat)) = (P26.putV X A N V : Int) := by
  have hp := Nat.two_pow_pos N
  have e2 : ((2 : Int) ^ (N : Int).toNat - 1) * 2 ^ (A : Int).toNat = (((2 ^ N - 1) * 2 ^ A : Nat) : Int) := by
    rw [Int.natCast_mul, Int.ofNat_sub hp]; simp
  have e3 : (V : Int) * 2 ^ (A : Int).toNat = ((V * 2 ^ A : Nat) : Int) := by simp
  have hle : 2 ^ N * 2 ^ A ≤ 2 ^ 64 := by rw [← Nat.pow_add]; exact Nat.pow_le_pow_right (by omega) (by omega)
  have l1 : (2 ^ N - 1) * 2 ^ A < 18446744073709551616 := by
    have := Nat.mul_lt_mul_of_pos_right (show 2 ^ N - 1 < 2 ^ N by omega) (Nat.two_pow_pos A); omega
  have l2 : V * 2 ^ A < 18446744073709551616 := by
    have := Nat.mul_lt_mul_of_pos_right hV (Nat.two_pow_pos A); omega
  have e4 : ((((2 ^ N - 1) * 2 ^ A : Nat) : Int) % 18446744073709551616) = (((2 ^ N - 1) * 2 ^ A : Nat) : Int) := by
    generalize (2 ^ N - 1) * 2 ^ A = t at *; omega
  have e5 : (((V * 2 ^ A : Nat) : Int) % 18446744073709551616) = ((V * 2 ^ A : Nat) : Int) := by
    generalize V * 2 ^ A = t at *; omega
  rw [e2, e3, IntKind.wrap_u64, IntKind.wrap_u64, e4, e5, u64_andNot_nat _ _ hX l1, u64_or_nat _ _ (Nat.lt_of_le_of_lt Nat.and_le_left hX) l2]
  rfl

theorem get_no (x a n : Int) (h : rightB a n = false) (w : World) :
    Calls Try.prog 16 #[.int .u64 x, .int .i64 a, .int .i64 n] w fun e w' => e = .returned (.tuple #[.int .u64 0, .int .i64 12]) ∧ w = w' := by
  go_enter Try.func16, Try.ntmps16
  go_wp2_with (go_at_call 56; refine (right_any _ _ _).mono ?_; rintro e w' ⟨rfl, rfl⟩)
  go_ret2
  exact ⟨rfl, rfl⟩

theorem get_yes (X A N : Nat) (hX : X < 18446744073709551616) (hN : 1 ≤ N) (hAN : A + N ≤ 64) (w : World) :
    Calls Try.prog 16 #[.int .u64 X, .int .i64 A, .int .i64 N] w fun e w' => e = .returned (.tuple #[.int .u64 (P26.getV X A N), .int .i64 0]) ∧ w = w' := by
  have h : rightB A N = true := by simp [rightB]; omega
  have h0 : (0 : Int) ≤ (A : Int) := by omega
  have h1 : (A : Int) ≤ 63 := by omega
  go_enter Try.func16, Try.ntmps16
  go_wp2_with (first | (go_at_call 56; refine (right_any _ _ _).mono ?_; rintro e w' ⟨rfl, rfl⟩) | (go_at_call 57; refine (ones_any _ (by omega) (by omega) _).mono ?_; rintro e w' ⟨rfl, rfl⟩))
  go_ret2
  exact ⟨ret_u64_err (get_eq X A N hX (by omega)), rfl⟩

theorem getW_yes (X A N : Nat) (hX : X < 18446744073709551616) (hN : 1 ≤ N) (hAN : A + N ≤ 64) (w : World) :
    Calls Try.prog 20 #[.int .u64 X, .int .i64 A, .int .i64 N] w fun e w' => e = .returned (.tuple #[.int .u64 (P26.getV X A N), .int .i64 0]) ∧ w = w' := by
  have h : rightB A N = true := by simp [rightB]; omega
  have h0 : (0 : Int) ≤ (A : Int) := by omega
  have h1 : (A : Int) ≤ 63 := by omega
  go_enter Try.func20, Try.ntmps20
  go_wp2_with (first | (go_at_call 56; refine (right_any _ _ _).mono ?_; rintro e w' ⟨rfl, rfl⟩) | (go_at_call 57; refine (ones_any _ (by omega) (by omega) _).mono ?_; rintro e w' ⟨rfl, rfl⟩))
  go_ret2
  exact ⟨ret_u64_err (get_eq X A N hX (by omega)), rfl⟩

theorem putW_no (x a n v : Int) (h : rightB a n = false) (w : World) :
    Calls Try.prog 17 #[.int .u64 x, .int .i64 a, .int .i64 n, .int .u64 v] w fun e w' => e = .returned (.tuple #[.int .u64 0, .int .i64 12]) ∧ w = w' := by
  go_enter Try.func17, Try.ntmps17
  go_wp2_with (go_at_call 56; refine (right_any _ _ _).mono ?_; rintro e w' ⟨rfl, rfl⟩)
  go_ret2
  exact ⟨rfl, rfl⟩

theorem putW_wide (X A N V : Nat) (hN : 1 ≤ N) (hAN : A + N ≤ 64) (hV : 2 ^ N ≤ V) (w : World) :
    Calls Try.prog 17 #[.int .u64 X, .int .i64 A, .int .i64 N, .int .u64 V] w fun e w' => e = .returned (.tuple #[.int .u64 0, .int .i64 12]) ∧ w = w' := by
  have h : rightB A N = true := by simp [rightB]; omega
  have h0 : (0 : Int) ≤ (A : Int) := by omega
  have h1 : (A : Int) ≤ 63 := by omega
  have hv : (2 : Int) ^ N - 1 < (V : Int) := by
    have : ((2 ^ N : Nat) : Int) ≤ (V : Int) := by exact_mod_cast hV
    simp at this ⊢; omega
  go_enter Try.func17, Try.ntmps17
  go_wp2_with (first | (go_at_call 56; refine (right_any _ _ _).mono ?_; rintro e w' ⟨rfl, rfl⟩) | (go_at_call 57; refine (ones_any _ (by omega) (by omega) _).mono ?_; rintro e w' ⟨rfl, rfl⟩))
  go_ret2
  exact ⟨rfl, rfl⟩

theorem putW_yes (X A N V : Nat) (hX : X < 18446744073709551616) (hN : 1 ≤ N) (hAN : A + N ≤ 64) (hV : V < 2 ^ N) (w : World) :
    Calls Try.prog 17 #[.int .u64 X, .int .i64 A, .int .i64 N, .int .u64 V] w fun e w' => e = .returned (.tuple #[.int .u64 (P26.putV X A N V), .int .i64 0]) ∧ w = w' := by
  have h : rightB A N = true := by simp [rightB]; omega
  have h0 : (0 : Int) ≤ (A : Int) := by omega
  have h1 : (A : Int) ≤ 63 := by omega
  have hv : (V : Int) ≤ (2 : Int) ^ N - 1 := by
    have : (V : Int) < ((2 ^ N : Nat) : Int) := by exact_mod_cast hV
    simp at this ⊢; omega
  go_enter Try.func17, Try.ntmps17
  go_wp2_with (first | (go_at_call 56; refine (right_any _ _ _).mono ?_; rintro e w' ⟨rfl, rfl⟩) | (go_at_call 57; refine (ones_any _ (by omega) (by omega) _).mono ?_; rintro e w' ⟨rfl, rfl⟩))
  go_ret2
  exact ⟨ret_u64_err (put_eq X A N V hX hAN hV), rfl⟩

theorem putU_yes (X A N V : Nat) (hX : X < 18446744073709551616) (hN : 1 ≤ N) (hAN : A + N ≤ 64) (hV : V < 2 ^ N) (w : World) :
    Calls Try.prog 55 #[.int .u64 X, .int .i64 A, .int .i64 N, .int .u64 V] w fun e w' => e = .returned (.tuple #[.int .u64 (P26.putV X A N V), .int .i64 0]) ∧ w = w' := by
  have h : rightB A N = true := by simp [rightB]; omega
  have h0 : (0 : Int) ≤ (A : Int) := by omega
  have h1 : (A : Int) ≤ 63 := by omega
  have hv : (V : Int) ≤ (2 : Int) ^ N - 1 := by
    have : (V : Int) < ((2 ^ N : Nat) : Int) := by exact_mod_cast hV
    simp at this ⊢; omega
  go_enter Try.func55, Try.ntmps55
  go_wp2_with (first | (go_at_call 56; refine (right_any _ _ _).mono ?_; rintro e w' ⟨rfl, rfl⟩) | (go_at_call 57; refine (ones_any _ (by omega) (by omega) _).mono ?_; rintro e w' ⟨rfl, rfl⟩))
  go_ret2
  exact ⟨ret_u64_err (put_eq X A N V hX hAN hV), rfl⟩

theorem pow_le64 (k : Nat) (h : k < 64) : (2 : Int) ^ k ≤ 9223372036854775808 := by
  have : ((2 ^ k : Nat) : Int) ≤ ((2 ^ 63 : Nat) : Int) := by exact_mod_cast Nat.pow_le_pow_right (by omega) (by omega : k ≤ 63)
  simpa using this

theorem power_any (N : Nat) (h1 : N < 64) (w : World) :
    Calls Try.prog 19 #[.int .i64 N] w fun e w' => e = .returned (.int .u64 ((2 ^ N : Nat) : Int)) ∧ w = w' := by
  go_enter Try.func19, Try.ntmps19
  go_wp2
  go_loop [3, 4] (fun p i => ∃ k : Nat, k ≤ N ∧ i = .int .i64 k ∧ p = .int .u64 (2 ^ k)) (fun _ i => N - (intOf i).toNat)
  case atStart => exact ⟨0, Nat.zero_le _, rfl, rfl⟩
  case round =>
    obtain ⟨k, hk, rfl, rfl⟩ := hrel
    by_cases hlt : k < N
    · have hp : (2:Int) ^ k * 2 = 2 ^ (k + 1) := by rw [Int.pow_succ]
      have hq := pow_le64 (k + 1) (by omega)
      have hr : (0:Int) < 2 ^ (k + 1) := Int.pow_pos (by omega)
      go_wp2
      go_round
      case rel => exact ⟨k + 1, by omega, by go_num, by first | rfl | (congr 1; rw [IntKind.wrap_u64]; omega)⟩
      case measure => simp [intOf]; omega
    · obtain rfl : k = N := by omega
      go_wp2
      go_ret
      exact ⟨ret_u64 (by simp), rfl⟩

theorem field_any (X A N : Nat) (hX : X < 18446744073709551616) (hAN : A + N ≤ 64) (w : World) :
    Calls Try.prog 18 #[.int .u64 X, .int .i64 A, .int .i64 N] w fun e w' => e = .returned (.int .u64 (P26.getV X A N)) ∧ w = w' := by
  go_enter Try.func18, Try.ntmps18
  go_wp2
  go_loop [0, 7] (fun p i => ∃ k : Nat, k ≤ A ∧ i = .int .i64 k ∧ p = .int .u64 ((X / 2 ^ k : Nat) : Int)) (fun _ i => A - (intOf i).toNat)
  case atStart => exact ⟨0, Nat.zero_le _, rfl, by simp⟩
  case round =>
    obtain ⟨k, hk, rfl, rfl⟩ := hrel
    generalize hG : X / 2 ^ k = G
    have HG := hG
    have hG2 : X / 2 ^ (k + 1) = G / 2 := by rw [← hG, Nat.div_div_eq_div_mul, Nat.pow_succ]
    have HG2 : Hid (X / 2 ^ (k + 1) = G / 2) := hG2
    have HG1 : Hid (X / 2 ^ k = G) := hG
    have hGl : G < 18446744073709551616 := by rw [← hG]; exact Nat.lt_of_le_of_lt (Nat.div_le_self _ _) hX
    clear hG hG2 HG
    by_cases hlt : k < A
    · go_wp2
      go_round
      case rel => exact ⟨k + 1, by omega, by go_num, by rw [HG2.out]; simp⟩
      case measure => simp [intOf]; omega
    · obtain rfl : k = A := by omega
      by_cases h64 : N = 64
      · subst h64
        go_wp2
        go_ret
        exact ⟨ret_u64 (by unfold P26.getV; rw [HG1.out, Nat.mod_eq_of_lt hGl]), rfl⟩
      · have hb : ((N : Int) == 64) = false := by rw [beq_eq_false_iff_ne]; omega
        have hpos : ((2 ^ N : Nat) : Int) ≠ 0 := by have := Nat.two_pow_pos N; omega
        have hpos2 : (0 : Int) < ((2 ^ N : Nat) : Int) := by have := Nat.two_pow_pos N; omega
        go_wp2_with ((go_at_call 19; refine (power_any _ (by omega) _).mono ?_; rintro e w' ⟨rfl, rfl⟩))
        go_ret
        exact ⟨ret_u64 (by unfold P26.getV; rw [HG1.out]; simp), rfl⟩
end Go.Proofs.Ythmbiddnpogolaa
