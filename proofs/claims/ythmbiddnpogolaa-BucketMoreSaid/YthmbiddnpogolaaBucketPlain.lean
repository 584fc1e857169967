/- Plain laws of the buckets: n ticks are n times one; ticks may be parted; a bucket never holds more for ticks. -/
import Derived.Test.YthmbiddnpogolaaBucketLaw
namespace Go.Proofs.Ythmbiddnpogolaa
set_option linter.unusedVariables false

theorem div_step {m e : Int} (he : 0 < e) : ((m + 1) / e = if m % e + 1 = e then m / e + 1 else m / e) ∧ ((m + 1) % e = if m % e + 1 = e then 0 else m % e + 1) := by
  have h1 := Int.emod_nonneg m (Int.ne_of_gt he)
  have h2 := Int.emod_lt_of_pos m he
  have h3 := Int.mul_ediv_add_emod m e
  by_cases c : m % e + 1 = e
  · simp only [c, if_true]
    have e1 : e * (m / e + 1) = e * (m / e) + e := by rw [Int.mul_add, Int.mul_one]
    have h := (Int.ediv_emod_unique he (a := m + 1) (r := 0) (q := m / e + 1)).2 ⟨by omega, by omega, he⟩
    exact h
  · simp only [c, if_false]
    exact (Int.ediv_emod_unique he (a := m + 1) (r := m % e + 1) (q := m / e)).2 ⟨by omega, by omega, by omega⟩

theorem ticksL_0 (v a l e : Int) : ticksL v a l e 0 = v := by simp [ticksL]
theorem ticksA_0 (v a l e : Int) : ticksA v a l e 0 = a := by simp [ticksA]

theorem ticks_step {v a l e : Int} (h : bOk v a l e = true) (n : Int) (hn : 0 ≤ n) :
    ticksL v a l e (n + 1) = BtickV e (ticksL v a l e n) (ticksA v a l e n) ∧ ticksA v a l e (n + 1) = BtickA e (ticksA v a l e n) := by
  obtain ⟨⟨⟨l0, l1⟩, e0, e1⟩, ⟨v0, v1⟩, a0, a1⟩ := bOk_iff.1 h
  by_cases c0 : n = 0
  · subst c0
    rw [ticksL_0, ticksA_0, show (0 : Int) + 1 = 1 from rfl, tickL_eq h, tickA_eq h]; exact ⟨rfl, rfl⟩
  · have n1 : 1 ≤ n := by omega
    have n2 : 1 ≤ n + 1 := by omega
    by_cases c1 : n < e - a
    · have hA : ticksA v a l e n = a + n := by simp [ticksA, h, n1, c1]
      have hL : ticksL v a l e n = v := by simp only [ticksL]; rw [if_neg]; simp; omega
      rw [hA, hL]
      by_cases c2 : a + n + 1 = e
      · have c3 : ¬ n + 1 < e - a := by omega
        have c4 : e - a ≤ n + 1 := by omega
        have c5 : n + 1 - (e - a) = 0 := by omega
        simp only [ticksL, ticksA, h, n2, c3, c4, c5, BtickV, BtickA, c2]
        simp
        omega
      · have c3 : n + 1 < e - a := by omega
        have c4 : ¬ e - a ≤ n + 1 := by omega
        simp only [ticksL, ticksA, h, n2, c3, c4, BtickV, BtickA, c2]
        simp
        omega
    · have c3 : ¬ n + 1 < e - a := by omega
      have c4 : e - a ≤ n + 1 := by omega
      have c5 : e - a ≤ n := by omega
      obtain ⟨d1, d2⟩ := div_step (m := n - (e - a)) (e := e) (by omega)
      have d3 : n + 1 - (e - a) = n - (e - a) + 1 := by omega
      have q0 : 0 ≤ (n - (e - a)) / e := Int.ediv_nonneg (by omega) (by omega)
      simp only [ticksL, ticksA, h, n1, n2, c1, c3, c4, c5, d3, d1, d2, BtickV, BtickA]
      generalize (n - (e - a)) / e = q at *
      generalize (n - (e - a)) % e = r at *
      by_cases c6 : r + 1 = e
      · simp [c6]; omega
      · simp [c6]

theorem tick_ok {v a l e : Int} (h : bOk v a l e = true) : bOk (BtickV e v a) (BtickA e a) l e = true := by
  obtain ⟨⟨⟨l0, l1⟩, e0, e1⟩, ⟨v0, v1⟩, a0, a1⟩ := bOk_iff.1 h
  refine bOk_iff.2 ⟨⟨⟨l0, l1⟩, e0, e1⟩, ?_, ?_⟩
  · unfold BtickV; split <;> (try split) <;> omega
  · unfold BtickA; split <;> omega

theorem ticks_ok {v a l e : Int} (h : bOk v a l e = true) (n : Nat) : bOk (ticksL v a l e n) (ticksA v a l e n) l e = true := by
  induction n with
  | zero => rw [show ((0 : Nat) : Int) = 0 from rfl, ticksL_0, ticksA_0]; exact h
  | succ n ih =>
    obtain ⟨s1, s2⟩ := ticks_step h n (by omega)
    rw [show ((n + 1 : Nat) : Int) = (n : Int) + 1 by omega, s1, s2]
    exact tick_ok ih

theorem ticks_add {v a l e : Int} (h : bOk v a l e = true) (n m : Nat) :
    ticksL (ticksL v a l e n) (ticksA v a l e n) l e m = ticksL v a l e (n + m) ∧ ticksA (ticksL v a l e n) (ticksA v a l e n) l e m = ticksA v a l e (n + m) := by
  induction m with
  | zero => rw [show ((0 : Nat) : Int) = 0 from rfl, ticksL_0, ticksA_0, Int.add_zero]; exact ⟨rfl, rfl⟩
  | succ m ih =>
    obtain ⟨s1, s2⟩ := ticks_step (ticks_ok h n) m (by omega)
    obtain ⟨t1, t2⟩ := ticks_step h ((n : Int) + m) (by omega)
    rw [show ((m + 1 : Nat) : Int) = (m : Int) + 1 by omega, s1, s2, ih.1, ih.2, show (n : Int) + ((m : Int) + 1) = (n : Int) + m + 1 by omega, t1, t2]
    exact ⟨rfl, rfl⟩

theorem ticks_le {v a l e : Int} (h : bOk v a l e = true) (n : Nat) : ticksL v a l e n ≤ v := by
  induction n with
  | zero => rw [show ((0 : Nat) : Int) = 0 from rfl, ticksL_0]; exact Int.le_refl _
  | succ n ih =>
    obtain ⟨s1, s2⟩ := ticks_step h n (by omega)
    rw [show ((n + 1 : Nat) : Int) = (n : Int) + 1 by omega, s1]
    have := (bOk_iff.1 (ticks_ok h n)).2.1
    unfold BtickV
    split <;> (try split) <;> omega

theorem ticks_empty {v a l e : Int} (h : bOk v a l e = true) : ticksL v a l e 8589934592 = 0 := by
  obtain ⟨⟨⟨l0, l1⟩, e0, e1⟩, ⟨v0, v1⟩, a0, a1⟩ := bOk_iff.1 h
  have c4 : e - a ≤ 8589934592 := by omega
  have hq : 65536 ≤ (8589934592 - (e - a)) / e := by
    rw [Int.le_ediv_iff_mul_le (by omega)]
    omega
  simp only [ticksL, h, c4]
  simp
  omega
end Go.Proofs.Ythmbiddnpogolaa
