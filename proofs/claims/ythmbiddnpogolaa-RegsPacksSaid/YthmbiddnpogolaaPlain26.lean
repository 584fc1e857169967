namespace P26
def getV (X a n : Nat) : Nat := X / 2 ^ a % 2 ^ n
def putV (X a n v : Nat) : Nat := (X &&& (18446744073709551615 - (2 ^ n - 1) * 2 ^ a)) ||| (v * 2 ^ a)

theorem mask_bit (a n i : Nat) (h : a + n ≤ 64) : (18446744073709551615 - (2 ^ n - 1) * 2 ^ a).testBit i = (decide (i < 64) && !(decide (a ≤ i) && decide (i < a + n))) := by
  have e : (2 ^ n - 1) * 2 ^ a < 2 ^ 64 := by
    have h1 : (2 ^ n - 1) * 2 ^ a < 2 ^ n * 2 ^ a := Nat.mul_lt_mul_of_pos_right (by have := Nat.two_pow_pos n; omega) (Nat.two_pow_pos a)
    have h2 : 2 ^ n * 2 ^ a ≤ 2 ^ 64 := by rw [← Nat.pow_add]; exact Nat.pow_le_pow_right (by omega) (by omega)
    omega
  have e2 : 18446744073709551615 - (2 ^ n - 1) * 2 ^ a = 2 ^ 64 - ((2 ^ n - 1) * 2 ^ a + 1) := by omega
  rw [e2, Nat.testBit_two_pow_sub_succ e, Nat.testBit_mul_two_pow, Nat.testBit_two_pow_sub_one]
  by_cases h1 : a ≤ i
  · have : (i - a < n) ↔ (i < a + n) := by omega
    simp [h1, this]
  · simp [h1]

theorem put_bit (X a n v i : Nat) (hX : X < 2 ^ 64) (hv : v < 2 ^ n) (h : a + n ≤ 64) :
    (putV X a n v).testBit i = if a ≤ i ∧ i < a + n then v.testBit (i - a) else X.testBit i := by
  unfold putV
  rw [Nat.testBit_or, Nat.testBit_and, mask_bit a n i h, Nat.testBit_mul_two_pow]
  by_cases h1 : a ≤ i
  · by_cases h2 : i < a + n
    · simp [h1, h2]
    · have : v.testBit (i - a) = false := Nat.testBit_lt_two_pow (Nat.lt_of_lt_of_le hv (Nat.pow_le_pow_right (by omega) (by omega)))
      by_cases h3 : i < 64
      · simp [h1, h2, h3, this]
      · have : X.testBit i = false := Nat.testBit_lt_two_pow (Nat.lt_of_lt_of_le hX (Nat.pow_le_pow_right (by omega) (by omega)))
        simp [*]
  · by_cases h3 : i < 64
    · simp [h1, h3]
    · have : X.testBit i = false := Nat.testBit_lt_two_pow (Nat.lt_of_lt_of_le hX (Nat.pow_le_pow_right (by omega) (by omega)))
      simp [*]

theorem put_lt (X a n v : Nat) (hX : X < 2 ^ 64) (hv : v < 2 ^ n) (h : a + n ≤ 64) : putV X a n v < 2 ^ 64 := by
  apply Nat.lt_pow_two_of_testBit
  intro i hi
  rw [put_bit X a n v i hX hv h, if_neg (by omega)]
  exact Nat.testBit_lt_two_pow (Nat.lt_of_lt_of_le hX (Nat.pow_le_pow_right (by omega) (by omega)))

theorem get_put (X a n v : Nat) (hX : X < 2 ^ 64) (hv : v < 2 ^ n) (h : a + n ≤ 64) : getV (putV X a n v) a n = v := by
  unfold getV
  apply Nat.eq_of_testBit_eq
  intro i
  rw [Nat.testBit_mod_two_pow, Nat.testBit_div_two_pow, put_bit X a n v _ hX hv h]
  by_cases h1 : i < n
  · rw [if_pos (by omega)]; simp [h1]
  · have : v.testBit i = false := Nat.testBit_lt_two_pow (Nat.lt_of_lt_of_le hv (Nat.pow_le_pow_right (by omega) (by omega)))
    simp [h1, this]

theorem get_put_other (X a n v a' n' : Nat) (hX : X < 2 ^ 64) (hv : v < 2 ^ n) (h : a + n ≤ 64) (hd : a' + n' ≤ a ∨ a + n ≤ a') : getV (putV X a n v) a' n' = getV X a' n' := by
  unfold getV
  apply Nat.eq_of_testBit_eq
  intro i
  rw [Nat.testBit_mod_two_pow, Nat.testBit_div_two_pow, Nat.testBit_mod_two_pow, Nat.testBit_div_two_pow, put_bit X a n v _ hX hv h]
  by_cases h1 : i < n'
  · rw [if_neg (by omega)]
  · simp [h1]
theorem get_lt (X a n : Nat) : getV X a n < 2 ^ n := Nat.mod_lt _ (Nat.two_pow_pos n)
end P26
