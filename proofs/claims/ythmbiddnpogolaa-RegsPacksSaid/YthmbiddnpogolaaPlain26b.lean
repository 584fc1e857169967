/- Fields one behind the other, put together: plain laws. -/
import Derived.Test.YthmbiddnpogolaaPlain26
namespace P26
/-- Where the fields end. -/
def wid (fs : List (Nat × Nat)) : Nat := (fs.map (·.1)).sum
def joinN (fs : List (Nat × Nat)) : Nat := (fs.foldl (fun p f => (putV p.1 p.2 f.1 (f.2 % 2 ^ f.1), p.2 + f.1)) (0, 0)).1
def sumN (fs : List (Nat × Nat)) : Nat := (fs.foldl (fun p f => (p.1 + f.2 % 2 ^ f.1 * 2 ^ p.2, p.2 + f.1)) (0, 0)).1

theorem wid_snoc (fs : List (Nat × Nat)) (f : Nat × Nat) : wid (fs ++ [f]) = wid fs + f.1 := by simp [wid]
theorem wid_append (fs gs : List (Nat × Nat)) : wid (fs ++ gs) = wid fs + wid gs := by simp [wid]
theorem wid_cons (f : Nat × Nat) (fs : List (Nat × Nat)) : wid (f :: fs) = f.1 + wid fs := by simp [wid]
theorem foldl_wid1 (fs : List (Nat × Nat)) (g : Nat × Nat → Nat × Nat → Nat) : (fs.foldl (fun p f => (g p f, p.2 + f.1)) (0, 0)).2 = wid fs := by
  have key : ∀ (fs : List (Nat × Nat)) (p : Nat × Nat), (fs.foldl (fun p f => (g p f, p.2 + f.1)) p).2 = p.2 + wid fs := by
    intro fs
    induction fs with
    | nil => intro p; simp [wid]
    | cons f fs ih => intro p; rw [List.foldl_cons, ih]; simp [wid]; omega
  simpa using key fs (0, 0)
theorem joinN_snoc (fs : List (Nat × Nat)) (f : Nat × Nat) : joinN (fs ++ [f]) = putV (joinN fs) (wid fs) f.1 (f.2 % 2 ^ f.1) := by
  simp only [joinN, List.foldl_append, List.foldl_cons, List.foldl_nil]
  rw [foldl_wid1 fs (fun p f => putV p.1 p.2 f.1 (f.2 % 2 ^ f.1))]
theorem sumN_snoc (fs : List (Nat × Nat)) (f : Nat × Nat) : sumN (fs ++ [f]) = sumN fs + f.2 % 2 ^ f.1 * 2 ^ wid fs := by
  simp only [sumN, List.foldl_append, List.foldl_cons, List.foldl_nil]
  rw [foldl_wid1 fs (fun p f => p.1 + f.2 % 2 ^ f.1 * 2 ^ p.2)]

theorem put_add (X a n v : Nat) (hX : X < 2 ^ a) (hv : v < 2 ^ n) (h : a + n ≤ 64) : putV X a n v = X + v * 2 ^ a := by
  have hX64 : X < 2 ^ 64 := Nat.lt_of_lt_of_le hX (Nat.pow_le_pow_right (by omega) (by omega))
  have e : X + v * 2 ^ a = v * 2 ^ a ||| X := by
    rw [Nat.add_comm, Nat.mul_comm, Nat.two_pow_add_eq_or_of_lt hX]
  rw [e]
  apply Nat.eq_of_testBit_eq
  intro i
  rw [put_bit X a n v i hX64 hv h, Nat.testBit_or, Nat.testBit_mul_two_pow]
  by_cases h1 : a ≤ i
  · have x0 : X.testBit i = false := Nat.testBit_lt_two_pow (Nat.lt_of_lt_of_le hX (Nat.pow_le_pow_right (by omega) h1))
    by_cases h2 : i < a + n
    · simp [h1, h2, x0]
    · have : v.testBit (i - a) = false := Nat.testBit_lt_two_pow (Nat.lt_of_lt_of_le hv (Nat.pow_le_pow_right (by omega) (by omega)))
      simp [h1, h2, x0, this]
  · simp [h1]

theorem snocInd {α : Type} {p : List α → Prop} (h0 : p []) (h1 : ∀ l a, p l → p (l ++ [a])) : ∀ l, p l := by
  intro l
  have : ∀ r : List α, p r.reverse := by
    intro r
    induction r with
    | nil => exact h0
    | cons a r ih => rw [List.reverse_cons]; exact h1 _ _ ih
  simpa using this l.reverse

theorem join_sum (fs : List (Nat × Nat)) : wid fs ≤ 64 → joinN fs = sumN fs ∧ joinN fs < 2 ^ wid fs := by
  induction fs using snocInd with
  | h0 => intro _; simp [joinN, sumN, wid]
  | h1 fs f ih =>
    intro h
    rw [wid_snoc] at h
    obtain ⟨i1, i2⟩ := ih (by omega)
    have hv : f.2 % 2 ^ f.1 < 2 ^ f.1 := Nat.mod_lt _ (Nat.two_pow_pos _)
    rw [joinN_snoc, sumN_snoc, wid_snoc, put_add _ _ _ _ i2 hv h, i1]
    refine ⟨rfl, ?_⟩
    rw [i1] at i2
    have : (f.2 % 2 ^ f.1 + 1) * 2 ^ wid fs ≤ 2 ^ f.1 * 2 ^ wid fs := Nat.mul_le_mul_right _ hv
    rw [Nat.pow_add, Nat.mul_comm (2 ^ wid fs)]
    rw [Nat.add_mul] at this
    omega

theorem join_lt (fs : List (Nat × Nat)) (h : wid fs ≤ 64) : joinN fs < 2 ^ 64 :=
  Nat.lt_of_lt_of_le (join_sum fs h).2 (Nat.pow_le_pow_right (by omega) h)

/-- A field is told again, whatever comes behind it. -/
theorem get_join (fs : List (Nat × Nat)) : wid fs ≤ 64 → ∀ k (hk : k < fs.length), getV (joinN fs) (wid (fs.take k)) (fs[k]).1 = (fs[k]).2 % 2 ^ (fs[k]).1 := by
  induction fs using snocInd with
  | h0 => intro _ k hk; simp at hk
  | h1 fs f ih =>
    intro h k hk
    rw [wid_snoc] at h
    have hv : f.2 % 2 ^ f.1 < 2 ^ f.1 := Nat.mod_lt _ (Nat.two_pow_pos _)
    have hl := join_lt fs (by omega)
    rw [joinN_snoc]
    by_cases hkl : k < fs.length
    · rw [List.getElem_append_left hkl, List.take_append_of_le_length (by omega)]
      have hw : wid (fs.take k) + (fs[k]).1 ≤ wid fs := by
        have e : fs.take k ++ fs[k] :: fs.drop (k + 1) = fs := by simp
        have : wid (fs.take k ++ fs[k] :: fs.drop (k + 1)) = wid fs := by rw [e]
        rw [wid_append, wid_cons] at this
        omega
      rw [get_put_other _ _ _ _ _ _ hl hv h (Or.inl hw)]
      exact ih (by omega) k hkl
    · have : k = fs.length := by simp at hk; omega
      subst this
      simp only [List.take_left', List.getElem_concat_length]
      exact get_put _ _ _ _ hl hv h
end P26
