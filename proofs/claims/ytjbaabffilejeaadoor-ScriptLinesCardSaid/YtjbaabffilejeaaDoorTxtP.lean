/- Numbers in digits and words between blanks: plain lists of bytes. -/
import Derived.Lib.AtoiAll
import Derived.Lib.ItoaNum
import Derived.Lib.Bytealg
import Derived.Lib.Join
namespace Go.Proofs.YtjbaabffilejeaaDoor
open Go Go.Lib
set_option linter.unusedVariables false
/-! ### words -/
def words : List UInt8 → List (List UInt8)
  | [] => [[]]
  | c :: r => if c = 32 then [] :: words r else match words r with | [] => [[c]] | h :: t => (c :: h) :: t
theorem words_ne : ∀ l, words l ≠ []
  | [] => by simp [words]
  | c :: r => by
    unfold words; split
    · simp
    · split <;> simp
theorem words_miss : ∀ {l : List UInt8}, indexByte l 32 = -1 → words l = [l]
  | [], _ => rfl
  | c :: r, h => by
    unfold indexByte at h
    have g := indexByte_ge r 32
    split at h
    · cases h
    · rename_i hc
      split at h
      · rename_i h2
        have := words_miss (l := r) (by simpa using h2)
        have hc' : ¬ c = 32 := by simpa using hc
        simp [words, hc', this]
      · rename_i h2
        have : indexByte r 32 ≠ -1 := by simpa using h2
        omega
theorem words_hit : ∀ {l : List UInt8} {i : Nat}, indexByte l 32 = i → words l = l.take i :: words (l.drop (i + 1))
  | [], i, h => by simp only [indexByte] at h; omega
  | c :: r, i, h => by
    unfold indexByte at h
    have g := indexByte_ge r 32
    split at h
    · rename_i hc
      have hc' : c = 32 := by simpa using hc
      obtain rfl : i = 0 := by omega
      simp [words, hc']
    · rename_i hc
      have hc' : ¬ c = 32 := by simpa using hc
      split at h
      · omega
      · rename_i h2
        have h3 : indexByte r 32 ≠ -1 := by simpa using h2
        obtain ⟨j, rfl⟩ : ∃ j, i = j + 1 := ⟨i - 1, by omega⟩
        have := words_hit (l := r) (i := j) (by omega)
        simp [words, hc', this]
theorem words_one : ∀ {x : List UInt8}, (∀ c ∈ x, c ≠ 32) → words x = [x]
  | [], _ => rfl
  | c :: r, h => by simp [words, h c (by simp), words_one (x := r) fun d hd => h d (by simp [hd])]
theorem words_app : ∀ {x : List UInt8} (y : List UInt8), (∀ c ∈ x, c ≠ 32) → words (x ++ 32 :: y) = x :: words y
  | [], y, _ => by simp [words]
  | c :: r, y, h => by simp [words, h c (by simp), words_app (x := r) y fun d hd => h d (by simp [hd])]
theorem words_join : ∀ {xs : List (List UInt8)}, xs ≠ [] → (∀ x ∈ xs, ∀ c ∈ x, c ≠ 32) → words (join xs [32]) = xs
  | [], h, _ => absurd rfl h
  | [x], _, h => by rw [join_one]; exact words_one (h x (by simp))
  | x :: y :: r, _, h => by
    have e : join (x :: y :: r) [32] = x ++ 32 :: join (y :: r) [32] := by simp [join, List.intercalate]
    rw [e, words_app _ (h x (by simp)), words_join (by simp) fun z hz => h z (by simp at hz; simp [hz])]
/-! ### digits -/
theorem dig_toNat {u : Nat} (h : u < 10) : (UInt8.ofNat (48 + u)).toNat = 48 + u := by
  rw [UInt8.toNat_ofNat']; omega
theorem decDigits_digit : ∀ (u : Nat), ∀ c ∈ decDigits u, 48 ≤ c.toNat ∧ c.toNat ≤ 57 := by
  intro u
  induction u using Nat.strongRecOn with
  | ind u ih =>
    intro c hc
    rw [decDigits] at hc
    split at hc
    · rename_i h
      simp only [List.mem_singleton] at hc; subst hc; rw [dig_toNat h]; omega
    · rename_i h
      simp only [List.mem_append, List.mem_singleton] at hc
      rcases hc with hc | hc
      · exact ih (u / 10) (by omega) c hc
      · subst hc; rw [dig_toNat (Nat.mod_lt _ (by omega))]; omega
theorem decDigits_ne (u : Nat) : decDigits u ≠ [] := by
  rw [decDigits]; split <;> simp
theorem parseUint10_app : ∀ (l : List UInt8) (acc v : Nat) (c : UInt8), parseUint10 acc l = .ok v → 48 ≤ c.toNat ∧ c.toNat ≤ 57 → v * 10 + (c.toNat - 48) < 18446744073709551616 →
    parseUint10 acc (l ++ [c]) = .ok (v * 10 + (c.toNat - 48))
  | [], acc, v, c, h, hc, hb => by
    simp only [parseUint10] at h; cases h
    simp only [List.nil_append, parseUint10, hc, and_self, if_true]
    rw [if_neg (by omega), if_neg (by omega)]
  | d :: r, acc, v, c, h, hc, hb => by
    simp only [parseUint10] at h
    simp only [List.cons_append, parseUint10]
    split at h
    · rename_i hd
      rw [if_pos hd]
      split at h
      · cases h
      · rename_i h1
        rw [if_neg h1]
        split at h
        · cases h
        · rename_i h2
          rw [if_neg h2]
          exact parseUint10_app r _ v c h hc hb
    · cases h
theorem parse_dec : ∀ (u : Nat), u < 18446744073709551616 → parseUint10 0 (decDigits u) = .ok u := by
  intro u
  induction u using Nat.strongRecOn with
  | ind u ih =>
    intro hu
    rw [decDigits]
    split
    · rename_i h
      simp only [parseUint10, dig_toNat h]
      rw [if_pos (by omega), if_neg (by omega), if_neg (by omega)]
      congr 1; omega
    · rename_i h
      have hd := dig_toNat (u := u % 10) (Nat.mod_lt _ (by omega))
      have := parseUint10_app (decDigits (u / 10)) 0 (u / 10) (UInt8.ofNat (48 + u % 10)) (ih (u / 10) (by omega) (by omega)) (by rw [hd]; omega) (by rw [hd]; omega)
      rw [this, hd]; congr 1; omega
theorem parseMag_dec {u : Nat} (hu : u < 18446744073709551616) : parseMag (decDigits u) = .ok u := by
  unfold parseMag; rw [if_neg (decDigits_ne u), parse_dec u hu]
theorem dec_head (u : Nat) : ∃ c r, decDigits u = c :: r ∧ 48 ≤ c.toNat ∧ c.toNat ≤ 57 := by
  cases h : decDigits u with
  | nil => exact absurd h (decDigits_ne u)
  | cons c r => exact ⟨c, r, rfl, decDigits_digit u c (by rw [h]; simp)⟩
theorem atoi_dec {u : Nat} (hu : u < 9223372036854775808) : atoiAll (decDigits u) = .ok (u : Int) := by
  obtain ⟨c, r, e, h1, h2⟩ := dec_head u
  have hm := parseMag_dec (u := u) (by omega)
  rw [e] at hm ⊢
  have n43 : ¬ (c.toNat = 43 ∨ c.toNat = 45) := by omega
  have n45 : ¬ c.toNat = 45 := by omega
  simp only [atoiAll]
  rw [if_neg n43, hm]
  simp only [n45, not_false_eq_true, true_and, false_and, if_false]
  rw [if_neg (by omega)]
theorem atoi_neg {u : Nat} (hu : u ≤ 9223372036854775808) : atoiAll (45 :: decDigits u) = .ok (-(u : Int)) := by
  have hm := parseMag_dec (u := u) (by omega)
  have e1 : (45 : UInt8).toNat = 45 := rfl
  simp only [atoiAll, e1, or_true, if_true, hm, not_true_eq_false, false_and, if_false, true_and]
  rw [if_neg (by omega)]
theorem atoi_itoa {n : Int} (h0 : -9223372036854775808 ≤ n) (h1 : n ≤ 9223372036854775807) : atoiAll (itoa n) = .ok n := by
  unfold itoa; split
  · rw [atoi_neg (by omega)]; congr 1; omega
  · rw [atoi_dec (by omega)]; congr 1; omega
theorem itoa_no (n : Int) : ∀ c ∈ itoa n, c.toNat = 45 ∨ 48 ≤ c.toNat ∧ c.toNat ≤ 57 := by
  intro c hc
  unfold itoa at hc; split at hc
  · simp only [List.mem_cons] at hc
    rcases hc with hc | hc
    · subst hc; exact .inl rfl
    · exact .inr (decDigits_digit _ c hc)
  · exact .inr (decDigits_digit _ c hc)
/-- The number that Atoi leaves. -/
def atoiV (l : List UInt8) : Int := match atoiAll l with | .ok v => v | .range => atoiSat l | _ => 0
theorem atoiV_itoa {n : Int} (h0 : -9223372036854775808 ≤ n) (h1 : n ≤ 9223372036854775807) : atoiV (itoa n) = n := by
  unfold atoiV; rw [atoi_itoa h0 h1]
theorem words_mem : ∀ {l : List UInt8} {x : List UInt8}, x ∈ words l → x.length ≤ l.length
  | [], x, h => by simp [words] at h; subst h; simp
  | c :: r, x, h => by
    unfold words at h
    split at h
    · simp only [List.mem_cons] at h
      rcases h with rfl | h
      · simp
      · have := words_mem h; simp; omega
    · have ih := fun y (hy : y ∈ words r) => words_mem hy
      revert h ih
      cases words r with
      | nil => intro h _; simp at h; subst h; simp
      | cons a b =>
        intro h ih
        simp only [List.mem_cons] at h
        rcases h with rfl | h
        · have := ih a (by simp); simp; omega
        · have := ih x (by simp [h]); simp; omega
theorem words_len : ∀ (l : List UInt8), (words l).length ≤ l.length + 1
  | [] => by simp [words]
  | c :: r => by
    have ih := words_len r
    unfold words
    split
    · simp; omega
    · revert ih
      cases words r with
      | nil => intro _; simp
      | cons a b => intro h; simp at h ⊢; omega
theorem pre_mem {pre xs : List (List UInt8)} {x : List UInt8} (h : pre ++ [x] <+: xs) : x ∈ xs ∧ pre.length < xs.length := by
  obtain ⟨r, rfl⟩ := h; simp
end Go.Proofs.YtjbaabffilejeaaDoor
