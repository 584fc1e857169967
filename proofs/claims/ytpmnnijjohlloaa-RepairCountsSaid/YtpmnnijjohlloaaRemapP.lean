/- Where pages are laid: no two at one place. -/
import Derived.Test.YtpmnnijjohlloaaRemapE
namespace Go.Proofs.Ytpmnnijjohlloaa
open Go Go.RowKit
set_option linter.unusedVariables false
set_option linter.unusedSimpArgs false
theorem dig_inj {a b c m n : Int} (ha : 1 ≤ a) (hb : 1 ≤ b) (hm : 0 ≤ m) (hm2 : m < c * b * a) (hn : 0 ≤ n) (hn2 : n < c * b * a) (h1 : m % a = n % a) (h2 : m / a % b = n / a % b) (h3 : m / a / b % c = n / a / b % c) : m = n := by
  have lt : ∀ x, 0 ≤ x → x < c * b * a → x / a / b % c = x / a / b := fun x h0 hx => by
    refine Int.emod_eq_of_lt (Int.ediv_nonneg (Int.ediv_nonneg h0 (by omega)) (by omega)) ?_
    exact Int.ediv_lt_of_lt_mul (by omega) (Int.ediv_lt_of_lt_mul (by omega) hx)
  rw [lt m hm hm2, lt n hn hn2] at h3
  have e1 : m / a = n / a := by rw [← Int.mul_ediv_add_emod (m / a) b, ← Int.mul_ediv_add_emod (n / a) b, h2, h3]
  rw [← Int.mul_ediv_add_emod m a, ← Int.mul_ediv_add_emod n a, h1, e1]
theorem xor_inj {b x y rw : Int} (hb : pwB b 16 = true) (hx : 0 ≤ x) (hx2 : x < b) (hy : 0 ≤ y) (hy2 : y < b) (h3 : 0 ≤ rw) (h4 : rw ≤ 9223372036854775807) (h : bits .xor .i64 x (bits .and .i64 rw (b - 1)) = bits .xor .i64 y (bits .and .i64 rw (b - 1))) : x = y := by
  obtain ⟨k, hk, rfl, -⟩ := (pwB_iff b 16 (by decide)).1 hb
  have hm := bits_mask IntKind.i64 63 (by decide) (fun n h0 h1 => by rw [IntKind.wrap_i64]; omega) k (by omega) rw h3 (by omega)
  rw [hm] at h
  obtain ⟨x, rfl⟩ := Int.eq_ofNat_of_zero_le hx
  obtain ⟨y, rfl⟩ := Int.eq_ofNat_of_zero_le hy
  obtain ⟨v, rfl⟩ := Int.eq_ofNat_of_zero_le h3
  have hx : x < 2 ^ k := by exact_mod_cast hx2
  have hy : y < 2 ^ k := by exact_mod_cast hy2
  have hv : v % 2 ^ k < 2 ^ k := Nat.mod_lt _ (Nat.two_pow_pos k)
  have hp : 2 ^ k ≤ 2 ^ 63 := Nat.pow_le_pow_right (by decide) (by omega)
  rw [show ((v : Int) % 2 ^ k) = ((v % 2 ^ k : Nat) : Int) by rw [Int.natCast_emod, Int.natCast_pow]; rfl, xor_nat x _ (by omega) (by omega), xor_nat y _ (by omega) (by omega)] at h
  have h' : x ^^^ (v % 2 ^ k) = y ^^^ (v % 2 ^ k) := by exact_mod_cast h
  have : x = y := by
    have := congrArg (· ^^^ (v % 2 ^ k)) h'
    simpa [Nat.xor_assoc] using this
  rw [this]
theorem pgAt_inj {r s b o c : Int} (y : Int) {m n : Int} (hg : geomOk r s b o c = true) (hm : 0 ≤ m) (hm2 : m < r * b * o) (hn : 0 ≤ n) (hn2 : n < r * b * o) (h : pgAt y r b o m = pgAt y r b o n) : m = n := by
  obtain ⟨⟨u1, u2⟩, ⟨u3, u4⟩, u5, u6⟩ := pg_bd y m hg
  obtain ⟨⟨w1, w2⟩, ⟨w3, w4⟩, w5, w6⟩ := pg_bd y n hg
  obtain ⟨⟨d1, _⟩, _, ⟨d3, d3'⟩, ⟨d4, d5⟩, _, _⟩ := geom_bd hg
  have hb : pwB b 16 = true := by
    unfold geomOk at hg
    simp only [Bool.and_eq_true] at hg
    exact hg.2.2.2.1
  unfold pgAt at h
  have e1 : pgRank y r b o m = pgRank y r b o n := by omega
  have e2 : pgBank y r b o m = pgBank y r b o n := by omega
  have e3 : pgRow y r b o m = pgRow y r b o n := by omega
  have kb : ∀ x, 0 ≤ pgBank0 y r b o x ∧ pgBank0 y r b o x < b := fun x => by unfold pgBank0; split; exact emod_bd d3; split <;> exact emod_bd d3
  have e4 : pgBank0 y r b o m = pgBank0 y r b o n := by
    unfold pgBank at e2
    rw [e3] at e2
    split at e2
    · exact xor_inj hb (kb m).1 (kb m).2 (kb n).1 (kb n).2 w5 (by omega) e2
    · exact e2
  unfold pgRank at e1
  unfold pgRow at e3
  unfold pgBank0 at e4
  split at e1
  · rename_i h0
    rw [if_pos h0, if_pos h0] at e3 e4
    exact dig_inj d4 d3 hm hm2 hn hn2 e3 e4 e1
  · rename_i h0
    rw [if_neg h0, if_neg h0] at e3 e4
    split at e1
    · rename_i h1
      rw [if_pos h1, if_pos h1] at e3 e4
      rw [Int.mul_right_comm] at hm2 hn2
      exact dig_inj d3 d4 hm hm2 hn hn2 e4 e3 e1
    · rename_i h1
      rw [if_neg h1, if_neg h1] at e3 e4
      have e : r * b * o = o * b * r := by rw [Int.mul_comm (r * b) o, Int.mul_comm r b, Int.mul_assoc]
      rw [e] at hm2 hn2
      exact dig_inj d1 d3 hm hm2 hn hn2 e1 e4 e3
end Go.Proofs.Ytpmnnijjohlloaa
