/- Contracts: inter.Page, lies, Index. -/
import Derived.Test.YtpmnnijjohlloaaRemapB
import Derived.Test.YtpmnnijjohlloaaPx2
import Derived.Test.YtpmnnijjohlloaaPxZ
namespace Go.Proofs.Ytpmnnijjohlloaa
open Go Go.RowKit
set_option linter.unusedVariables false
set_option linter.unusedSimpArgs false
theorem xor_nat (a b : Nat) (ha : a < 2 ^ 63) (hb : b < 2 ^ 63) : bits .xor .i64 (a : Int) (b : Int) = ((a ^^^ b : Nat) : Int) := by
  have ha' : a % 2 ^ 64 = a := Nat.mod_eq_of_lt (by omega)
  have hb' : b % 2 ^ 64 = b := Nat.mod_eq_of_lt (by omega)
  have hx := Nat.xor_lt_two_pow ha hb
  have e : (BitVec.ofNat 64 a ^^^ BitVec.ofNat 64 b).toNat = a ^^^ b := by rw [BitVec.toNat_xor, BitVec.toNat_ofNat, BitVec.toNat_ofNat, ha', hb']
  simp only [bits, IntKind.bits, BitVec.ofInt_natCast]
  exact (congrArg (fun n : Nat => IntKind.i64.wrap (n : Int)) e).trans (by show IntKind.i64.wrap ((a ^^^ b : Nat) : Int) = _; rw [IntKind.wrap_i64]; omega)
theorem xor_bd {b bk rw : Int} (hb : pwB b 16 = true) (h1 : 0 ≤ bk) (h2 : bk < b) (h3 : 0 ≤ rw) (h4 : rw ≤ 9223372036854775807) : 0 ≤ bits .xor .i64 bk (bits .and .i64 rw (b - 1)) ∧ bits .xor .i64 bk (bits .and .i64 rw (b - 1)) < b := by
  obtain ⟨k, hk, rfl, -⟩ := (pwB_iff b 16 (by decide)).1 hb
  have hm := bits_mask IntKind.i64 63 (by decide) (fun n h0 h1 => by rw [IntKind.wrap_i64]; omega) k (by omega) rw h3 (by omega)
  rw [hm]
  obtain ⟨x, rfl⟩ := Int.eq_ofNat_of_zero_le h1
  obtain ⟨y, rfl⟩ := Int.eq_ofNat_of_zero_le h3
  have hx : x < 2 ^ k := by exact_mod_cast h2
  have hy : y % 2 ^ k < 2 ^ k := Nat.mod_lt _ (Nat.two_pow_pos k)
  have hp : 2 ^ k ≤ 2 ^ 63 := Nat.pow_le_pow_right (by decide) (by omega)
  rw [show ((y : Int) % 2 ^ k) = ((y % 2 ^ k : Nat) : Int) by rw [Int.natCast_emod, Int.natCast_pow]; rfl, xor_nat x _ (by omega) (by omega)]
  have := Nat.xor_lt_two_pow hx hy
  exact ⟨Int.natCast_nonneg _, by exact_mod_cast this⟩
def pgRank (y r b o n : Int) : Int := if y = 0 then n / o / b % r else if y = 1 then n / b / o % r else n % r
def pgRow (y r b o n : Int) : Int := if y = 0 then n % o else if y = 1 then n / b % o else n / r / b % o
def pgBank0 (y r b o n : Int) : Int := if y = 0 then n / o % b else if y = 1 then n % b else n / r % b
def pgBank (y r b o n : Int) : Int := if y = 3 then bits .xor .i64 (pgBank0 y r b o n) (bits .and .i64 (pgRow y r b o n) (b - 1)) else pgBank0 y r b o n
def pgAt (y r b o n : Int) : Int := pgRank y r b o n * 16384 + pgBank y r b o n * 1024 + pgRow y r b o n
theorem emod_bd {x q : Int} (hq : 1 ≤ q) : 0 ≤ x % q ∧ x % q < q := ⟨Int.emod_nonneg _ (by omega), Int.emod_lt_of_pos _ (by omega)⟩
theorem pg_bd {r s b o c : Int} (y n : Int) (hg : geomOk r s b o c = true) : (0 ≤ pgRank y r b o n ∧ pgRank y r b o n < r) ∧ (0 ≤ pgBank y r b o n ∧ pgBank y r b o n < b) ∧ (0 ≤ pgRow y r b o n ∧ pgRow y r b o n < o) := by
  obtain ⟨⟨d1, _⟩, _, ⟨d3, _⟩, ⟨d4, d5⟩, _, _⟩ := geom_bd hg
  have hb : pwB b 16 = true := by
    unfold geomOk at hg
    simp only [Bool.and_eq_true] at hg
    exact hg.2.2.2.1
  have hr : 0 ≤ pgRow y r b o n ∧ pgRow y r b o n < o := by unfold pgRow; split; exact emod_bd d4; split <;> exact emod_bd d4
  have hk : 0 ≤ pgBank0 y r b o n ∧ pgBank0 y r b o n < b := by unfold pgBank0; split; exact emod_bd d3; split <;> exact emod_bd d3
  refine ⟨?_, ?_, hr⟩
  · unfold pgRank; split; exact emod_bd d1; split <;> exact emod_bd d1
  · unfold pgBank; split
    · exact xor_bd hb hk.1 hk.2 hr.1 (by omega)
    · exact hk
end Go.Proofs.Ytpmnnijjohlloaa
