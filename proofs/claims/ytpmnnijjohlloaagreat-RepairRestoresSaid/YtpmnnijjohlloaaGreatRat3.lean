/- Slices of three ints that are handed in, with their ranges. -/
import Derived.Test.YtpmnnijjohlloaaGreatRat
namespace Go.Proofs.YtpmnnijjohlloaaGreat
open Go Go.RowKit
set_option linter.unusedVariables false
abbrev Int3 := Int × Int × Int
def int3L (x : Int3) : List Value := [.int .i64 x.1, .int .i64 x.2.1, .int .i64 x.2.2]
def int3of (r : List Value) : Int3 := (intOf (r[0]?.getD .nilFunc), intOf (r[1]?.getD .nilFunc), intOf (r[2]?.getD .nilFunc))
/-- A number of 64 bits. -/
def I64 (x : Int) : Prop := -9223372036854775808 ≤ x ∧ x ≤ 9223372036854775807
theorem int3_dec (r : List Value) (h : fitsAll [.inl .i64, .inl .i64, .inl .i64] r) : int3L (int3of r) = r ∧ I64 (int3of r).1 ∧ I64 (int3of r).2.1 ∧ I64 (int3of r).2.2 := by
  simp only [fitsAll_cons, fitsAll_nil, lfFits] at h
  obtain ⟨_, _, rfl, ⟨x, rfl, wx⟩, _, _, rfl, ⟨y, rfl, wy⟩, _, _, rfl, ⟨z, rfl, wz⟩, rfl⟩ := h
  simp [Lit.wf, IntKind.min, IntKind.max, IntKind.signed, IntKind.bits] at wx wy wz
  refine ⟨by simp [int3L, int3of, intOf], ?_, ?_, ?_⟩ <;> simp [int3of, intOf, I64] <;> omega
theorem int3s_of_rows {w : World} {a : Option Addr} {len : Nat} {rows : List (List Value)} (h : rowsAt w [.inl .i64, .inl .i64, .inl .i64] a len rows) : ∃ l : List Int3, l.length = len ∧ RAt int3L 3 (0, 0, 0) w a len l ∧ ∀ x ∈ l, I64 x.1 ∧ I64 x.2.1 ∧ I64 x.2.2 := by
  obtain ⟨l, h1, h2, h3⟩ := rat_of_rows int3L 3 (0, 0, 0) int3of (fun r h => (int3_dec r h).1) rfl (by decide) h
  refine ⟨l, h1, h2, fun x hx => ?_⟩
  obtain ⟨r, hr, rfl⟩ := h3 x hx
  exact (int3_dec r hr).2
end Go.Proofs.YtpmnnijjohlloaaGreat
