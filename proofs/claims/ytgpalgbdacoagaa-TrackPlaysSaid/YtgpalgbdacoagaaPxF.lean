/- More of rows that are only read; lists without an element, told step by step. -/
import Derived.Test.YtgpalgbdacoagaaPxD
namespace Go.Proofs.Ytgpalgbdacoagaa
open Go Go.RowKit
set_option linter.unusedVariables false
theorem Ro.rowCel {w : World} {K : List Res} (h : Ro w K) (i : Nat) {ty : TypeId} {sz n : Nat} {v : Value} {xs : List Value} (hi : K[i]? = some (.row v ty sz n xs)) : v.cells = #[v] := by
  rcases Go.Proofs.Ytgpalgbdacoagaa.rowForm (h i _ hi) with ⟨rfl, _⟩ | ⟨g, cap, rfl, _⟩ <;> rfl
theorem Ro.rowOne {w : World} {K : List Res} (h : Ro w K) (i : Nat) {ty : TypeId} {sz n : Nat} {v : Value} {xs : List Value} (hi : K[i]? = some (.row v ty sz n xs)) : v.oneCell' = true := by
  rcases Go.Proofs.Ytgpalgbdacoagaa.rowForm (h i _ hi) with ⟨rfl, _⟩ | ⟨g, cap, rfl, _⟩ <;> rfl
theorem takeNext {α : Type} (d : α) (xs : List α) (k : Nat) (h : k < xs.length) : xs.take (k + 1) = xs.take k ++ [xs.getD k d] := by
  rw [List.take_succ_eq_append_getElem h]; simp [List.getD, h]
theorem erNext {α : Type} (d : α) {xs : List α} {k q : Nat} (h : k < xs.length) (hne : ¬ k = q) : (xs.take (k + 1)).eraseIdx q = (xs.take k).eraseIdx q ++ [xs.getD k d] := by
  rw [takeNext d xs k h]
  have hl : (xs.take k).length = k := by simp; omega
  by_cases hq : q < k
  · rw [List.eraseIdx_append_of_lt_length (by omega)]
  · rw [List.eraseIdx_of_length_le (by simp; omega), List.eraseIdx_of_length_le (by omega)]
theorem erSame {α : Type} {xs : List α} {q : Nat} (h : q < xs.length) : (xs.take (q + 1)).eraseIdx q = (xs.take q).eraseIdx q := by
  rw [takeNext xs[q] xs q h]
  have hl : (xs.take q).length = q := by simp; omega
  have e : (xs.take q).eraseIdx q = xs.take q := List.eraseIdx_of_length_le (by omega)
  rw [List.eraseIdx_append_of_length_le (by omega), hl, Nat.sub_self, e]
  simp
end Go.Proofs.Ytgpalgbdacoagaa
