/- More of rows that are only read; lists without an element, told step by step. -/
import Derived.Test.YtpmnnijjohlloaaPxD
import Derived.Laws.CopyRow
namespace Go.Proofs.Ytpmnnijjohlloaa
open Go Go.RowKit
set_option linter.unusedVariables false
theorem takeNext {α : Type} (d : α) (xs : List α) (k : Nat) (h : k < xs.length) : xs.take (k + 1) = xs.take k ++ [xs.getD k d] := by
  rw [List.take_succ_eq_append_getElem h]; simp [List.getD, h]
end Go.Proofs.Ytpmnnijjohlloaa
