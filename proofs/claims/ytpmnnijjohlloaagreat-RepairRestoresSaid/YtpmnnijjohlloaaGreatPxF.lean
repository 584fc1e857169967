/- More of rows that are only read; lists without an element, told step by step. -/
import Derived.Test.YtpmnnijjohlloaaGreatPxD
import Derived.Laws.CopyRow
namespace Go.Proofs.YtpmnnijjohlloaaGreat
open Go Go.RowKit
set_option linter.unusedVariables false
theorem Ro.rowOne {w : World} {K : List Res} (h : Ro w K) (i : Nat) {ty : TypeId} {sz n : Nat} {v : Value} {xs : List Value} (hi : K[i]? = some (.row v ty sz n xs)) : v.oneCell' = true := by
  rcases Go.Proofs.YtpmnnijjohlloaaGreat.rowForm (h i _ hi) with ⟨rfl, _⟩ | ⟨g, cap, rfl, _⟩ <;> rfl
theorem takeNext {α : Type} (d : α) (xs : List α) (k : Nat) (h : k < xs.length) : xs.take (k + 1) = xs.take k ++ [xs.getD k d] := by
  rw [List.take_succ_eq_append_getElem h]; simp [List.getD, h]
theorem lenForm {P : Program} {w : World} {v : Value} {n : Nat} {t tt : TypeId} (hf : (v = .slice none 0 0 ∧ n = 0) ∨ ∃ g cap, v = .slice (some ⟨g, 0, none⟩) n cap ∧ n ≤ cap ∧ cap ≤ maxLen) (hu : P.underlying t = some (.slice (P.elem t))) :
    ((Builtin.len_ #[t] tt #[v]) >>= fun v => pure (Next.value v)).run P w = .ok (.value (.int .i64 ((n : Nat) : Int))) w := by
  rcases hf with ⟨rfl, rfl⟩ | ⟨g, cap, rfl, _⟩ <;> (rw [Sem.run_bind, run_len_slice (h := hu)]; rfl)
end Go.Proofs.YtpmnnijjohlloaaGreat
