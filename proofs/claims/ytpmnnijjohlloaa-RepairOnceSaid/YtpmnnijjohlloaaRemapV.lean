/- The document's map: what took a place, in a list. Plain laws. -/
import Derived.Test.YtpmnnijjohlloaaRemapS
import Derived.Test.YtpmnnijjohlloaaRemapT
namespace Go.Proofs.Ytpmnnijjohlloaa
open Go Go.RowKit
set_option linter.unusedVariables false
abbrev Ent := Int × Int
def entL (x : Ent) : List Value := [.int .i64 x.1, .int .i64 x.2]
theorem entLen (x : Ent) : (entL x).length = 2 := rfl
theorem getD_mem {α : Type} {l : List α} {k : Nat} (h : k < l.length) (d : α) : l.getD k d ∈ l := by
  have e : l.getD k d = l[k] := by simp [List.getD, h]
  rw [e]; exact List.getElem_mem h
section
variable {r s z : Int} {sn pg ns : Nat} {L : List Int} {D : List Bool} {S : List Int} {pu ru : Nat} {Pg Rk : List Ent}
end
end Go.Proofs.Ytpmnnijjohlloaa
