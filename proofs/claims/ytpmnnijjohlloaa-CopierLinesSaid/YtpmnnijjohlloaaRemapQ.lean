/- What a map is while pages are retired: plain. -/
import Derived.Test.YtpmnnijjohlloaaRemapE
namespace Go.Proofs.Ytpmnnijjohlloaa
open Go Go.RowKit
set_option linter.unusedVariables false
set_option linter.unusedSimpArgs false
set_option linter.unusedSectionVars false
theorem getD_retL (home to : Int) (L : List Int) (k : Nat) (h : k < L.length) : (retL home to L).getD k 0 = if L.getD k 0 = home then to else L.getD k 0 := by
  simp [retL, List.getD, h]
section
variable {r s b o c y z : Int} {pg sn ns : Nat} (hL : Lay r s b o c y z pg sn ns) {C N : Nat} (hC : c = (C : Int)) (hN : (sn : Int) * c = (N : Int))
include hL hC hN
end
end Go.Proofs.Ytpmnnijjohlloaa
