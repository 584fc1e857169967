/- Where lines are routed while a job goes on, and behind it: plain. -/
import Derived.Test.YtpmnnijjohlloaaRprS
import Derived.Test.YtpmnnijjohlloaaRprQ
import Derived.Test.YtpmnnijjohlloaaPxD
import Derived.Test.YtpmnnijjohlloaaRemapS
import Derived.Test.YtpmnnijjohlloaaRprD
import Derived.Test.YtpmnnijjohlloaaPxZ
import Derived.Test.YtpmnnijjohlloaaRemapY
import Derived.Test.YtpmnnijjohlloaaRemapE
namespace Go.Proofs.Ytpmnnijjohlloaa
open Go Go.RowKit
set_option linter.unusedVariables false
set_option linter.unusedSectionVars false
theorem divmod {q m j : Int} (h0 : 0 ≤ j) (h1 : j < m) : (q * m + j) / m = q ∧ (q * m + j) % m = j := by
  have e : q * m + j = j + q * m := Int.add_comm _ _
  rw [e, Int.add_mul_ediv_right _ _ (by omega), Int.add_mul_emod_self_right, Int.ediv_eq_zero_of_lt h0 h1, Int.emod_eq_of_lt h0 h1]
  exact ⟨by omega, rfl⟩
section
variable {r s b o c y z : Int} {sn pg ns : Nat} (hL : Lay r s b o c y z pg sn ns)
include hL
end
section
variable {r s b o c y z : Int} {sn pg ns : Nat}
variable (hL : Lay r s b o c y z pg sn ns)
include hL
end
section
variable {r s b o c y z : Int} {sn pg ns : Nat} (hL : Lay r s b o c y z pg sn ns) {S0 : List Int} {j0 : Job4}
include hL
end
end Go.Proofs.Ytpmnnijjohlloaa
