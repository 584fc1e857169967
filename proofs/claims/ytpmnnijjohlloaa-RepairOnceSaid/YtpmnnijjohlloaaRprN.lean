/- Where lines are routed while a job goes on, and behind it: plain. -/
import Derived.Test.YtpmnnijjohlloaaRprS
import Derived.Test.YtpmnnijjohlloaaRprT
import Derived.Test.YtpmnnijjohlloaaRemapP
namespace Go.Proofs.Ytpmnnijjohlloaa
open Go Go.RowKit
set_option linter.unusedVariables false
set_option linter.unusedSectionVars false
section
variable {r s b o c y z : Int} {sn pg ns : Nat} (hL : Lay r s b o c y z pg sn ns)
include hL
end
section
variable {r s b o c y z : Int} {sn pg ns : Nat}
variable (hL : Lay r s b o c y z pg sn ns)
include hL
end
section
variable {r s b o c y z : Int} {sn pg ns : Nat} (hL : Lay r s b o c y z pg sn ns) {S0 : List Int} {j0 : Job4}
include hL
end
end Go.Proofs.Ytpmnnijjohlloaa
