/- Restore: the map of a state, or none. -/
import Derived.Test.YtpmnnijjohlloaaRemapQ
import Derived.Test.YtpmnnijjohlloaaOpenMix
import Derived.Test.YtpmnnijjohlloaaPxD
import Derived.Test.YtpmnnijjohlloaaPxZ
namespace Go.Proofs.Ytpmnnijjohlloaa
open Go Go.RowKit
set_option linter.unusedVariables false
set_option linter.unusedSimpArgs false
section
variable {r s b o c y z : Int} {pg sn ns : Nat} (hL : Lay r s b o c y z pg sn ns)
include hL
end
end Go.Proofs.Ytpmnnijjohlloaa
