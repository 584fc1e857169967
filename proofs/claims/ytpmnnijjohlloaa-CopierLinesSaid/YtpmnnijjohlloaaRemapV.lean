/- The document's map: what took a place, in a list. Plain laws. -/
import Derived.Test.YtpmnnijjohlloaaRemapS
import Derived.Test.YtpmnnijjohlloaaRemapC
import Derived.Test.YtpmnnijjohlloaaOpen
import Derived.Test.YtpmnnijjohlloaaBase
import Derived.Test.YtpmnnijjohlloaaPx
import Derived.Test.YtpmnnijjohlloaaPxD
import Derived.Test.YtpmnnijjohlloaaPxZ
namespace Go.Proofs.Ytpmnnijjohlloaa
open Go Go.RowKit
set_option linter.unusedVariables false
abbrev Ent := Int × Int
def entL (x : Ent) : List Value := [.int .i64 x.1, .int .i64 x.2]
section
variable {r s z : Int} {sn pg ns : Nat} {L : List Int} {D : List Bool} {S : List Int} {pu ru : Nat} {Pg Rk : List Ent}
end
end Go.Proofs.Ytpmnnijjohlloaa
