/- What a repair does, told by plain functions. -/
import Derived.Test.YtpmnnijjohlloaaRemapQ
import Derived.Test.YtpmnnijjohlloaaOpen
import Derived.Test.YtpmnnijjohlloaaBase
import Derived.Test.YtpmnnijjohlloaaPx
import Derived.Test.YtpmnnijjohlloaaPxD
import Derived.Test.YtpmnnijjohlloaaRemapV
import Derived.Test.YtpmnnijjohlloaaPxR
import Derived.Test.YtpmnnijjohlloaaPxF
import Derived.Test.YtpmnnijjohlloaaPxZ
import Derived.Test.YtpmnnijjohlloaaRat
namespace Go.Proofs.Ytpmnnijjohlloaa
open Go Go.RowKit
set_option linter.unusedVariables false
/-- What a repair has: a map's parts, a job, what waits. -/
structure Rp where
  L : List Int
  D : List Bool
  S : List Int
  pu : Nat
  ru : Nat
  j : Int × Int × Int × Int
  Q : List Ent
section
variable (r s z : Int) (sn pg ns : Nat)
def Rp.cnt (b o c : Int) (j : Int × Int × Int × Int) : Int := if j.1 = 1 then c else if j.1 = 2 then b * o * c else 0
end
section
variable {r s b o c y z : Int} {sn pg ns : Nat} {x : Rp}
end
end Go.Proofs.Ytpmnnijjohlloaa
