/- A step of a map and of the document's. -/
import Derived.Test.YtpmnnijjohlloaaGreatRemapU
import Derived.Test.YtpmnnijjohlloaaGreatPxZ
namespace Go.Proofs.YtpmnnijjohlloaaGreat
open Go Go.RowKit
set_option linter.unusedVariables false
set_option linter.unusedSimpArgs false
abbrev Op3 := Int × Int × Int
def mvPu (z : Int) (pu : Nat) (o : Op3) : Nat := if o.1 = 1 then tkN z pu else pu
def mvL (sn pg pu : Nat) (D : List Bool) (L : List Int) (o : Op3) : List Int := if o.1 = 3 then reL sn pg pu D o.2.1 o.2.2 L else L
def mvD (sn pg pu : Nat) (D : List Bool) (o : Op3) : List Bool := if o.1 = 3 then reD sn pg pu D o.2.1 o.2.2 else D
section
variable {r s b o c y z : Int} {pg sn ns : Nat} {L : List Int} {D : List Bool} {S : List Int} {pu ru : Nat} {Pg Rk : List Ent}
end
end Go.Proofs.YtpmnnijjohlloaaGreat
