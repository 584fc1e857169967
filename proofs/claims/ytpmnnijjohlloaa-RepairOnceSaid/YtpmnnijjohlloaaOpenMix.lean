/- Arguments that are structs of plain cells and of slices of plain elements, opened all alike. -/
import Derived.Test.YtpmnnijjohlloaaOpen
import Derived.Test.YtpmnnijjohlloaaBase
import Derived.Test.YtpmnnijjohlloaaPx
namespace Go.Proofs.Ytpmnnijjohlloaa
open Go Go.ChangeShapes Go.WideShapes Go.ChangeAt Go.RowKit
set_option linter.unusedVariables false
section
variable {H : Type} {enc : TypeId × Value → H} {P : Program} {w : World} {base : Nat} {spare : Nat → Bool} {held : Bool}
end
end Go.Proofs.Ytpmnnijjohlloaa
