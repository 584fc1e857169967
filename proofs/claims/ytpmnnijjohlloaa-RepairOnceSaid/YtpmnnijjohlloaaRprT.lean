/- The document's repair: what waits, as a slice of a row. -/
import Derived.Test.YtpmnnijjohlloaaRprE
import Derived.Test.YtpmnnijjohlloaaRemapY
namespace Go.Proofs.Ytpmnnijjohlloaa
open Go Go.RowKit
set_option linter.unusedVariables false
section
variable {fv : Value} {F : List Ent} {ad : Option Addr} {n c : Nat} {Q : List Ent} {w : World} {ty : TypeId}
end
/-- What the document's repair has besides. -/
structure D21 where
  pv : Value
  kv : Value
  fv : Value
  Pg : List Ent
  Rk : List Ent
  F : List Ent
  ad : Option Addr
  n : Nat
  c : Nat
section
variable {r s b o c y z : Int} {sn pg ns : Nat} {x : Rp} {Pg Rk : List Ent}
end
end Go.Proofs.Ytpmnnijjohlloaa
