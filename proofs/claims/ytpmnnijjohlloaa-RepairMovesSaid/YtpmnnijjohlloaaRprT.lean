/- The document's repair: what waits, as a slice of a row. -/
import Derived.Test.YtpmnnijjohlloaaRprE
import Derived.Test.YtpmnnijjohlloaaRemapY
namespace Go.Proofs.Ytpmnnijjohlloaa
open Go Go.RowKit
set_option linter.unusedVariables false
section
variable {fv : Value} {F : List Ent} {ad : Option Addr} {n c : Nat} {Q : List Ent} {w : World} {ty : TypeId}
end
/-- What the document's repair has besides. -/
structure D21 where
  pv : Value
  kv : Value
  fv : Value
  Pg : List Ent
  Rk : List Ent
  F : List Ent
  ad : Option Addr
  n : Nat
  c : Nat
section
variable {r s b o c y z : Int} {sn pg ns : Nat} {x : Rp} {Pg Rk : List Ent}
theorem RpOk.reE0 (hL : Lay r s b o c y z pg sn ns) (h : RpOk r s b o c z sn pg ns x) (h1 : x.j.1 = 1) : reE sn pg x.pu x.D x.j.2.1 x.j.2.2.1 = 0 := by
  have hsn := hL.hsn
  have hpu := h.v.m.hp
  rcases h.jb with e | ⟨-, h2, h3, h4, h5, h6, h7, h8, h9⟩ | e
  · rw [e] at h1; cases h1
  · unfold reE
    rw [if_neg (by omega), if_neg]
    rintro (q | q | q)
    · rw [h3] at q; cases q
    · rw [h5] at q; cases q
    · exact h6 q
  · omega
theorem RpOk.rpE0 (hL : Lay r s b o c y z pg sn ns) (h : RpOk r s b o c z sn pg ns x) (h1 : x.j.1 = 2) : rpE r ns x.ru x.S x.j.2.1 x.j.2.2.1 = 0 := by
  rcases h.jb with e | e | ⟨-, h2, h3, h4, h5, h8, h9⟩
  · rw [e] at h1; cases h1
  · omega
  · unfold rpE; rw [if_neg (by omega), if_neg (fun q => q h3)]
end
end Go.Proofs.Ytpmnnijjohlloaa
