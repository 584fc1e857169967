/- A map held against the document's. -/
import Derived.Test.YtpmnnijjohlloaaRemapV
import Derived.Test.YtpmnnijjohlloaaPxR
import Derived.Test.YtpmnnijjohlloaaPxF
import Derived.Test.YtpmnnijjohlloaaPxZ
namespace Go.Proofs.Ytpmnnijjohlloaa
open Go Go.RowKit
set_option linter.unusedVariables false
set_option linter.unusedSimpArgs false
theorem idxP_in {r s b o c y z : Int} {pg sn ns : Nat} (hL : Lay r s b o c y z pg sn ns) {L : List Int} {D : List Bool} {S : List Int} {pu ru : Nat} (hV : MapV r s z sn pg ns L D S pu ru) {h : Int} (h0 : 0 ≤ h) (h1 : h < (pg : Int)) : 0 ≤ idxP y r b o S h ∧ idxP y r b o S h ≤ 2000000 := by
  obtain ⟨p1, p2, p3⟩ := pgAt_bd y h (geom_of hL)
  have hns := hL.hns
  have r8 := hL.r8
  have hr := hV.m.hr
  have s8 := hL.s8
  have hs := hV.sv (pgAt y r b o h / 16384).toNat (by omega)
  unfold idxP
  split <;> omega
end Go.Proofs.Ytpmnnijjohlloaa
