/- The law RemapPlays, walked. -/
import Derived.Test.YtpmnnijjohlloaaRemapX
import Derived.Test.YtpmnnijjohlloaaRemapY
import Derived.Test.YtpmnnijjohlloaaRemapC
import Derived.Test.YtpmnnijjohlloaaRemapE
import Derived.Test.YtpmnnijjohlloaaRat
import Derived.Test.YtpmnnijjohlloaaPxZ
namespace Go.Proofs.Ytpmnnijjohlloaa
open Go Go.RowKit
set_option linter.unusedVariables false
set_option linter.unusedSimpArgs false
theorem MapV.new {r s b o c y z : Int} {pg sn ns : Nat} (hL : Lay r s b o c y z pg sn ns) : MapV r s z sn pg ns (iota sn) (List.replicate pg false) (List.replicate ns (-1)) 0 0 := by
  have hz := hL.z0
  have hs := hL.s0
  have hsn := hL.hsn
  refine ⟨⟨iota_len sn, List.length_replicate, List.length_replicate, by omega, by omega⟩, fun k hk => ?_, fun q hq => .inl ?_⟩
  · rw [iota_get _ _ _ hk]; omega
  · simp [List.getD, hq]
end Go.Proofs.Ytpmnnijjohlloaa
