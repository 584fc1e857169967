/- The law RepairPlays, walked. -/
import Derived.Test.YtpmnnijjohlloaaRprJ
import Derived.Test.YtpmnnijjohlloaaRat3
import Derived.Test.YtpmnnijjohlloaaPxZ
namespace Go.Proofs.Ytpmnnijjohlloaa
open Go Go.RowKit
set_option linter.unusedVariables false
set_option linter.unusedSimpArgs false
end Go.Proofs.Ytpmnnijjohlloaa
