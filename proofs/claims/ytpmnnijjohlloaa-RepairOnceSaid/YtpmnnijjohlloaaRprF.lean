/- Contracts of the document's repair. -/
import Derived.Test.YtpmnnijjohlloaaRprT
import Derived.Test.YtpmnnijjohlloaaPxZ
namespace Go.Proofs.Ytpmnnijjohlloaa
open Go Go.RowKit
set_option linter.unusedVariables false
set_option linter.unusedSimpArgs false
end Go.Proofs.Ytpmnnijjohlloaa
