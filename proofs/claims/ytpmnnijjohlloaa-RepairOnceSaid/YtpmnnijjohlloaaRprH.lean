/- A repair held against the document's. -/
import Derived.Test.YtpmnnijjohlloaaRprF
import Derived.Test.YtpmnnijjohlloaaPxZ
namespace Go.Proofs.Ytpmnnijjohlloaa
open Go Go.RowKit
set_option linter.unusedVariables false
set_option linter.unusedSimpArgs false
end Go.Proofs.Ytpmnnijjohlloaa
