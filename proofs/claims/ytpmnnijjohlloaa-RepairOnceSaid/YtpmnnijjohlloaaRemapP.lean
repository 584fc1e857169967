/- Where pages are laid: no two at one place. -/
import Derived.Test.YtpmnnijjohlloaaRemapE
namespace Go.Proofs.Ytpmnnijjohlloaa
open Go Go.RowKit
set_option linter.unusedVariables false
set_option linter.unusedSimpArgs false
end Go.Proofs.Ytpmnnijjohlloaa
