import Derived.Test.YtfhiggfmkjmeiaaGreatFJue
import Derived.Test.YtfhiggfmkjmeiaaGreatFFlt
set_option linter.all false
namespace Go.Proofs.YtfhiggfmkjmeiaaGreat
open Go Go.RowKit
set_option maxRecDepth 100000
def plG (g:Gm):Int:=IntKind.i64.wrap (IntKind.i64.wrap (g.ranks + g.spares) * Cd g)
