import Derived.Test.YtfhiggfmkjmeiaaGreatFL24
set_option linter.all false
namespace Go.Proofs.YtfhiggfmkjmeiaaGreat
open Go Go.RowKit
set_option maxRecDepth 100000
def Jq (x:Srv):Bool:=bif decide (x.step.kind=1) then (eqA (nf x.ans.line) (nf x.want) 64 0) else true
