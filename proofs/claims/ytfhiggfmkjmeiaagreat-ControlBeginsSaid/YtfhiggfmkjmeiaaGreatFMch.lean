import Derived.Test.YtfhiggfmkjmeiaaGreatFCtl
import Derived.Test.YtfhiggfmkjmeiaaGreatFxX
set_option linter.all false
namespace Go.Proofs.YtfhiggfmkjmeiaaGreat
open Go Go.RowKit
set_option maxRecDepth 100000
structure MchOk (n:Nat) (s:MchS):Prop where
 c:CtlOk n s.c
 id:∀ k j,s.ideal k j < 256
 il:s.inj.length<=n
 sl:s.srv.length<=n
 ly:Bc s.c.le.c.ly=true
