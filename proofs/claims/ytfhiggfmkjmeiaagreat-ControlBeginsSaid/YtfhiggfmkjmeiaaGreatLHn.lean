import Derived.Test.YtfhiggfmkjmeiaaGreatLOp
import Derived.Test.YtfhiggfmkjmeiaaGreatLBg
set_option linter.all false
namespace Go.Proofs.YtfhiggfmkjmeiaaGreat
open Go Go.RowKit
theorem Xo {c:Cfg} {s:CtlS} (dk:DevOk s.d) (i:Int) (j:Nat):vD c s i j < 256:=Zb (fun j=>Iv dk j) j
