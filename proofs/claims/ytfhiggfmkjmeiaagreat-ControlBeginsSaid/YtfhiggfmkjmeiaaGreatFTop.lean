import Derived.Test.YtfhiggfmkjmeiaaGreatFSpr
import Derived.Test.YtfhiggfmkjmeiaaGreatFRun
set_option linter.all false
namespace Go.Proofs.YtfhiggfmkjmeiaaGreat
open Go Go.RowKit
set_option maxRecDepth 100000
theorem Lw (l:List Rec) :Sp P 171 [.sl 0] [.ro (.row Kt l)] (.fn (.func 224) [] [.pt 1 0]) [.ro (.row Kt l),.blk [.sl 0] 56] :=
 so Tryz.f171 3 [.id 0,.id 2] .nil
theorem Lr (s:LogS) :Sp P 102 [.pt 0 0] (ros (Vj s 0)) (.fn (.func 224) [] [.pt 2 0]) (ros (Vj s 0) ++ [.blk [.sl 1] 56]) :=
 so Tryz.f102 3 [.id 0,.id 1,.id 3] (.c [.id 1] (Lw s.l) .nil)
theorem B2d (room:Int) (l:List Pg) :Sp P 121 [.pt 0 0] [.ro (.blk [.sl 1,vi room,.fn (.func 238) [] []] 322),.ro (.row ePg l)] (.fn (.func 194) [] [.pt 2 0]) [.ro (.blk [.sl 1,vi room,.fn (.func 238) [] []] 322),.ro (.row ePg l),.blk [.pt 0 0] 222] :=
 so Tryz.f121 3 [.id 0,.id 1,.id 3] .nil
def Ar7:Cfg:=(⟨(⟨(⟨1,0,1,2,2⟩:Gm),0,0⟩:Ly),1,(⟨(⟨9,9⟩:Rl),(⟨9,9⟩:Rl),2,2⟩:Rls),4,true⟩:Cfg)
theorem Ow (s:CtlS) :Sp P 47 [.pt 0 0] (ros (Ct s 0) ++ ros (Bg 24)) (.pt 13 0) (ros (Ct s 0) ++ ros (Bg 24)) :=
 so Tryz.f47 3 (ir 0 29) .nil
