import Derived.Test.YtfhiggfmkjmeiaaGreatFSpr
import Derived.Test.YtfhiggfmkjmeiaaGreatFRun
set_option linter.all false
namespace Go.Proofs.YtfhiggfmkjmeiaaGreat
open Go Go.RowKit
set_option maxRecDepth 100000
theorem B2d (room:Int) (l:List Pg) :Sp P 121 [.pt 0 0] [.ro (.blk [.sl 1,vi room,.fn (.func 238) [] []] 322),.ro (.row ePg l)] (.fn (.func 194) [] [.pt 2 0]) [.ro (.blk [.sl 1,vi room,.fn (.func 238) [] []] 322),.ro (.row ePg l),.blk [.pt 0 0] 222] :=
 so Tryz.f121 3 [.id 0,.id 1,.id 3] .nil
def Bu (c:Cfg):Bool:=bif (A8 c) then (bif (Uq c.ly.g) then (decide (IntKind.i64.wrap ((IntKind.i64.wrap ((IntKind.i64.wrap ((IntKind.i64.wrap (c.ly.g.ranks + c.ly.g.spares)) * c.ly.g.banks)) * c.ly.g.rows)) * c.ly.g.cols)<=100)) else false) else false
theorem Apa (c:Cfg) :Sp P 92 [.ag [vi c.ly.g.ranks,vi c.ly.g.spares,vi c.ly.g.banks,vi c.ly.g.rows,vi c.ly.g.cols,vi c.ly.way,vi c.ly.res,vi c.mode,vi c.rules.rank.limit,vi c.rules.rank.every,vi c.rules.page.limit,vi c.rules.page.every,vi c.rules.room,vi c.rules.heavy,vi c.log,vt c.back]] [] (vt (Bu c)) []:=by
 generalize d0:Bu c=yd0
 unfold Bu at d0
 rcases bft (A8 c) with q1 | q1
 ·rw [A2 q1] at d0
  rcases bft (Uq c.ly.g) with q2 | q2
  ·rw [A2 q2] at d0
   subst d0
   exact so Tryz.f92 4 [] (.c [] (Q2 c) (.t2 q1 (.c [] (B0t c.ly.g) (.t q1 (.t4 q2 (.t4 q2 (.t4 q2 (.t4 q2 .nil))))))))
  ·rw [A1 q2] at d0
   subst d0
   exact so Tryz.f92 4 [] (.c [] (Q2 c) (.t2 q1 (.c [] (B0t c.ly.g) (.t q1 (.t4 q2 (.t4 q2 (.t4 q2 (.t4 q2 .nil))))))))
 ·rw [A1 q1] at d0
  subst d0
  exact so Tryz.f92 4 [] (.c [] (Q2 c) (.t2 q1 (.t q1 (.n8 (.n8 .nil)))))
theorem C9 {c:Cfg} (h:Bu c=true):A8 c=true:=by
 unfold Bu at h
 revert h; cases A8 c <;> simp
theorem Yu (c:Cfg) (hp:Bu c=false):Sp P 15 [.ag [vi c.ly.g.ranks,vi c.ly.g.spares,vi c.ly.g.banks,vi c.ly.g.rows,vi c.ly.g.cols,vi c.ly.way,vi c.ly.res,vi c.mode,vi c.rules.rank.limit,vi c.rules.rank.every,vi c.rules.page.limit,vi c.rules.page.every,vi c.rules.room,vi c.rules.heavy,vi c.log,vt c.back]] [] (B23) [] :=
 so Tryz.f15 3 [] (.c [] (Apa c) (.t (congrArg (!·) (show (Bu c)=false from hp)) .nil))
theorem K6 (c:Cfg) (hp:Bu c=true):Sp P 15 [.ag [vi c.ly.g.ranks,vi c.ly.g.spares,vi c.ly.g.banks,vi c.ly.g.rows,vi c.ly.g.cols,vi c.ly.way,vi c.ly.res,vi c.mode,vi c.rules.rank.limit,vi c.rules.rank.every,vi c.rules.page.limit,vi c.rules.page.every,vi c.rules.room,vi c.rules.heavy,vi c.log,vt c.back]] [] (.pt 0 0) ([.blk [.pt 16 0,.pt 1 0,.mp 30,.sl 31,.sl 32,vi (Ac c).scrubs,vi (Ac c).steps] 171] ++ Ct (Ac c).c 1 ++ Bg 25 ++ [.mp (.ar .u8 64 (nf (fun _=>0))) (mpC (Ac c).ideal),.row Dw (Ac c).inj,.row G5 (Ac c).srv]) :=
 so Tryz.f15 36 (ir 2 33) (.c [] (Apa c) (.t (congrArg (!·) (show (Bu c)=true from hp)) (.c [] (B09 c (C9 hp)) (.n .nil))))
def Ar7:Cfg:=(⟨(⟨(⟨1,0,1,2,2⟩:Gm),0,0⟩:Ly),1,(⟨(⟨9,9⟩:Rl),(⟨9,9⟩:Rl),2,2⟩:Rls),4,true⟩:Cfg)
def stA:Stp:=(⟨2,1,fun _=>6,0,(⟨0,0,0,0,0,0,0,0⟩:Flt)⟩:Stp)
def stB:Stp:=(⟨8,0,fun _=>0,0,(⟨1,0,0,0,1,0,40,0⟩:Flt)⟩:Stp)
def stC:Stp:=(⟨1,1,fun _=>0,0,(⟨0,0,0,0,0,0,0,0⟩:Flt)⟩:Stp)
def mT1:MchS:=Al (Ac Ar7) stA
def mT2:MchS:=Al mT1 stB
def mT3:MchS:=Al mT2 stC
theorem Aph:StpOk stA:=⟨fun _=>(by decide:(6:Nat) < 256),(by decide:(0:Nat) < 18446744073709551616)⟩
theorem Api:StpOk stB:=⟨fun _=>(by decide:(0:Nat) < 256),(by decide:(0:Nat) < 18446744073709551616)⟩
theorem Apk:StpOk stC:=⟨fun _=>(by decide:(0:Nat) < 256),(by decide:(0:Nat) < 18446744073709551616)⟩
theorem B0j:MchOk 8388608 (Ac Ar7):=Kx (by decide +kernel)
theorem B0k:MchOk 8388612 mT1:=A07 B0j Aph
theorem B0l:MchOk 8388616 mT2:=A07 B0k Api
theorem B25:MchOk 8388620 mT3:=A07 B0l Apk
theorem Ow (s:CtlS) :Sp P 47 [.pt 0 0] (ros (Ct s 0) ++ ros (Bg 24)) (.pt 13 0) (ros (Ct s 0) ++ ros (Bg 24)) :=
 so Tryz.f47 3 (ir 0 29) .nil
theorem Ayh  :Sp P 90 [] [] (.ag [vn 1,vn 0,vn 1,vn 2,vn 2,vn 0,vn 0,vn 1,vn 9,vn 9,vn 9,vn 9,vn 2,vn 2,vn 4,vt true]) [] :=
 so Tryz.f90 4 [] .nil
theorem A2k:((decide ((D7 mT2 stC)=0)) && ((decide ((Gy mT2 stC)=0)) && ((eqA (nf (Eb mT2 stC)) (nf (fun _=>6)) 64 0) && true)))=true:=by decide +kernel
theorem Ajo:(decide ((mT3.c.le.log.l.length:Int)=1))=true:=by decide +kernel
def A77 :Bool:=Dq mT3
theorem alive  :Sp P 14 [] [] (vt (A77)) [] :=
 so Tryz.f14 38 [] (.c [] (Ayh) (.c [] (K6 Ar7 ((by decide +kernel))) (.n (.c [] (fill 6) (.c (ir 2 33) (mDo (Ac Ar7) stA (MchOk.mono B0j (by decide)) Aph) (.c (ir 2 33) (mDo mT1 stB (MchOk.mono B0k (by decide)) Api) (.c (ir 2 33) (mDo mT2 stC (MchOk.mono B0l (by decide)) Apk) (.t (show ((decide ((D7 mT2 stC)=0)) && ((decide ((Gy mT2 stC)=0)) && ((eqA (nf (Eb mT2 stC)) (nf (fun _=>6)) 64 0) && true)))=true from A2k) (.t (show ((decide ((D7 mT2 stC)=0)) && ((decide ((Gy mT2 stC)=0)) && ((eqA (nf (Eb mT2 stC)) (nf (fun _=>6)) 64 0) && true)))=true from A2k) (.c (ir 2 33) (Azw mT3) (.t (show ((decide ((D7 mT2 stC)=0)) && ((decide ((Gy mT2 stC)=0)) && ((eqA (nf (Eb mT2 stC)) (nf (fun _=>6)) 64 0) && true)))=true from A2k) (.c (ir 3 29) (Ow mT3.c) (.t (show ((decide ((D7 mT2 stC)=0)) && ((decide ((Gy mT2 stC)=0)) && ((eqA (nf (Eb mT2 stC)) (nf (fun _=>6)) 64 0) && true)))=true from A2k) (.c [.id 16,.id 17] (A5o mT3.c.le.log) (.t (show ((decide ((D7 mT2 stC)=0)) && ((decide ((Gy mT2 stC)=0)) && ((eqA (nf (Eb mT2 stC)) (nf (fun _=>6)) 64 0) && true)))=true from A2k) (.t (show ((decide ((D7 mT2 stC)=0)) && ((decide ((Gy mT2 stC)=0)) && ((eqA (nf (Eb mT2 stC)) (nf (fun _=>6)) 64 0) && true)))=true from A2k) (.t (show (decide ((mT3.c.le.log.l.length:Int)=1))=true from Ajo) (.t (show (decide ((mT3.c.le.log.l.length:Int)=1))=true from Ajo) (.c (ir 2 33) (A8r mT3 (Nat.le_trans B25.c.dl (by decide))) (.t (show (decide ((mT3.c.le.log.l.length:Int)=1))=true from Ajo) .nil))))))))))))))))))))
theorem Ld:Sp P 14 [] [] (vt true) []:=by
 have h:=alive
 rw [show A77=true by decide +kernel] at h
 exact h
