import Derived.Test.YtfhiggfmkjmeiaaGreatFJue
import Derived.Test.YtfhiggfmkjmeiaaGreatFFlt
import Derived.Test.YtfhiggfmkjmeiaaGreatFRun
set_option linter.unusedVariables false
set_option linter.unusedSimpArgs false
set_option linter.unusedSectionVars false
namespace Go.Proofs.YtfhiggfmkjmeiaaGreat
open Go Go.RowKit
set_option maxRecDepth 100000
def smallT_v0 (c:Cfg):Bool:=bif (cfgRight_v0 c) then (bif (refG_v0 c.ly.g) then (decide (IntKind.i64.wrap ((IntKind.i64.wrap ((IntKind.i64.wrap ((IntKind.i64.wrap (c.ly.g.ranks + c.ly.g.spares)) * c.ly.g.banks)) * c.ly.g.rows)) * c.ly.g.cols)<=100)) else false) else false
theorem smallT (c:Cfg) :Sp P 92 [.ag [vi c.ly.g.ranks,vi c.ly.g.spares,vi c.ly.g.banks,vi c.ly.g.rows,vi c.ly.g.cols,vi c.ly.way,vi c.ly.res,vi c.mode,vi c.rules.rank.limit,vi c.rules.rank.every,vi c.rules.page.limit,vi c.rules.page.every,vi c.rules.room,vi c.rules.heavy,vi c.log,vt c.back]] [] (vt (smallT_v0 c)) []:=by
 generalize d0:smallT_v0 c=yd0
 unfold smallT_v0 at d0
 rcases bft (cfgRight_v0 c) with q1 | q1
 ·rw [cpos q1] at d0
  rcases bft (refG_v0 c.ly.g) with q2 | q2
  ·rw [cpos q2] at d0
   subst d0
   exact so Tryz.f92 4 [] (.c [] (cfgRight c) (.t2 q1 (.c [] (refG c.ly.g) (.t q1 (.t4 q2 (.t4 q2 (.t4 q2 (.t4 q2 .nil))))))))
  ·rw [cneg q2] at d0
   subst d0
   exact so Tryz.f92 4 [] (.c [] (cfgRight c) (.t2 q1 (.c [] (refG c.ly.g) (.t q1 (.t4 q2 (.t4 q2 (.t4 q2 (.t4 q2 .nil))))))))
 ·rw [cneg q1] at d0
  subst d0
  exact so Tryz.f92 4 [] (.c [] (cfgRight c) (.t2 q1 (.t q1 (.n8 (.n8 .nil)))))
theorem smallT_t {c:Cfg} (h:smallT_v0 c=true):cfgRight_v0 c=true:=by
 unfold smallT_v0 at h
 revert h; cases cfgRight_v0 c <;> simp
theorem begun_no (c:Cfg) (hp:smallT_v0 c=false):Sp P 15 [.ag [vi c.ly.g.ranks,vi c.ly.g.spares,vi c.ly.g.banks,vi c.ly.g.rows,vi c.ly.g.cols,vi c.ly.way,vi c.ly.res,vi c.mode,vi c.rules.rank.limit,vi c.rules.rank.every,vi c.rules.page.limit,vi c.rules.page.every,vi c.rules.room,vi c.rules.heavy,vi c.log,vt c.back]] [] (nilP) [] :=
 so Tryz.f15 3 [] (.c [] (smallT c) (.t (congrArg (!·) (show (smallT_v0 c)=false from hp)) .nil))
theorem begun_raw (c:Cfg) (hp:smallT_v0 c=true):Sp P 15 [.ag [vi c.ly.g.ranks,vi c.ly.g.spares,vi c.ly.g.banks,vi c.ly.g.rows,vi c.ly.g.cols,vi c.ly.way,vi c.ly.res,vi c.mode,vi c.rules.rank.limit,vi c.rules.rank.every,vi c.rules.page.limit,vi c.rules.page.every,vi c.rules.room,vi c.rules.heavy,vi c.log,vt c.back]] [] (.pt 0 0) ([.blk [.pt 16 0,.pt 1 0,.mp 30,.sl 31,.sl 32,vi (mNewM_s c).scrubs,vi (mNewM_s c).steps] 171] ++ bCtl (mNewM_s c).c 1 ++ bCode 25 ++ [.mp (.ar .u8 64 (nf (fun _=>0))) (mpC (mNewM_s c).ideal),.row eInj (mNewM_s c).inj,.row eSrv (mNewM_s c).srv]) :=
 so Tryz.f15 36 (ir 2 33) (.c [] (smallT c) (.t (congrArg (!·) (show (smallT_v0 c)=true from hp)) (.c [] (mNewM c (smallT_t hp)) (.n .nil))))
def cfgT:Cfg:=(⟨(⟨(⟨1,0,1,2,2⟩:Gm),0,0⟩:Ly),1,(⟨(⟨9,9⟩:Rl),(⟨9,9⟩:Rl),2,2⟩:Rls),4,true⟩:Cfg)
def stA:Stp:=(⟨2,1,fun _=>6,0,(⟨0,0,0,0,0,0,0,0⟩:Flt)⟩:Stp)
def stB:Stp:=(⟨8,0,fun _=>0,0,(⟨1,0,0,0,1,0,40,0⟩:Flt)⟩:Stp)
def stC:Stp:=(⟨1,1,fun _=>0,0,(⟨0,0,0,0,0,0,0,0⟩:Flt)⟩:Stp)
def mT1:MchS:=mDo_s (mNewM_s cfgT) stA
def mT2:MchS:=mDo_s mT1 stB
def mT3:MchS:=mDo_s mT2 stC
theorem stA_ok:StpOk stA:=⟨fun _=>(by decide:(6:Nat) < 256),(by decide:(0:Nat) < 18446744073709551616)⟩
theorem stB_ok:StpOk stB:=⟨fun _=>(by decide:(0:Nat) < 256),(by decide:(0:Nat) < 18446744073709551616)⟩
theorem stC_ok:StpOk stC:=⟨fun _=>(by decide:(0:Nat) < 256),(by decide:(0:Nat) < 18446744073709551616)⟩
theorem okT0:MchOk 8388608 (mNewM_s cfgT):=mNewM_ok (by decide +kernel)
theorem okT1:MchOk 8388612 mT1:=mDo_ok okT0 stA_ok
theorem okT2:MchOk 8388616 mT2:=mDo_ok okT1 stB_ok
theorem okT3:MchOk 8388620 mT3:=mDo_ok okT2 stC_ok
theorem cLog (s:CtlS) :Sp P 47 [.pt 0 0] (ros (bCtl s 0) ++ ros (bCode 24)) (.pt 13 0) (ros (bCtl s 0) ++ ros (bCode 24)) :=
 so Tryz.f47 3 (ir 0 29) .nil
theorem plainT  :Sp P 90 [] [] (.ag [vn 1,vn 0,vn 1,vn 2,vn 2,vn 0,vn 0,vn 1,vn 9,vn 9,vn 9,vn 9,vn 2,vn 2,vn 4,vt true]) [] :=
 so Tryz.f90 4 [] .nil
theorem anT_1:((decide ((mDo_v0 mT2 stC)=0)) && ((decide ((mDo_v1 mT2 stC)=0)) && ((eqA (nf (mDo_v2 mT2 stC)) (nf (fun _=>6)) 64 0) && true)))=true:=by decide +kernel
theorem anT_2:(decide (((mT3.c.le.log.l.length:Nat):Int)=1))=true:=by decide +kernel
def alive_v0 :Bool:=jCalm_v0 mT3
theorem alive  :Sp P 14 [] [] (vt (alive_v0)) [] :=
 so Tryz.f14 38 [] (.c [] (plainT) (.c [] (begun_raw cfgT ((by decide +kernel))) (.n (.c [] (fill 6) (.c (ir 2 33) (mDo (mNewM_s cfgT) stA (MchOk.mono okT0 (by decide)) stA_ok) (.c (ir 2 33) (mDo mT1 stB (MchOk.mono okT1 (by decide)) stB_ok) (.c (ir 2 33) (mDo mT2 stC (MchOk.mono okT2 (by decide)) stC_ok) (.t (show ((decide ((mDo_v0 mT2 stC)=0)) && ((decide ((mDo_v1 mT2 stC)=0)) && ((eqA (nf (mDo_v2 mT2 stC)) (nf (fun _=>6)) 64 0) && true)))=true from anT_1) (.t (show ((decide ((mDo_v0 mT2 stC)=0)) && ((decide ((mDo_v1 mT2 stC)=0)) && ((eqA (nf (mDo_v2 mT2 stC)) (nf (fun _=>6)) 64 0) && true)))=true from anT_1) (.c (ir 2 33) (gCtl mT3) (.t (show ((decide ((mDo_v0 mT2 stC)=0)) && ((decide ((mDo_v1 mT2 stC)=0)) && ((eqA (nf (mDo_v2 mT2 stC)) (nf (fun _=>6)) 64 0) && true)))=true from anT_1) (.c (ir 3 29) (cLog mT3.c) (.t (show ((decide ((mDo_v0 mT2 stC)=0)) && ((decide ((mDo_v1 mT2 stC)=0)) && ((eqA (nf (mDo_v2 mT2 stC)) (nf (fun _=>6)) 64 0) && true)))=true from anT_1) (.c [.id 16,.id 17] (lLen mT3.c.le.log) (.t (show ((decide ((mDo_v0 mT2 stC)=0)) && ((decide ((mDo_v1 mT2 stC)=0)) && ((eqA (nf (mDo_v2 mT2 stC)) (nf (fun _=>6)) 64 0) && true)))=true from anT_1) (.t (show ((decide ((mDo_v0 mT2 stC)=0)) && ((decide ((mDo_v1 mT2 stC)=0)) && ((eqA (nf (mDo_v2 mT2 stC)) (nf (fun _=>6)) 64 0) && true)))=true from anT_1) (.t (show (decide (((mT3.c.le.log.l.length:Nat):Int)=1))=true from anT_2) (.t (show (decide (((mT3.c.le.log.l.length:Nat):Int)=1))=true from anT_2) (.c (ir 2 33) (jCalm mT3 (Nat.le_trans okT3.c.dl (by decide))) (.t (show (decide (((mT3.c.le.log.l.length:Nat):Int)=1))=true from anT_2) .nil))))))))))))))))))))
theorem alive_t:Sp P 14 [] [] (vt true) []:=by
 have h:=alive
 rw [show alive_v0=true by decide +kernel] at h
 exact h
end Go.Proofs.YtfhiggfmkjmeiaaGreat
