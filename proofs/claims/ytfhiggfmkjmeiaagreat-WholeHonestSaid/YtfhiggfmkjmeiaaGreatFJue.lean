import Derived.Test.YtfhiggfmkjmeiaaGreatFR24
set_option linter.unusedVariables false
set_option linter.unusedSimpArgs false
set_option linter.unusedSectionVars false
namespace Go.Proofs.YtfhiggfmkjmeiaaGreat
open Go Go.RowKit
set_option maxRecDepth 100000
structure Lk where
 exp:Int
 astray:Bool
 drop:Bool
 tell:Bool
def japart_v0 (mode:Int) (a:Int) (b:Int):Bool:=bif decide (mode=1) then (!(decide (((parF a:Nat):Int)=((parF b:Nat):Int)))) else (!(eqA (nf (byF a)) (nf (byF b)) 3 0))
theorem japart (mode:Int) (a:Int) (b:Int) :Sp P 222 [vi mode,vi a,vi b] [] (vt (japart_v0 mode a b)) []:=by
 generalize d0:japart_v0 mode a b=yd0
 unfold japart_v0 at d0
 rcases bft (decide (mode=1)) with q1 | q1
 ·rw [cpos q1] at d0
  subst d0
  exact so Tryz.f222 3 [] (.t q1 (.c [] (gparity_sp a) (.c [] (gparity_sp b) .nil)))
 ·rw [cneg q1] at d0
  subst d0
  exact so Tryz.f222 3 [] (.t q1 (.c [] (gbytes_sp a) (.c [] (gbytes_sp b) .nil)))
def jstray_v0 (a:Acc):Bool:=bif a.drop then true else (!(decide (a.went=a.index)))
theorem jstray (a:Acc) :Sp P 221 [.ag [vt a.write,vi a.index,vi a.went,vt a.drop,vi a.exp,vt a.mark]] [] (vt (jstray_v0 a)) []:=by
 generalize d0:jstray_v0 a=yd0
 unfold jstray_v0 at d0
 rcases bft a.drop with q1 | q1
 ·rw [cpos q1] at d0
  subst d0
  exact so Tryz.f221 3 [] (.t4 q1 (.t2 q1 (.t q1 .nil)))
 ·rw [cneg q1] at d0
  subst d0
  exact so Tryz.f221 3 [] (.t4 q1 (.t2 q1 (.t q1 .nil)))
def jadd_r (l:Lk) (mode:Int) (a:Acc):Lk:=bif (jstray_v0 a) then (bif l.drop then (bif a.write then (⟨l.exp,true,true,l.tell⟩:Lk) else (bif a.drop then (⟨l.exp,true,true,l.tell⟩:Lk) else (bif (japart_v0 mode a.index a.went) then (⟨l.exp,true,true,l.tell⟩:Lk) else (⟨l.exp,true,true,false⟩:Lk)))) else (bif a.drop then (⟨l.exp,true,true,l.tell⟩:Lk) else (bif a.write then (⟨l.exp,true,decide (0 < a.exp),l.tell⟩:Lk) else (bif (japart_v0 mode a.index a.went) then (⟨l.exp,true,decide (0 < a.exp),l.tell⟩:Lk) else (⟨l.exp,true,decide (0 < a.exp),false⟩:Lk))))) else (bif a.mark then { l with exp:=if IntKind.i64.wrap (a.exp + 1) > l.exp then IntKind.i64.wrap (a.exp + 1) else l.exp } else { l with exp:=if a.exp > l.exp then a.exp else l.exp })
theorem jadd (l:Lk) (mode:Int) (a:Acc) :Sp P 168 [.ag [vi l.exp,vt l.astray,vt l.drop,vt l.tell],vi mode,.ag [vt a.write,vi a.index,vi a.went,vt a.drop,vi a.exp,vt a.mark]] [] (.ag [vi (jadd_r l mode a).exp,vt (jadd_r l mode a).astray,vt (jadd_r l mode a).drop,vt (jadd_r l mode a).tell]) []:=by
 generalize d0:jadd_r l mode a=yd0
 unfold jadd_r at d0
 rcases bft (jstray_v0 a) with q1 | q1
 ·rw [cpos q1] at d0
  rcases bft l.drop with q2 | q2
  ·rw [cpos q2] at d0
   rcases bft a.write with q3 | q3
   ·rw [cpos q3] at d0
    subst d0
    exact so Tryz.f168 5 [] (.c [] (jstray a) (.g q1 (.t4 q2 (.y4 (.g4 q3 (.g q3 (.n8 (.n2 .nil))))))))
   ·rw [cneg q3] at d0
    rcases bft a.drop with q4 | q4
    ·rw [cpos q4] at d0
     subst d0
     exact so Tryz.f168 5 [] (.c [] (jstray a) (.g q1 (.t4 q2 (.y4 (.g4 q3 (.g q3 (.g4 q4 (.g4 q4 (.g q4 (.n .nil))))))))))
    ·rw [cneg q4] at d0
     rcases bft (japart_v0 mode a.index a.went) with q5 | q5
     ·rw [cpos q5] at d0
      subst d0
      exact so Tryz.f168 5 [] (.c [] (jstray a) (.g q1 (.t4 q2 (.y4 (.g4 q3 (.g q3 (.g4 q4 (.g2 q4 (.g q4 (.c [] (japart mode a.index a.went) (.g2 q4 (.g q5 .nil))))))))))))
     ·rw [cneg q5] at d0
      subst d0
      exact so Tryz.f168 5 [] (.c [] (jstray a) (.g q1 (.t4 q2 (.y4 (.g4 q3 (.g q3 (.g4 q4 (.g2 q4 (.g q4 (.c [] (japart mode a.index a.went) (.g2 q4 (.g q5 .nil))))))))))))
  ·rw [cneg q2] at d0
   rcases bft a.drop with q3 | q3
   ·rw [cpos q3] at d0
    rcases bft a.write with q4 | q4
    ·subst d0
     exact so Tryz.f168 5 [] (.c [] (jstray a) (.g q1 (.t4 q2 (.t4 q3 (.g4 q4 (.g q4 (.n8 (.n2 .nil))))))))
    ·subst d0
     exact so Tryz.f168 5 [] (.c [] (jstray a) (.g q1 (.t4 q2 (.t4 q3 (.g4 q4 (.g q4 (.g4 q3 (.g4 q3 (.g q3 (.n .nil))))))))))
   ·rw [cneg q3] at d0
    rcases bft a.write with q4 | q4
    ·rw [cpos q4] at d0
     subst d0
     exact so Tryz.f168 5 [] (.c [] (jstray a) (.g q1 (.t4 q2 (.t4 q3 (.g4 q4 (.g q4 (.n8 (.n2 .nil))))))))
    ·rw [cneg q4] at d0
     rcases bft (japart_v0 mode a.index a.went) with q5 | q5
     ·rw [cpos q5] at d0
      subst d0
      exact so Tryz.f168 5 [] (.c [] (jstray a) (.g q1 (.t4 q2 (.t4 q3 (.g4 q4 (.g q4 (.g4 q3 (.g2 q3 (.g q3 (.c [] (japart mode a.index a.went) (.g2 q3 (.g q5 .nil))))))))))))
     ·rw [cneg q5] at d0
      subst d0
      exact so Tryz.f168 5 [] (.c [] (jstray a) (.g q1 (.t4 q2 (.t4 q3 (.g4 q4 (.g q4 (.g4 q3 (.g2 q3 (.g q3 (.c [] (japart mode a.index a.went) (.g2 q3 (.g q5 .nil))))))))))))
 ·rw [cneg q1] at d0
  rcases bft a.mark with q2 | q2
  ·rw [cpos q2] at d0
   subst d0
   exact so Tryz.f168 5 [] (.c [] (jstray a) (.g q1 (.t q2 .nil)))
  ·rw [cneg q2] at d0
   subst d0
   exact so Tryz.f168 5 [] (.c [] (jstray a) (.g q1 (.t q2 .nil)))
theorem xAccs (d:DevS) (a:Int) :Sp P 167 [.pt 0 0,vi a] (ros (bDev d 0)) (.fn (.func 220) [] [.pt 8 0,.pt 9 0]) (ros (bDev d 0) ++ [.blk [vi a] 3,.blk [.pt 0 0] 80]) :=
 so Tryz.f167 4 (ir 0 8 ++ .id 10 :: .id 9 :: []) .nil
def jsee (m:Int) (l:List Acc) (a:Nat):Nat->Lk
 | 0=>⟨0,false,false,true⟩
 | n + 1=>jadd_r (jsee m l a n) m (l.getD (a + n) eAcc0)
def jcnt (a b:Int) (n:Nat):Nat:=min n b.toNat - a.toNat
theorem jmax (a:Int):Value.int .i64 (if 0 > a then 0 else a)=.int .i64 ((a.toNat:Nat):Int):=by
 congr 1; split <;> omega
def jAt_r (s:MchS) (a:Int) (b:Int):Lk:=jsee s.c.d.d.mode s.c.d.l a.toNat (jcnt a b s.c.d.l.length)
theorem jAt (s:MchS) (a:Int) (b:Int) (hl:s.c.d.l.length<=100000000):Sp P 93 [.pt 0 0,vi a,vi b] ([.ro (.blk [.pt 16 0,.pt 1 0,.mp 30,.sl 31,.sl 32,vi s.scrubs,vi s.steps] 171)] ++ ros (bCtl s.c 1) ++ ros (bCode 25) ++ [.ro (.mp (.ar .u8 64 (nf (fun _=>0))) (mpC s.ideal)),.ro (.row eInj s.inj),.ro (.row eSrv s.srv)]) (.ag [vi (jAt_r s a b).exp,vt (jAt_r s a b).astray,vt (jAt_r s a b).drop,vt (jAt_r s a b).tell]) ([.ro (.blk [.pt 16 0,.pt 1 0,.mp 30,.sl 31,.sl 32,vi s.scrubs,vi s.steps] 171)] ++ ros (bCtl s.c 1) ++ ros (bCode 25) ++ [.ro (.mp (.ar .u8 64 (nf (fun _=>0))) (mpC s.ideal)),.ro (.row eInj s.inj),.ro (.row eSrv s.srv)]):=by
 have hn:jcnt a b s.c.d.l.length=min s.c.d.l.length b.toNat - a.toNat:=rfl
 have gd1:∀ (i:Nat) (hi:i < (jcnt a b s.c.d.l.length)),Good P _ _:=fun i hi=>(.t (show (decide (((a.toNat + i:Nat):Int) < ((s.c.d.l.length:Nat):Int)))=true from decide_eq_true (by omega)) (.ix (i:=a.toNat + i) (m:=s.c.d.l.length) (by omega) (.el (e:=eAcc) (gDx (l:=s.c.d.l) (i:=a.toNat + i) eAcc0 (by omega)) (.t (show (decide (b<=((a.toNat + i:Nat):Int)))=false from decide_eq_false (by omega)) (.c [] (jadd (jsee s.c.d.d.mode s.c.d.l a.toNat i) s.c.d.d.mode (s.c.d.l.getD (a.toNat + i) eAcc0)) (.n (.e 15 (aAdd (a:=((a.toNat + i:Nat):Int)) (b:=1) (c:=(((a.toNat + i) + 1:Nat):Int)) (by omega)) .nil)))))))
 generalize d0:jAt_r s a b=yd0
 unfold jAt_r at d0
 rcases bft (decide (((a.toNat + (jcnt a b s.c.d.l.length):Nat):Int) < ((s.c.d.l.length:Nat):Int))) with q1 | q1
 ·have q1':=of_decide_eq_true q1
  subst d0
  exact so Tryz.f93 11 (ir 0 33) (.c (ir 0 33) (gDev s) (.c (ir 16 8) (vDram s.c.d) (.c (ir 20 4) (dMode s.c.d.d) (.c (ir 0 33) (gDev s) (.c (ir 16 8) (xAccs s.c.d a) (.e 6 (jmax a) (.lp (jcnt a b s.c.d.l.length) 42 [] [] (fun i=>[(4,vn (a.toNat + i))]) (fun i=>[(36,.blk [vi (jsee s.c.d.d.mode s.c.d.l a.toNat i).exp,vt (jsee s.c.d.d.mode s.c.d.l a.toNat i).astray,vt (jsee s.c.d.d.mode s.c.d.l a.toNat i).drop,vt (jsee s.c.d.d.mode s.c.d.l a.toNat i).tell] 164),(40,.lo .ready none)]) gd1 (.t q1 (.ix (i:=a.toNat + (jcnt a b s.c.d.l.length)) (m:=s.c.d.l.length) (by omega) (.el (e:=eAcc) (gDx (l:=s.c.d.l) (i:=a.toNat + (jcnt a b s.c.d.l.length)) eAcc0 (by omega)) (.t (show (decide (b<=((a.toNat + (jcnt a b s.c.d.l.length):Nat):Int)))=true from decide_eq_true (by have:=of_decide_eq_true q1; omega)) (.y .nil))))))))))))
 ·have q1':=of_decide_eq_false q1
  subst d0
  exact so Tryz.f93 11 (ir 0 33) (.c (ir 0 33) (gDev s) (.c (ir 16 8) (vDram s.c.d) (.c (ir 20 4) (dMode s.c.d.d) (.c (ir 0 33) (gDev s) (.c (ir 16 8) (xAccs s.c.d a) (.e 6 (jmax a) (.lp (jcnt a b s.c.d.l.length) 42 [] [] (fun i=>[(4,vn (a.toNat + i))]) (fun i=>[(36,.blk [vi (jsee s.c.d.d.mode s.c.d.l a.toNat i).exp,vt (jsee s.c.d.d.mode s.c.d.l a.toNat i).astray,vt (jsee s.c.d.d.mode s.c.d.l a.toNat i).drop,vt (jsee s.c.d.d.mode s.c.d.l a.toNat i).tell] 164),(40,.lo .ready none)]) gd1 (.t q1 .nil))))))))
def jrd (m:Int) (l:List Acc):Nat->Lk
 | 0=>⟨0,false,false,true⟩
 | n + 1=>bif (l.getD n eAcc0).write then jrd m l n else jadd_r (jrd m l n) m (l.getD n eAcc0)
def jreads_r (s:MchS):Lk:=jrd s.c.d.d.mode s.c.d.l s.c.d.l.length
theorem jreads (s:MchS) (hl:s.c.d.l.length<=100000000):Sp P 163 [.pt 0 0] ([.ro (.blk [.pt 16 0,.pt 1 0,.mp 30,.sl 31,.sl 32,vi s.scrubs,vi s.steps] 171)] ++ ros (bCtl s.c 1) ++ ros (bCode 25) ++ [.ro (.mp (.ar .u8 64 (nf (fun _=>0))) (mpC s.ideal)),.ro (.row eInj s.inj),.ro (.row eSrv s.srv)]) (.ag [vi (jreads_r s).exp,vt (jreads_r s).astray,vt (jreads_r s).drop,vt (jreads_r s).tell]) ([.ro (.blk [.pt 16 0,.pt 1 0,.mp 30,.sl 31,.sl 32,vi s.scrubs,vi s.steps] 171)] ++ ros (bCtl s.c 1) ++ ros (bCode 25) ++ [.ro (.mp (.ar .u8 64 (nf (fun _=>0))) (mpC s.ideal)),.ro (.row eInj s.inj),.ro (.row eSrv s.srv)]) :=
 so Tryz.f163 15 (ir 0 33) (.c (ir 0 33) (gDev s) (.c (ir 16 8) (xAccs s.c.d 0) (.lp s.c.d.l.length 41 [] [] (fun i=>[(4,vn i)]) (fun i=>[(36,.blk [vi (jrd s.c.d.d.mode s.c.d.l i).exp,vt (jrd s.c.d.d.mode s.c.d.l i).astray,vt (jrd s.c.d.d.mode s.c.d.l i).drop,vt (jrd s.c.d.d.mode s.c.d.l i).tell] 164),(39,.lo .ready none)]) (fun i hi=>(.t (show (decide (((i:Nat):Int) < ((s.c.d.l.length:Nat):Int)))=true from decide_eq_true (by omega)) (.ix (i:=i) (m:=s.c.d.l.length) (by omega) (.el (e:=eAcc) (gDx (l:=s.c.d.l) (i:=i) eAcc0 (by omega)) (.cs 0 (s.c.d.l.getD i eAcc0).write 42 [] [] (fun z=>[]) (fun z=>[(36,.blk [vi (bif z then (jrd s.c.d.d.mode s.c.d.l i) else (jadd_r (jrd s.c.d.d.mode s.c.d.l i) s.c.d.d.mode (s.c.d.l.getD i eAcc0))).exp,vt (bif z then (jrd s.c.d.d.mode s.c.d.l i) else (jadd_r (jrd s.c.d.d.mode s.c.d.l i) s.c.d.d.mode (s.c.d.l.getD i eAcc0))).astray,vt (bif z then (jrd s.c.d.d.mode s.c.d.l i) else (jadd_r (jrd s.c.d.d.mode s.c.d.l i) s.c.d.d.mode (s.c.d.l.getD i eAcc0))).drop,vt (bif z then (jrd s.c.d.d.mode s.c.d.l i) else (jadd_r (jrd s.c.d.d.mode s.c.d.l i) s.c.d.d.mode (s.c.d.l.getD i eAcc0))).tell] 164)]) (fun hq1=>(.g hq1 .nil)) (fun hq1=>(.g hq1 (.c (ir 0 33) (gDev s) (.c (ir 16 8) (vDram s.c.d) (.c (ir 20 4) (dMode s.c.d.d) (.c [] (jadd (jrd s.c.d.d.mode s.c.d.l i) s.c.d.d.mode (s.c.d.l.getD i eAcc0)) .nil)))))) (.n (.e 15 (aAdd (a:=((i:Nat):Int)) (b:=1) (c:=((i + 1:Nat):Int)) (by omega)) .nil))))))) (.t (show (decide (((s.c.d.l.length:Nat):Int) < ((s.c.d.l.length:Nat):Int)))=false from decide_eq_false (by omega)) .nil))))
def jCalm_v0 (s:MchS):Bool:=bif (jAt_r s 0 ((s.c.d.l.length:Nat):Int)).astray then false else (decide ((jAt_r s 0 ((s.c.d.l.length:Nat):Int)).exp<=1))
theorem jCalm (s:MchS) (hl:s.c.d.l.length<=100000000):Sp P 88 [.pt 0 0] ([.ro (.blk [.pt 16 0,.pt 1 0,.mp 30,.sl 31,.sl 32,vi s.scrubs,vi s.steps] 171)] ++ ros (bCtl s.c 1) ++ ros (bCode 25) ++ [.ro (.mp (.ar .u8 64 (nf (fun _=>0))) (mpC s.ideal)),.ro (.row eInj s.inj),.ro (.row eSrv s.srv)]) (vt (jCalm_v0 s)) ([.ro (.blk [.pt 16 0,.pt 1 0,.mp 30,.sl 31,.sl 32,vi s.scrubs,vi s.steps] 171)] ++ ros (bCtl s.c 1) ++ ros (bCode 25) ++ [.ro (.mp (.ar .u8 64 (nf (fun _=>0))) (mpC s.ideal)),.ro (.row eInj s.inj),.ro (.row eSrv s.srv)]):=by
 generalize d0:jCalm_v0 s=yd0
 unfold jCalm_v0 at d0
 rcases bft (jAt_r s 0 ((s.c.d.l.length:Nat):Int)).astray with q1 | q1
 ·rw [cpos q1] at d0
  subst d0
  exact so Tryz.f88 3 (ir 0 33) (.c (ir 0 33) (gDev s) (.c (ir 16 8) (vCount s.c.d) (.c (ir 0 33) (jAt s 0 ((s.c.d.l.length:Nat):Int) hl) (.g4 q1 .nil))))
 ·rw [cneg q1] at d0
  subst d0
  exact so Tryz.f88 3 (ir 0 33) (.c (ir 0 33) (gDev s) (.c (ir 16 8) (vCount s.c.d) (.c (ir 0 33) (jAt s 0 ((s.c.d.l.length:Nat):Int) hl) (.g4 q1 .nil))))
def jWatched_v0 (s:MchS):Bool:=bif decide ((jreads_r s).exp<=IntKind.i64.wrap (1 + s.c.d.d.mode)) then (bif (jreads_r s).drop then false else (jreads_r s).tell) else false
theorem jWatched (s:MchS) (hl:s.c.d.l.length<=100000000):Sp P 85 [.pt 0 0] ([.ro (.blk [.pt 16 0,.pt 1 0,.mp 30,.sl 31,.sl 32,vi s.scrubs,vi s.steps] 171)] ++ ros (bCtl s.c 1) ++ ros (bCode 25) ++ [.ro (.mp (.ar .u8 64 (nf (fun _=>0))) (mpC s.ideal)),.ro (.row eInj s.inj),.ro (.row eSrv s.srv)]) (vt (jWatched_v0 s)) ([.ro (.blk [.pt 16 0,.pt 1 0,.mp 30,.sl 31,.sl 32,vi s.scrubs,vi s.steps] 171)] ++ ros (bCtl s.c 1) ++ ros (bCode 25) ++ [.ro (.mp (.ar .u8 64 (nf (fun _=>0))) (mpC s.ideal)),.ro (.row eInj s.inj),.ro (.row eSrv s.srv)]):=by
 generalize d0:jWatched_v0 s=yd0
 unfold jWatched_v0 at d0
 rcases bft (decide ((jreads_r s).exp<=IntKind.i64.wrap (1 + s.c.d.d.mode))) with q1 | q1
 ·rw [cpos q1] at d0
  rcases bft (jreads_r s).drop with q2 | q2
  ·rw [cpos q2] at d0
   subst d0
   exact so Tryz.f85 6 (ir 0 33) (.c (ir 0 33) (jreads s hl) (.c (ir 0 33) (gDev s) (.c (ir 16 8) (vDram s.c.d) (.c (ir 20 4) (dMode s.c.d.d) (.t4 q1 (.g2 q2 (.g q2 .nil)))))))
  ·rw [cneg q2] at d0
   subst d0
   exact so Tryz.f85 6 (ir 0 33) (.c (ir 0 33) (jreads s hl) (.c (ir 0 33) (gDev s) (.c (ir 16 8) (vDram s.c.d) (.c (ir 20 4) (dMode s.c.d.d) (.t4 q1 (.g2 q2 (.g q2 .nil)))))))
 ·rw [cneg q1] at d0
  subst d0
  exact so Tryz.f85 6 (ir 0 33) (.c (ir 0 33) (jreads s hl) (.c (ir 0 33) (gDev s) (.c (ir 16 8) (vDram s.c.d) (.c (ir 20 4) (dMode s.c.d.d) (.t4 q1 (.n2 (.n .nil)))))))
def jgt_v0 (x:Srv):Bool:=bif decide (x.step.kind=1) then (eqA (nf x.ans.line) (nf x.want) 64 0) else true
theorem jgt (x:Srv) :Sp P 162 [.ag [vi x.step.kind,vi x.step.line,.ar .u8 64 (nf x.step.data),vu x.step.mask,vi x.step.f.kind,vi x.step.f.rank,vi x.step.f.bank,vi x.step.f.row,vi x.step.f.col,vi x.step.f.chip,vi x.step.f.bit,vi x.step.f.value,vi x.ans.e,vi x.ans.n,.ar .u8 64 (nf x.ans.line),.ar .u8 64 (nf x.want),vi x.first,vi x.last]] [] (vt (jgt_v0 x)) []:=by
 generalize d0:jgt_v0 x=yd0
 unfold jgt_v0 at d0
 rcases bft (decide (x.step.kind=1)) with q1 | q1
 ·rw [cpos q1] at d0
  subst d0
  exact so Tryz.f162 3 [] (.g4 q1 (.g2 q1 (.g q1 .nil)))
 ·rw [cneg q1] at d0
  subst d0
  exact so Tryz.f162 3 [] (.g4 q1 (.g2 q1 (.g q1 .nil)))
theorem svServed (l:List Srv) :Sp P 140 [.sl 0] [.ro (.row eSrv l)] (.fn (.func 209) [] [.pt 1 0]) [.ro (.row eSrv l),.blk [.sl 0] 169] :=
 so Tryz.f140 3 [.id 0,.id 2] .nil
theorem xServed (s:MchS) :Sp P 70 [.pt 0 0] ([.ro (.blk [.pt 16 0,.pt 1 0,.mp 30,.sl 31,.sl 32,vi s.scrubs,vi s.steps] 171)] ++ ros (bCtl s.c 1) ++ ros (bCode 25) ++ [.ro (.mp (.ar .u8 64 (nf (fun _=>0))) (mpC s.ideal)),.ro (.row eInj s.inj),.ro (.row eSrv s.srv)]) (.fn (.func 209) [] [.pt 33 0]) ([.ro (.blk [.pt 16 0,.pt 1 0,.mp 30,.sl 31,.sl 32,vi s.scrubs,vi s.steps] 171)] ++ ros (bCtl s.c 1) ++ ros (bCode 25) ++ [.ro (.mp (.ar .u8 64 (nf (fun _=>0))) (mpC s.ideal)),.ro (.row eInj s.inj),.ro (.row eSrv s.srv),.blk [.sl 32] 169]) :=
 so Tryz.f70 3 (ir 0 33 ++ .id 34 :: []) (.c [.id 32] (svServed s.srv) .nil)
def hbad (s:MchS) (x:Srv):Bool:=bif decide (x.ans.e=0) then (bif jgt_v0 x then (bif decide (x.step.kind=1) then decide (1 < (jAt_r s x.first x.last).exp) else false) else true) else !(eqA (nf x.ans.line) (nf (fun _=>0)) 64 0)
def hfi (s:MchS):Nat:=ff (fun i=>hbad s (s.srv.getD i eSrv0)) s.srv.length
theorem hbad_f {s:MchS} {x:Srv} (h:hbad s x=false):(decide (x.ans.e=0)=true->jgt_v0 x=true∧(decide (x.step.kind=1)=true->decide (1 < (jAt_r s x.first x.last).exp)=false))∧(decide (x.ans.e=0)=false->eqA (nf x.ans.line) (nf (fun _=>0)) 64 0=true):=by
 unfold hbad at h; revert h; cases decide (x.ans.e=0) <;> cases jgt_v0 x <;> cases decide (x.step.kind=1) <;> simp
theorem hbad_t {s:MchS} {x:Srv} (h:hbad s x=true):(decide (x.ans.e=0)=true->jgt_v0 x=true->decide (x.step.kind=1)=true∧decide (1 < (jAt_r s x.first x.last).exp)=true)∧(decide (x.ans.e=0)=false->eqA (nf x.ans.line) (nf (fun _=>0)) 64 0=false):=by
 unfold hbad at h; revert h; cases decide (x.ans.e=0) <;> cases jgt_v0 x <;> cases decide (x.step.kind=1) <;> simp
theorem hfi_lt {s:MchS} {i:Nat} (h:i < hfi s):hbad s (s.srv.getD i eSrv0)=false:=ff_lt (p:=fun i=>hbad s (s.srv.getD i eSrv0)) h
theorem hfi_at {s:MchS} (h:decide (((hfi s:Nat):Int) < ((s.srv.length:Nat):Int))=true):hbad s (s.srv.getD (hfi s) eSrv0)=true:=ff_at (p:=fun i=>hbad s (s.srv.getD i eSrv0)) (n:=s.srv.length) (show hfi s < s.srv.length by have:=of_decide_eq_true h; omega)
def jHonest_l0 (s:MchS) (i:Nat):List V:=[vi (s.srv.getD i eSrv0).step.kind,vi (s.srv.getD i eSrv0).step.line,.ar .u8 64 (nf (s.srv.getD i eSrv0).step.data),vu (s.srv.getD i eSrv0).step.mask,vi (s.srv.getD i eSrv0).step.f.kind,vi (s.srv.getD i eSrv0).step.f.rank,vi (s.srv.getD i eSrv0).step.f.bank,vi (s.srv.getD i eSrv0).step.f.row,vi (s.srv.getD i eSrv0).step.f.col,vi (s.srv.getD i eSrv0).step.f.chip,vi (s.srv.getD i eSrv0).step.f.bit,vi (s.srv.getD i eSrv0).step.f.value,vi (s.srv.getD i eSrv0).ans.e,vi (s.srv.getD i eSrv0).ans.n,.ar .u8 64 (nf (s.srv.getD i eSrv0).ans.line),.ar .u8 64 (nf (s.srv.getD i eSrv0).want),vi (s.srv.getD i eSrv0).first,vi (s.srv.getD i eSrv0).last]
def jHonest_v0 (s:MchS):Bool:=bif decide ((((hfi s):Nat):Int) < ((s.srv.length:Nat):Int)) then false else true
theorem jHonest (s:MchS) (hl:s.c.d.l.length<=100000000) (hv:s.srv.length<=100000000):Sp P 86 [.pt 0 0] ([.ro (.blk [.pt 16 0,.pt 1 0,.mp 30,.sl 31,.sl 32,vi s.scrubs,vi s.steps] 171)] ++ ros (bCtl s.c 1) ++ ros (bCode 25) ++ [.ro (.mp (.ar .u8 64 (nf (fun _=>0))) (mpC s.ideal)),.ro (.row eInj s.inj),.ro (.row eSrv s.srv)]) (vt (jHonest_v0 s)) ([.ro (.blk [.pt 16 0,.pt 1 0,.mp 30,.sl 31,.sl 32,vi s.scrubs,vi s.steps] 171)] ++ ros (bCtl s.c 1) ++ ros (bCode 25) ++ [.ro (.mp (.ar .u8 64 (nf (fun _=>0))) (mpC s.ideal)),.ro (.row eInj s.inj),.ro (.row eSrv s.srv)]):=by
 have hw:hfi s<=s.srv.length:=ff_le _ _
 have gd1:∀ (i:Nat) (hi:i < (hfi s)),Good P _ _:=fun i hi=>(.t (show (decide (((i:Nat):Int) < ((s.srv.length:Nat):Int)))=true from decide_eq_true (by omega)) (.cs 2 (decide ((s.srv.getD i eSrv0).step.kind=1)) 39 [] [] (fun z=>[(9,.pe 32 i 207 0),(10,.ag (jHonest_l0 s i)),(11,.yl 37),(12,.ag (jHonest_l0 s i)),(13,vt true),(14,vt false)]) (fun z=>[(37,.lo .ready none)]) (fun hq1=>(.ix (i:=i) (m:=s.srv.length) (by omega) (.el (e:=eSrv) (gDx (l:=s.srv) (i:=i) eSrv0 (by omega)) (.cs 2 (decide ((s.srv.getD i eSrv0).ans.e=0)) 41 [] [] (fun z=>[(4,vt (decide ((s.srv.getD i eSrv0).ans.e=0))),(8,.pt 40 75),(9,.pt 40 75),(10,vi (s.srv.getD i eSrv0).ans.e),(11,vt (decide ((s.srv.getD i eSrv0).ans.e=0))),(12,vt (decide ((s.srv.getD i eSrv0).ans.e=0))),(13,vt (decide ((s.srv.getD i eSrv0).ans.e=0))),(17,vt (bif z then (!(jgt_v0 (s.srv.getD i eSrv0))) else false)),(18,vt (bif z then (!(jgt_v0 (s.srv.getD i eSrv0))) else false)),(19,vt (decide ((s.srv.getD i eSrv0).ans.e=0))),(20,vt (!(decide ((s.srv.getD i eSrv0).ans.e=0)))),(21,vt (!(decide ((s.srv.getD i eSrv0).ans.e=0)))),(27,vt (bif z then false else (!(eqA (nf (s.srv.getD i eSrv0).ans.line) (fun _=>0) 64 0)))),(28,vt (bif z then false else (!(eqA (nf (s.srv.getD i eSrv0).ans.line) (fun _=>0) 64 0)))),(29,.pt 40 0),(30,.pt 40 0),(31,vi (s.srv.getD i eSrv0).step.kind),(32,vt (decide ((s.srv.getD i eSrv0).step.kind=1))),(33,vt (decide ((s.srv.getD i eSrv0).step.kind=1))),(34,vt (decide ((s.srv.getD i eSrv0).ans.e=0))),(35,vt (decide ((s.srv.getD i eSrv0).ans.e=0))),(36,vt (decide ((s.srv.getD i eSrv0).ans.e=0))),(45,vt (bif z then (decide (1 < (jAt_r s (s.srv.getD i eSrv0).first (s.srv.getD i eSrv0).last).exp)) else false))]) (fun z=>[(37,.lo .busy none)]) (fun hq2=>(.t2 hq2 (.c [] (jgt (s.srv.getD i eSrv0)) (.t2 hq2 (.t (congrArg (!·) (show (jgt_v0 (s.srv.getD i eSrv0))=true from ((hbad_f (hfi_lt hi)).1 hq2).1)) (.t (congrArg (!·) (show (jgt_v0 (s.srv.getD i eSrv0))=true from ((hbad_f (hfi_lt hi)).1 hq2).1)) (.t (congrArg (!·) (show (jgt_v0 (s.srv.getD i eSrv0))=true from ((hbad_f (hfi_lt hi)).1 hq2).1)) (.g hq2 (.g hq2 (.g hq2 (.g hq2 (.g hq2 (.t (congrArg (!·) (show (jgt_v0 (s.srv.getD i eSrv0))=true from ((hbad_f (hfi_lt hi)).1 hq2).1)) (.g hq2 (.t (congrArg (!·) (show (jgt_v0 (s.srv.getD i eSrv0))=true from ((hbad_f (hfi_lt hi)).1 hq2).1)) (.n (.t2 hq1 (.t2 hq2 (.t2 hq2 (.t2 hq2 (.c (ir 0 33) (jAt s (s.srv.getD i eSrv0).first (s.srv.getD i eSrv0).last hl) (.t2 hq2 (.t hq2 (.t (show (decide (1 < (jAt_r s (s.srv.getD i eSrv0).first (s.srv.getD i eSrv0).last).exp))=false from (((hbad_f (hfi_lt hi)).1 hq2).2 hq1)) .nil)))))))))))))))))))))))) (fun hq2=>(.t2 hq2 (.t2 hq2 (.n2 (.n (.g hq2 (.g hq2 (.g hq2 (.g hq2 (.g hq2 (.n (.g hq2 (.n (.t (congrArg (!·) (show (eqA (nf (s.srv.getD i eSrv0).ans.line) (fun _=>0) 64 0)=true from ((hbad_f (hfi_lt hi)).2 hq2))) (.t2 hq1 (.t2 hq2 (.t2 hq2 (.t2 hq2 (.t2 hq2 (.t hq2 (.n .nil))))))))))))))))))))) (.n .nil))))) (fun hq1=>(.ix (i:=i) (m:=s.srv.length) (by omega) (.el (e:=eSrv) (gDx (l:=s.srv) (i:=i) eSrv0 (by omega)) (.cs 2 (decide ((s.srv.getD i eSrv0).ans.e=0)) 41 [] [] (fun z=>[(4,vt (decide ((s.srv.getD i eSrv0).ans.e=0))),(8,.pt 40 75),(9,.pt 40 75),(10,vi (s.srv.getD i eSrv0).ans.e),(11,vt (decide ((s.srv.getD i eSrv0).ans.e=0))),(12,vt (decide ((s.srv.getD i eSrv0).ans.e=0))),(13,vt (decide ((s.srv.getD i eSrv0).ans.e=0))),(17,vt (bif z then (!(jgt_v0 (s.srv.getD i eSrv0))) else false)),(18,vt (bif z then (!(jgt_v0 (s.srv.getD i eSrv0))) else false)),(19,vt (decide ((s.srv.getD i eSrv0).ans.e=0))),(20,vt (!(decide ((s.srv.getD i eSrv0).ans.e=0)))),(21,vt (!(decide ((s.srv.getD i eSrv0).ans.e=0)))),(27,vt (bif z then false else (!(eqA (nf (s.srv.getD i eSrv0).ans.line) (fun _=>0) 64 0)))),(28,vt (bif z then false else (!(eqA (nf (s.srv.getD i eSrv0).ans.line) (fun _=>0) 64 0)))),(29,.pt 40 0),(30,.pt 40 0),(31,vi (s.srv.getD i eSrv0).step.kind),(32,vt (decide ((s.srv.getD i eSrv0).step.kind=1))),(33,vt (decide ((s.srv.getD i eSrv0).step.kind=1))),(34,.v undef),(35,vt false),(36,vt false),(37,.v undef),(38,.v undef),(39,.v undef),(40,.v undef),(41,.v undef),(42,.v undef),(43,.v undef),(44,.v undef),(45,vt false)]) (fun z=>[(37,.lo .busy none)]) (fun hq2=>(.t2 hq2 (.c [] (jgt (s.srv.getD i eSrv0)) (.t2 hq2 (.t (congrArg (!·) (show (jgt_v0 (s.srv.getD i eSrv0))=true from ((hbad_f (hfi_lt hi)).1 hq2).1)) (.t (congrArg (!·) (show (jgt_v0 (s.srv.getD i eSrv0))=true from ((hbad_f (hfi_lt hi)).1 hq2).1)) (.t (congrArg (!·) (show (jgt_v0 (s.srv.getD i eSrv0))=true from ((hbad_f (hfi_lt hi)).1 hq2).1)) (.g hq2 (.g hq2 (.g hq2 (.g hq2 (.g hq2 (.t (congrArg (!·) (show (jgt_v0 (s.srv.getD i eSrv0))=true from ((hbad_f (hfi_lt hi)).1 hq2).1)) (.g hq2 (.t (congrArg (!·) (show (jgt_v0 (s.srv.getD i eSrv0))=true from ((hbad_f (hfi_lt hi)).1 hq2).1)) (.n (.t2 hq1 (.n8 (.n2 .nil))))))))))))))))))) (fun hq2=>(.t2 hq2 (.t2 hq2 (.n2 (.n (.g hq2 (.g hq2 (.g hq2 (.g hq2 (.g hq2 (.n (.g hq2 (.n (.t (congrArg (!·) (show (eqA (nf (s.srv.getD i eSrv0).ans.line) (fun _=>0) 64 0)=true from ((hbad_f (hfi_lt hi)).2 hq2))) (.t2 hq1 (.n8 (.n2 .nil))))))))))))))))) (.n .nil))))) (.e 15 (aAdd (a:=((i:Nat):Int)) (b:=1) (c:=((i + 1:Nat):Int)) (by omega)) .nil)))
 generalize d0:jHonest_v0 s=yd0
 unfold jHonest_v0 at d0
 rcases bft (decide ((((hfi s):Nat):Int) < ((s.srv.length:Nat):Int))) with q1 | q1
 ·rw [cpos q1] at d0
  have q1':=of_decide_eq_true q1
  rcases bft (decide ((s.srv.getD (hfi s) eSrv0).ans.e=0)) with q2 | q2
  ·have q2':=of_decide_eq_true q2
   rcases bft (jgt_v0 (s.srv.getD (hfi s) eSrv0)) with q3 | q3
   ·subst d0
    exact so Tryz.f86 9 (ir 0 33) (.c (ir 0 33) (xServed s) (.lp (hfi s) 39 [] [] (fun i=>[(7,vn i)]) (fun i=>[(37,.lo .ready none)]) gd1 (.t q1 (.ix (i:=(hfi s)) (m:=s.srv.length) (by omega) (.el (e:=eSrv) (gDx (l:=s.srv) (i:=(hfi s)) eSrv0 (by omega)) (.t2 q2 (.c [] (jgt (s.srv.getD (hfi s) eSrv0)) (.t2 q2 (.g2 q3 (.g q3 (.g4 q2 (.g q2 (.g q3 (.g q2 (.g q3 (.n (.t (show (decide ((s.srv.getD (hfi s) eSrv0).step.kind=1))=true from ((hbad_t (hfi_at q1)).1 q2 q3).1) (.t (show (decide ((s.srv.getD (hfi s) eSrv0).step.kind=1))=true from ((hbad_t (hfi_at q1)).1 q2 q3).1) (.t4 q2 (.t2 q2 (.c (ir 0 33) (jAt s (s.srv.getD (hfi s) eSrv0).first (s.srv.getD (hfi s) eSrv0).last hl) (.t2 q2 (.t q2 (.t (show (decide (1 < (jAt_r s (s.srv.getD (hfi s) eSrv0).first (s.srv.getD (hfi s) eSrv0).last).exp))=true from ((hbad_t (hfi_at q1)).1 q2 q3).2) (.y .nil)))))))))))))))))))))))))
   ·subst d0
    exact so Tryz.f86 9 (ir 0 33) (.c (ir 0 33) (xServed s) (.lp (hfi s) 39 [] [] (fun i=>[(7,vn i)]) (fun i=>[(37,.lo .ready none)]) gd1 (.t q1 (.ix (i:=(hfi s)) (m:=s.srv.length) (by omega) (.el (e:=eSrv) (gDx (l:=s.srv) (i:=(hfi s)) eSrv0 (by omega)) (.t2 q2 (.c [] (jgt (s.srv.getD (hfi s) eSrv0)) (.t2 q2 (.g4 q3 (.g q3 (.y2 .nil)))))))))))
  ·have q2':=of_decide_eq_false q2
   subst d0
   exact so Tryz.f86 9 (ir 0 33) (.c (ir 0 33) (xServed s) (.lp (hfi s) 39 [] [] (fun i=>[(7,vn i)]) (fun i=>[(37,.lo .ready none)]) gd1 (.t q1 (.ix (i:=(hfi s)) (m:=s.srv.length) (by omega) (.el (e:=eSrv) (gDx (l:=s.srv) (i:=(hfi s)) eSrv0 (by omega)) (.t4 q2 (.n2 (.n (.g4 q2 (.g q2 (.n (.g q2 (.n (.t (congrArg (!·) (show (eqA (nf (s.srv.getD (hfi s) eSrv0).ans.line) (fun _=>0) 64 0)=false from ((hbad_t (hfi_at q1)).2 q2))) (.y .nil)))))))))))))))
 ·rw [cneg q1] at d0
  have q1':=of_decide_eq_false q1
  subst d0
  exact so Tryz.f86 9 (ir 0 33) (.c (ir 0 33) (xServed s) (.lp (hfi s) 39 [] [] (fun i=>[(7,vn i)]) (fun i=>[(37,.lo .ready none)]) gd1 (.t q1 .nil)))
end Go.Proofs.YtfhiggfmkjmeiaaGreat
