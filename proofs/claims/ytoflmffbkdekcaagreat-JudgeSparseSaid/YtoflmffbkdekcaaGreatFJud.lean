import Derived.Test.YtoflmffbkdekcaaGreatFL24
namespace Go.Proofs.YtoflmffbkdekcaaGreat
open Go Go.RowKit
set_option linter.unusedVariables false
set_option linter.unusedSimpArgs false
set_option maxRecDepth 100000
structure Lk where
 exp:Int
 astray:Bool
 drop:Bool
 tell:Bool
def japart_v0 (mode:Int) (a:Int) (b:Int):Bool:=bif decide (mode=1) then (!(decide (((parF a:Nat):Int)=((parF b:Nat):Int)))) else (!(eqA (nf (byF a)) (nf (byF b)) 3 0))
theorem japart (mode:Int) (a:Int) (b:Int) :Sp P 138 [vi mode,vi a,vi b] [] (vt (japart_v0 mode a b)) []:=by
 generalize d0:japart_v0 mode a b=yd0
 unfold japart_v0 at d0
 rcases bft (decide (mode=1)) with q1 | q1
 ·rw [cpos q1] at d0
  subst d0
  exact so Tryz.f138 3 [] (.t q1 (.c [] (gparity_sp a) (.c [] (gparity_sp b) .nil)))
 ·rw [cneg q1] at d0
  subst d0
  exact so Tryz.f138 3 [] (.t q1 (.c [] (gbytes_sp a) (.c [] (gbytes_sp b) .nil)))
def jstray_v0 (a:Acc):Bool:=bif a.drop then true else (!(decide (a.went=a.index)))
theorem jstray (a:Acc) :Sp P 137 [.ag [vt a.write,vi a.index,vi a.went,vt a.drop,vi a.exp,vt a.mark]] [] (vt (jstray_v0 a)) []:=by
 generalize d0:jstray_v0 a=yd0
 unfold jstray_v0 at d0
 rcases bft a.drop with q1 | q1
 ·rw [cpos q1] at d0
  subst d0
  exact so Tryz.f137 3 [] (.t q1 (.t q1 (.t q1 (.t q1 (.t q1 (.t q1 (.t q1 .nil)))))))
 ·rw [cneg q1] at d0
  subst d0
  exact so Tryz.f137 3 [] (.t q1 (.t q1 (.t q1 (.t q1 (.t q1 (.t q1 (.t q1 .nil)))))))
def jadd_r (l:Lk) (mode:Int) (a:Acc):Lk:=bif (jstray_v0 a) then (bif l.drop then (bif a.write then (⟨l.exp,true,true,l.tell⟩:Lk) else (bif a.drop then (⟨l.exp,true,true,l.tell⟩:Lk) else (bif (japart_v0 mode a.index a.went) then (⟨l.exp,true,true,l.tell⟩:Lk) else (⟨l.exp,true,true,false⟩:Lk)))) else (bif a.drop then (⟨l.exp,true,true,l.tell⟩:Lk) else (bif a.write then (⟨l.exp,true,decide (0 < a.exp),l.tell⟩:Lk) else (bif (japart_v0 mode a.index a.went) then (⟨l.exp,true,decide (0 < a.exp),l.tell⟩:Lk) else (⟨l.exp,true,decide (0 < a.exp),false⟩:Lk))))) else (bif a.mark then { l with exp:=if IntKind.i64.wrap (a.exp + 1) > l.exp then IntKind.i64.wrap (a.exp + 1) else l.exp } else { l with exp:=if a.exp > l.exp then a.exp else l.exp })
theorem jadd (l:Lk) (mode:Int) (a:Acc) :Sp P 90 [.ag [vi l.exp,vt l.astray,vt l.drop,vt l.tell],vi mode,.ag [vt a.write,vi a.index,vi a.went,vt a.drop,vi a.exp,vt a.mark]] [] (.ag [vi (jadd_r l mode a).exp,vt (jadd_r l mode a).astray,vt (jadd_r l mode a).drop,vt (jadd_r l mode a).tell]) []:=by
 generalize d0:jadd_r l mode a=yd0
 unfold jadd_r at d0
 rcases bft (jstray_v0 a) with q1 | q1
 ·rw [cpos q1] at d0
  rcases bft l.drop with q2 | q2
  ·rw [cpos q2] at d0
   rcases bft a.write with q3 | q3
   ·rw [cpos q3] at d0
    subst d0
    exact so Tryz.f90 5 [] (.c [] (jstray a) (.g q1 (.t q2 (.t q2 (.t q2 (.t q2 (.y (.y (.y (.y (.g q3 (.g q3 (.g q3 (.g q3 (.g q3 (.n (.n (.n (.n (.n (.n (.n (.n (.n (.n .nil)))))))))))))))))))))))))
   ·rw [cneg q3] at d0
    rcases bft a.drop with q4 | q4
    ·rw [cpos q4] at d0
     subst d0
     exact so Tryz.f90 5 [] (.c [] (jstray a) (.g q1 (.t q2 (.t q2 (.t q2 (.t q2 (.y (.y (.y (.y (.g q3 (.g q3 (.g q3 (.g q3 (.g q3 (.g q4 (.g q4 (.g q4 (.g q4 (.g q4 (.g q4 (.g q4 (.g q4 (.g q4 (.n .nil)))))))))))))))))))))))))
    ·rw [cneg q4] at d0
     rcases bft (japart_v0 mode a.index a.went) with q5 | q5
     ·rw [cpos q5] at d0
      subst d0
      exact so Tryz.f90 5 [] (.c [] (jstray a) (.g q1 (.t q2 (.t q2 (.t q2 (.t q2 (.y (.y (.y (.y (.g q3 (.g q3 (.g q3 (.g q3 (.g q3 (.g q4 (.g q4 (.g q4 (.g q4 (.g q4 (.g q4 (.g q4 (.c [] (japart mode a.index a.went) (.g q4 (.g q4 (.g q5 .nil))))))))))))))))))))))))))
     ·rw [cneg q5] at d0
      subst d0
      exact so Tryz.f90 5 [] (.c [] (jstray a) (.g q1 (.t q2 (.t q2 (.t q2 (.t q2 (.y (.y (.y (.y (.g q3 (.g q3 (.g q3 (.g q3 (.g q3 (.g q4 (.g q4 (.g q4 (.g q4 (.g q4 (.g q4 (.g q4 (.c [] (japart mode a.index a.went) (.g q4 (.g q4 (.g q5 .nil))))))))))))))))))))))))))
  ·rw [cneg q2] at d0
   rcases bft a.drop with q3 | q3
   ·rw [cpos q3] at d0
    rcases bft a.write with q4 | q4
    ·subst d0
     exact so Tryz.f90 5 [] (.c [] (jstray a) (.g q1 (.t q2 (.t q2 (.t q2 (.t q2 (.t q3 (.t q3 (.t q3 (.t q3 (.g q4 (.g q4 (.g q4 (.g q4 (.g q4 (.n (.n (.n (.n (.n (.n (.n (.n (.n (.n .nil)))))))))))))))))))))))))
    ·subst d0
     exact so Tryz.f90 5 [] (.c [] (jstray a) (.g q1 (.t q2 (.t q2 (.t q2 (.t q2 (.t q3 (.t q3 (.t q3 (.t q3 (.g q4 (.g q4 (.g q4 (.g q4 (.g q4 (.g q3 (.g q3 (.g q3 (.g q3 (.g q3 (.g q3 (.g q3 (.g q3 (.g q3 (.n .nil)))))))))))))))))))))))))
   ·rw [cneg q3] at d0
    rcases bft a.write with q4 | q4
    ·rw [cpos q4] at d0
     subst d0
     exact so Tryz.f90 5 [] (.c [] (jstray a) (.g q1 (.t q2 (.t q2 (.t q2 (.t q2 (.t q3 (.t q3 (.t q3 (.t q3 (.g q4 (.g q4 (.g q4 (.g q4 (.g q4 (.n (.n (.n (.n (.n (.n (.n (.n (.n (.n .nil)))))))))))))))))))))))))
    ·rw [cneg q4] at d0
     rcases bft (japart_v0 mode a.index a.went) with q5 | q5
     ·rw [cpos q5] at d0
      subst d0
      exact so Tryz.f90 5 [] (.c [] (jstray a) (.g q1 (.t q2 (.t q2 (.t q2 (.t q2 (.t q3 (.t q3 (.t q3 (.t q3 (.g q4 (.g q4 (.g q4 (.g q4 (.g q4 (.g q3 (.g q3 (.g q3 (.g q3 (.g q3 (.g q3 (.g q3 (.c [] (japart mode a.index a.went) (.g q3 (.g q3 (.g q5 .nil))))))))))))))))))))))))))
     ·rw [cneg q5] at d0
      subst d0
      exact so Tryz.f90 5 [] (.c [] (jstray a) (.g q1 (.t q2 (.t q2 (.t q2 (.t q2 (.t q3 (.t q3 (.t q3 (.t q3 (.g q4 (.g q4 (.g q4 (.g q4 (.g q4 (.g q3 (.g q3 (.g q3 (.g q3 (.g q3 (.g q3 (.g q3 (.c [] (japart mode a.index a.went) (.g q3 (.g q3 (.g q5 .nil))))))))))))))))))))))))))
 ·rw [cneg q1] at d0
  rcases bft a.mark with q2 | q2
  ·rw [cpos q2] at d0
   subst d0
   exact so Tryz.f90 5 [] (.c [] (jstray a) (.g q1 (.t q2 .nil)))
  ·rw [cneg q2] at d0
   subst d0
   exact so Tryz.f90 5 [] (.c [] (jstray a) (.g q1 (.t q2 .nil)))
theorem xAccs (d:DevS) (a:Int) :Sp P 85 [.pt 0 0,vi a] (ros (bDev d 0)) (.fn (.func 135) [] [.pt 8 0,.pt 9 0]) (ros (bDev d 0) ++ [.blk [vi a] 3,.blk [.pt 0 0] 50]) :=
 so Tryz.f85 4 (ir 0 8 ++ .id 10 :: .id 9 :: []) .nil
def jsee (m:Int) (l:List Acc) (a:Nat):Nat→Lk
 | 0=>⟨0,false,false,true⟩
 | n + 1=>jadd_r (jsee m l a n) m (l.getD (a + n) eAcc0)
def jcnt (a b:Int) (n:Nat):Nat:=min n b.toNat - a.toNat
theorem jmax (a:Int):Value.int .i64 (if 0 > a then 0 else a)=.int .i64 ((a.toNat:Nat):Int):=by
 congr 1; split <;> omega
def jAt_r (s:MchS) (a:Int) (b:Int):Lk:=jsee s.c.d.d.mode s.c.d.l a.toNat (jcnt a b s.c.d.l.length)
theorem jAt (s:MchS) (a:Int) (b:Int) (hl:s.c.d.l.length≤100000000):Sp P 45 [.pt 0 0,vi a,vi b] ([.ro (.blk [.pt 16 0,.pt 1 0,.mp 30,.sl 31,.sl 32,vi s.scrubs,vi s.steps] 122)] ++ ros (bCtl s.c 1) ++ ros (bCode 25) ++ [.ro (.mp (.ar .u8 64 (nf (fun _=>0))) (mpC s.ideal)),.ro (.row eInj s.inj),.ro (.row eSrv s.srv)]) (.ag [vi (jAt_r s a b).exp,vt (jAt_r s a b).astray,vt (jAt_r s a b).drop,vt (jAt_r s a b).tell]) ([.ro (.blk [.pt 16 0,.pt 1 0,.mp 30,.sl 31,.sl 32,vi s.scrubs,vi s.steps] 122)] ++ ros (bCtl s.c 1) ++ ros (bCode 25) ++ [.ro (.mp (.ar .u8 64 (nf (fun _=>0))) (mpC s.ideal)),.ro (.row eInj s.inj),.ro (.row eSrv s.srv)]):=by
 have hn:jcnt a b s.c.d.l.length=min s.c.d.l.length b.toNat - a.toNat:=rfl
 have gd1:∀ (i:Nat) (hi:i < (jcnt a b s.c.d.l.length)),Good P _ _:=fun i hi=>(.t (show (decide (((a.toNat + i:Nat):Int) < ((s.c.d.l.length:Nat):Int)))=true from decide_eq_true (by omega)) (.ix (i:=a.toNat + i) (m:=s.c.d.l.length) (by omega) (.el (e:=eAcc) (gDx (l:=s.c.d.l) (i:=a.toNat + i) eAcc0 (by omega)) (.t (show (decide (b≤((a.toNat + i:Nat):Int)))=false from decide_eq_false (by omega)) (.c [] (jadd (jsee s.c.d.d.mode s.c.d.l a.toNat i) s.c.d.d.mode (s.c.d.l.getD (a.toNat + i) eAcc0)) (.n (.e 15 (aAdd (a:=((a.toNat + i:Nat):Int)) (b:=1) (c:=(((a.toNat + i) + 1:Nat):Int)) (by omega)) .nil)))))))
 generalize d0:jAt_r s a b=yd0
 unfold jAt_r at d0
 rcases bft (decide (((a.toNat + (jcnt a b s.c.d.l.length):Nat):Int) < ((s.c.d.l.length:Nat):Int))) with q1 | q1
 ·have q1':=of_decide_eq_true q1
  subst d0
  exact so Tryz.f45 11 (ir 0 33) (.c (ir 0 33) (gDev s) (.c (ir 16 8) (vDram s.c.d) (.c (ir 20 4) (dMode s.c.d.d) (.c (ir 0 33) (gDev s) (.c (ir 16 8) (xAccs s.c.d a) (.e 6 (jmax a) (.lp (jcnt a b s.c.d.l.length) 42 [] [] (fun i=>[(4,vn (a.toNat + i))]) (fun i=>[(36,.blk [vi (jsee s.c.d.d.mode s.c.d.l a.toNat i).exp,vt (jsee s.c.d.d.mode s.c.d.l a.toNat i).astray,vt (jsee s.c.d.d.mode s.c.d.l a.toNat i).drop,vt (jsee s.c.d.d.mode s.c.d.l a.toNat i).tell] 94),(40,.lo .ready none)]) gd1 (.t q1 (.ix (i:=a.toNat + (jcnt a b s.c.d.l.length)) (m:=s.c.d.l.length) (by omega) (.el (e:=eAcc) (gDx (l:=s.c.d.l) (i:=a.toNat + (jcnt a b s.c.d.l.length)) eAcc0 (by omega)) (.t (show (decide (b≤((a.toNat + (jcnt a b s.c.d.l.length):Nat):Int)))=true from decide_eq_true (by have:=of_decide_eq_true q1; omega)) (.y .nil))))))))))))
 ·have q1':=of_decide_eq_false q1
  subst d0
  exact so Tryz.f45 11 (ir 0 33) (.c (ir 0 33) (gDev s) (.c (ir 16 8) (vDram s.c.d) (.c (ir 20 4) (dMode s.c.d.d) (.c (ir 0 33) (gDev s) (.c (ir 16 8) (xAccs s.c.d a) (.e 6 (jmax a) (.lp (jcnt a b s.c.d.l.length) 42 [] [] (fun i=>[(4,vn (a.toNat + i))]) (fun i=>[(36,.blk [vi (jsee s.c.d.d.mode s.c.d.l a.toNat i).exp,vt (jsee s.c.d.d.mode s.c.d.l a.toNat i).astray,vt (jsee s.c.d.d.mode s.c.d.l a.toNat i).drop,vt (jsee s.c.d.d.mode s.c.d.l a.toNat i).tell] 94),(40,.lo .ready none)]) gd1 (.t q1 .nil))))))))
def jrd (m:Int) (l:List Acc):Nat→Lk
 | 0=>⟨0,false,false,true⟩
 | n + 1=>bif (l.getD n eAcc0).write then jrd m l n else jadd_r (jrd m l n) m (l.getD n eAcc0)
def jreads_r (s:MchS):Lk:=jrd s.c.d.d.mode s.c.d.l s.c.d.l.length
theorem jreads (s:MchS) (hl:s.c.d.l.length≤100000000):Sp P 91 [.pt 0 0] ([.ro (.blk [.pt 16 0,.pt 1 0,.mp 30,.sl 31,.sl 32,vi s.scrubs,vi s.steps] 122)] ++ ros (bCtl s.c 1) ++ ros (bCode 25) ++ [.ro (.mp (.ar .u8 64 (nf (fun _=>0))) (mpC s.ideal)),.ro (.row eInj s.inj),.ro (.row eSrv s.srv)]) (.ag [vi (jreads_r s).exp,vt (jreads_r s).astray,vt (jreads_r s).drop,vt (jreads_r s).tell]) ([.ro (.blk [.pt 16 0,.pt 1 0,.mp 30,.sl 31,.sl 32,vi s.scrubs,vi s.steps] 122)] ++ ros (bCtl s.c 1) ++ ros (bCode 25) ++ [.ro (.mp (.ar .u8 64 (nf (fun _=>0))) (mpC s.ideal)),.ro (.row eInj s.inj),.ro (.row eSrv s.srv)]) :=
 so Tryz.f91 15 (ir 0 33) (.c (ir 0 33) (gDev s) (.c (ir 16 8) (xAccs s.c.d 0) (.lp s.c.d.l.length 41 [] [] (fun i=>[(4,vn i)]) (fun i=>[(36,.blk [vi (jrd s.c.d.d.mode s.c.d.l i).exp,vt (jrd s.c.d.d.mode s.c.d.l i).astray,vt (jrd s.c.d.d.mode s.c.d.l i).drop,vt (jrd s.c.d.d.mode s.c.d.l i).tell] 94),(39,.lo .ready none)]) (fun i hi=>(.t (show (decide (((i:Nat):Int) < ((s.c.d.l.length:Nat):Int)))=true from decide_eq_true (by omega)) (.ix (i:=i) (m:=s.c.d.l.length) (by omega) (.el (e:=eAcc) (gDx (l:=s.c.d.l) (i:=i) eAcc0 (by omega)) (.cs 0 (s.c.d.l.getD i eAcc0).write 42 [] [] (fun z=>[]) (fun z=>[(36,.blk [vi (bif z then (jrd s.c.d.d.mode s.c.d.l i) else (jadd_r (jrd s.c.d.d.mode s.c.d.l i) s.c.d.d.mode (s.c.d.l.getD i eAcc0))).exp,vt (bif z then (jrd s.c.d.d.mode s.c.d.l i) else (jadd_r (jrd s.c.d.d.mode s.c.d.l i) s.c.d.d.mode (s.c.d.l.getD i eAcc0))).astray,vt (bif z then (jrd s.c.d.d.mode s.c.d.l i) else (jadd_r (jrd s.c.d.d.mode s.c.d.l i) s.c.d.d.mode (s.c.d.l.getD i eAcc0))).drop,vt (bif z then (jrd s.c.d.d.mode s.c.d.l i) else (jadd_r (jrd s.c.d.d.mode s.c.d.l i) s.c.d.d.mode (s.c.d.l.getD i eAcc0))).tell] 94)]) (fun hq1=>(.g hq1 .nil)) (fun hq1=>(.g hq1 (.c (ir 0 33) (gDev s) (.c (ir 16 8) (vDram s.c.d) (.c (ir 20 4) (dMode s.c.d.d) (.c [] (jadd (jrd s.c.d.d.mode s.c.d.l i) s.c.d.d.mode (s.c.d.l.getD i eAcc0)) .nil)))))) (.n (.e 15 (aAdd (a:=((i:Nat):Int)) (b:=1) (c:=((i + 1:Nat):Int)) (by omega)) .nil))))))) (.t (show (decide (((s.c.d.l.length:Nat):Int) < ((s.c.d.l.length:Nat):Int)))=false from decide_eq_false (by omega)) .nil))))
def jCalm_v0 (s:MchS):Bool:=bif (jAt_r s 0 ((s.c.d.l.length:Nat):Int)).astray then false else (decide ((jAt_r s 0 ((s.c.d.l.length:Nat):Int)).exp≤1))
theorem jCalm (s:MchS) (hl:s.c.d.l.length≤100000000):Sp P 47 [.pt 0 0] ([.ro (.blk [.pt 16 0,.pt 1 0,.mp 30,.sl 31,.sl 32,vi s.scrubs,vi s.steps] 122)] ++ ros (bCtl s.c 1) ++ ros (bCode 25) ++ [.ro (.mp (.ar .u8 64 (nf (fun _=>0))) (mpC s.ideal)),.ro (.row eInj s.inj),.ro (.row eSrv s.srv)]) (vt (jCalm_v0 s)) ([.ro (.blk [.pt 16 0,.pt 1 0,.mp 30,.sl 31,.sl 32,vi s.scrubs,vi s.steps] 122)] ++ ros (bCtl s.c 1) ++ ros (bCode 25) ++ [.ro (.mp (.ar .u8 64 (nf (fun _=>0))) (mpC s.ideal)),.ro (.row eInj s.inj),.ro (.row eSrv s.srv)]):=by
 generalize d0:jCalm_v0 s=yd0
 unfold jCalm_v0 at d0
 rcases bft (jAt_r s 0 ((s.c.d.l.length:Nat):Int)).astray with q1 | q1
 ·rw [cpos q1] at d0
  subst d0
  exact so Tryz.f47 3 (ir 0 33) (.c (ir 0 33) (gDev s) (.c (ir 16 8) (vCount s.c.d) (.c (ir 0 33) (jAt s 0 ((s.c.d.l.length:Nat):Int) hl) (.g q1 (.g q1 (.g q1 (.g q1 .nil)))))))
 ·rw [cneg q1] at d0
  subst d0
  exact so Tryz.f47 3 (ir 0 33) (.c (ir 0 33) (gDev s) (.c (ir 16 8) (vCount s.c.d) (.c (ir 0 33) (jAt s 0 ((s.c.d.l.length:Nat):Int) hl) (.g q1 (.g q1 (.g q1 (.g q1 .nil)))))))
def jWatched_v0 (s:MchS):Bool:=bif decide ((jreads_r s).exp≤IntKind.i64.wrap (1 + s.c.d.d.mode)) then (bif (jreads_r s).drop then false else (jreads_r s).tell) else false
theorem jWatched (s:MchS) (hl:s.c.d.l.length≤100000000):Sp P 49 [.pt 0 0] ([.ro (.blk [.pt 16 0,.pt 1 0,.mp 30,.sl 31,.sl 32,vi s.scrubs,vi s.steps] 122)] ++ ros (bCtl s.c 1) ++ ros (bCode 25) ++ [.ro (.mp (.ar .u8 64 (nf (fun _=>0))) (mpC s.ideal)),.ro (.row eInj s.inj),.ro (.row eSrv s.srv)]) (vt (jWatched_v0 s)) ([.ro (.blk [.pt 16 0,.pt 1 0,.mp 30,.sl 31,.sl 32,vi s.scrubs,vi s.steps] 122)] ++ ros (bCtl s.c 1) ++ ros (bCode 25) ++ [.ro (.mp (.ar .u8 64 (nf (fun _=>0))) (mpC s.ideal)),.ro (.row eInj s.inj),.ro (.row eSrv s.srv)]):=by
 generalize d0:jWatched_v0 s=yd0
 unfold jWatched_v0 at d0
 rcases bft (decide ((jreads_r s).exp≤IntKind.i64.wrap (1 + s.c.d.d.mode))) with q1 | q1
 ·rw [cpos q1] at d0
  rcases bft (jreads_r s).drop with q2 | q2
  ·rw [cpos q2] at d0
   subst d0
   exact so Tryz.f49 6 (ir 0 33) (.c (ir 0 33) (jreads s hl) (.c (ir 0 33) (gDev s) (.c (ir 16 8) (vDram s.c.d) (.c (ir 20 4) (dMode s.c.d.d) (.t q1 (.t q1 (.t q1 (.t q1 (.g q2 (.g q2 (.g q2 .nil)))))))))))
  ·rw [cneg q2] at d0
   subst d0
   exact so Tryz.f49 6 (ir 0 33) (.c (ir 0 33) (jreads s hl) (.c (ir 0 33) (gDev s) (.c (ir 16 8) (vDram s.c.d) (.c (ir 20 4) (dMode s.c.d.d) (.t q1 (.t q1 (.t q1 (.t q1 (.g q2 (.g q2 (.g q2 .nil)))))))))))
 ·rw [cneg q1] at d0
  subst d0
  exact so Tryz.f49 6 (ir 0 33) (.c (ir 0 33) (jreads s hl) (.c (ir 0 33) (gDev s) (.c (ir 16 8) (vDram s.c.d) (.c (ir 20 4) (dMode s.c.d.d) (.t q1 (.t q1 (.t q1 (.t q1 (.n (.n (.n .nil)))))))))))
def jof (x:Int) (a:Acc):Bool:=bif decide (a.index=x) then true else (bif a.drop then false else decide (a.went=x))
def jtch (l:List Acc) (a:Nat) (x:Int):Nat:=ff (fun i=>jof x (l.getD (a + i) eAcc0)) (l.length - a)
theorem jtch_lt {l:List Acc} {a:Nat} {x:Int} {i:Nat} (h:i < jtch l a x):jof x (l.getD (a + i) eAcc0)=false:=ff_lt (p:=fun i=>jof x (l.getD (a + i) eAcc0)) h
theorem jtch_at {l:List Acc} {a:Nat} {x:Int} (h:decide (((a + jtch l a x:Nat):Int) < ((l.length:Nat):Int))=true):jof x (l.getD (a + jtch l a x) eAcc0)=true:=ff_at (p:=fun i=>jof x (l.getD (a + i) eAcc0)) (n:=l.length - a) (show jtch l a x < l.length - a by have:=of_decide_eq_true h; omega)
theorem jof_f {x:Int} {a:Acc} (h:jof x a=false):decide (a.index=x)=false∧(a.drop=false→decide (a.went=x)=false):=by
 unfold jof at h; revert h; cases decide (a.index=x) <;> cases a.drop <;> simp
theorem jof_t {x:Int} {a:Acc} (h:jof x a=true) (q:decide (a.index=x)=false):a.drop=false∧decide (a.went=x)=true:=by
 unfold jof at h; rw [q] at h; revert h; cases a.drop <;> simp
def jTouched_v0 (s:MchS) (a:Int) (x:Int):Bool:=bif decide (((a.toNat + (jtch s.c.d.l a.toNat x):Nat):Int) < ((s.c.d.l.length:Nat):Int)) then true else false
theorem jTouched (s:MchS) (a:Int) (x:Int) (hl:s.c.d.l.length≤100000000):Sp P 46 [.pt 0 0,vi a,vi x] ([.ro (.blk [.pt 16 0,.pt 1 0,.mp 30,.sl 31,.sl 32,vi s.scrubs,vi s.steps] 122)] ++ ros (bCtl s.c 1) ++ ros (bCode 25) ++ [.ro (.mp (.ar .u8 64 (nf (fun _=>0))) (mpC s.ideal)),.ro (.row eInj s.inj),.ro (.row eSrv s.srv)]) (vt (jTouched_v0 s a x)) ([.ro (.blk [.pt 16 0,.pt 1 0,.mp 30,.sl 31,.sl 32,vi s.scrubs,vi s.steps] 122)] ++ ros (bCtl s.c 1) ++ ros (bCode 25) ++ [.ro (.mp (.ar .u8 64 (nf (fun _=>0))) (mpC s.ideal)),.ro (.row eInj s.inj),.ro (.row eSrv s.srv)]):=by
 have hw:jtch s.c.d.l a.toNat x≤s.c.d.l.length - a.toNat:=ff_le _ _
 have gd1:∀ (i:Nat) (hi:i < (jtch s.c.d.l a.toNat x)),Good P _ _:=fun i hi=>(.t (show (decide (((a.toNat + i:Nat):Int) < ((s.c.d.l.length:Nat):Int)))=true from decide_eq_true (by omega)) (.ix (i:=a.toNat + i) (m:=s.c.d.l.length) (by omega) (.el (e:=eAcc) (gDx (l:=s.c.d.l) (i:=a.toNat + i) eAcc0 (by omega)) (.cs 2 (s.c.d.l.getD (a.toNat + i) eAcc0).drop 41 [] [] (fun z=>[(15,.pt 40 1),(16,vi (s.c.d.l.getD (a.toNat + i) eAcc0).index),(17,vi x),(18,vt (decide ((s.c.d.l.getD (a.toNat + i) eAcc0).index=x))),(19,vt (decide ((s.c.d.l.getD (a.toNat + i) eAcc0).index=x))),(20,.pt 40 2),(21,.pt 40 3),(22,vt (s.c.d.l.getD (a.toNat + i) eAcc0).drop),(23,vt (!(s.c.d.l.getD (a.toNat + i) eAcc0).drop)),(24,vt (!(s.c.d.l.getD (a.toNat + i) eAcc0).drop)),(30,vt (bif z then false else (decide ((s.c.d.l.getD (a.toNat + i) eAcc0).went=x)))),(31,vt (bif z then false else (decide ((s.c.d.l.getD (a.toNat + i) eAcc0).went=x))))]) (fun z=>[(38,.lo .busy none)]) (fun hq1=>(.t (show (decide ((s.c.d.l.getD (a.toNat + i) eAcc0).index=x))=false from (jof_f (jtch_lt hi)).1) (.t (show (decide ((s.c.d.l.getD (a.toNat + i) eAcc0).index=x))=false from (jof_f (jtch_lt hi)).1) (.t (show (decide ((s.c.d.l.getD (a.toNat + i) eAcc0).index=x))=false from (jof_f (jtch_lt hi)).1) (.t (show (decide ((s.c.d.l.getD (a.toNat + i) eAcc0).index=x))=false from (jof_f (jtch_lt hi)).1) (.t (show (decide ((s.c.d.l.getD (a.toNat + i) eAcc0).index=x))=false from (jof_f (jtch_lt hi)).1) (.g hq1 (.g hq1 (.g hq1 (.g hq1 (.g hq1 (.t (show (decide ((s.c.d.l.getD (a.toNat + i) eAcc0).index=x))=false from (jof_f (jtch_lt hi)).1) (.g hq1 (.t (show (decide ((s.c.d.l.getD (a.toNat + i) eAcc0).index=x))=false from (jof_f (jtch_lt hi)).1) (.n .nil))))))))))))))) (fun hq1=>(.t (show (decide ((s.c.d.l.getD (a.toNat + i) eAcc0).index=x))=false from (jof_f (jtch_lt hi)).1) (.t (show (decide ((s.c.d.l.getD (a.toNat + i) eAcc0).index=x))=false from (jof_f (jtch_lt hi)).1) (.t (show (decide ((s.c.d.l.getD (a.toNat + i) eAcc0).index=x))=false from (jof_f (jtch_lt hi)).1) (.t (show (decide ((s.c.d.l.getD (a.toNat + i) eAcc0).index=x))=false from (jof_f (jtch_lt hi)).1) (.t (show (decide ((s.c.d.l.getD (a.toNat + i) eAcc0).index=x))=false from (jof_f (jtch_lt hi)).1) (.g hq1 (.g hq1 (.g hq1 (.g hq1 (.g hq1 (.t (show (decide ((s.c.d.l.getD (a.toNat + i) eAcc0).index=x))=false from (jof_f (jtch_lt hi)).1) (.g hq1 (.t (show (decide ((s.c.d.l.getD (a.toNat + i) eAcc0).index=x))=false from (jof_f (jtch_lt hi)).1) (.t (show (decide ((s.c.d.l.getD (a.toNat + i) eAcc0).went=x))=false from ((jof_f (jtch_lt hi)).2 hq1)) .nil))))))))))))))) (.n (.e 15 (aAdd (a:=((a.toNat + i:Nat):Int)) (b:=1) (c:=(((a.toNat + i) + 1:Nat):Int)) (by omega)) .nil))))))
 generalize d0:jTouched_v0 s a x=yd0
 unfold jTouched_v0 at d0
 rcases bft (decide (((a.toNat + (jtch s.c.d.l a.toNat x):Nat):Int) < ((s.c.d.l.length:Nat):Int))) with q1 | q1
 ·rw [cpos q1] at d0
  have q1':=of_decide_eq_true q1
  rcases bft (decide ((s.c.d.l.getD (a.toNat + (jtch s.c.d.l a.toNat x)) eAcc0).index=x)) with q2 | q2
  ·have q2':=of_decide_eq_true q2
   subst d0
   exact so Tryz.f46 9 (ir 0 33) (.c (ir 0 33) (gDev s) (.c (ir 16 8) (xAccs s.c.d a) (.e 6 (jmax a) (.lp (jtch s.c.d.l a.toNat x) 40 [] [] (fun i=>[(4,vn (a.toNat + i))]) (fun i=>[(38,.lo .ready none)]) gd1 (.t q1 (.ix (i:=a.toNat + (jtch s.c.d.l a.toNat x)) (m:=s.c.d.l.length) (by omega) (.el (e:=eAcc) (gDx (l:=s.c.d.l) (i:=a.toNat + (jtch s.c.d.l a.toNat x)) eAcc0 (by omega)) (.t q2 (.t q2 (.t q2 (.t q2 (.t q2 (.t q2 (.t q2 (.y (.y .nil))))))))))))))))
  ·have q2':=of_decide_eq_false q2
   subst d0
   exact so Tryz.f46 9 (ir 0 33) (.c (ir 0 33) (gDev s) (.c (ir 16 8) (xAccs s.c.d a) (.e 6 (jmax a) (.lp (jtch s.c.d.l a.toNat x) 40 [] [] (fun i=>[(4,vn (a.toNat + i))]) (fun i=>[(38,.lo .ready none)]) gd1 (.t q1 (.ix (i:=a.toNat + (jtch s.c.d.l a.toNat x)) (m:=s.c.d.l.length) (by omega) (.el (e:=eAcc) (gDx (l:=s.c.d.l) (i:=a.toNat + (jtch s.c.d.l a.toNat x)) eAcc0 (by omega)) (.t q2 (.t q2 (.t q2 (.t q2 (.t q2 (.t (congrArg (!·) (show (s.c.d.l.getD (a.toNat + (jtch s.c.d.l a.toNat x)) eAcc0).drop=false from (jof_t (jtch_at q1) q2).1)) (.t (congrArg (!·) (show (s.c.d.l.getD (a.toNat + (jtch s.c.d.l a.toNat x)) eAcc0).drop=false from (jof_t (jtch_at q1) q2).1)) (.t (congrArg (!·) (show (s.c.d.l.getD (a.toNat + (jtch s.c.d.l a.toNat x)) eAcc0).drop=false from (jof_t (jtch_at q1) q2).1)) (.t (congrArg (!·) (show (s.c.d.l.getD (a.toNat + (jtch s.c.d.l a.toNat x)) eAcc0).drop=false from (jof_t (jtch_at q1) q2).1)) (.t (congrArg (!·) (show (s.c.d.l.getD (a.toNat + (jtch s.c.d.l a.toNat x)) eAcc0).drop=false from (jof_t (jtch_at q1) q2).1)) (.t q2 (.t (congrArg (!·) (show (s.c.d.l.getD (a.toNat + (jtch s.c.d.l a.toNat x)) eAcc0).drop=false from (jof_t (jtch_at q1) q2).1)) (.t q2 (.t (show (decide ((s.c.d.l.getD (a.toNat + (jtch s.c.d.l a.toNat x)) eAcc0).went=x))=true from (jof_t (jtch_at q1) q2).2) (.y .nil))))))))))))))))))))))
 ·rw [cneg q1] at d0
  have q1':=of_decide_eq_false q1
  subst d0
  exact so Tryz.f46 9 (ir 0 33) (.c (ir 0 33) (gDev s) (.c (ir 16 8) (xAccs s.c.d a) (.e 6 (jmax a) (.lp (jtch s.c.d.l a.toNat x) 40 [] [] (fun i=>[(4,vn (a.toNat + i))]) (fun i=>[(38,.lo .ready none)]) gd1 (.t q1 .nil)))))
end Go.Proofs.YtoflmffbkdekcaaGreat
