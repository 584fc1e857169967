import Derived.Test.YtoflmffbkdekcaaGreatFJud
namespace Go.Proofs.YtoflmffbkdekcaaGreat
open Go Go.RowKit
set_option linter.unusedVariables false
set_option linter.unusedSimpArgs false
set_option maxRecDepth 100000
def jgt_v0 (x:Srv):Bool:=bif decide (x.step.kind=1) then (eqA (nf x.ans.line) (nf x.want) 64 0) else true
theorem jgt (x:Srv) :Sp P 98 [.ag [vi x.step.kind,vi x.step.line,.ar .u8 64 (nf x.step.data),vu x.step.mask,vi x.step.f.kind,vi x.step.f.rank,vi x.step.f.bank,vi x.step.f.row,vi x.step.f.col,vi x.step.f.chip,vi x.step.f.bit,vi x.step.f.value,vi x.ans.e,vi x.ans.n,.ar .u8 64 (nf x.ans.line),.ar .u8 64 (nf x.want),vi x.first,vi x.last]] [] (vt (jgt_v0 x)) []:=by
 generalize d0:jgt_v0 x=yd0
 unfold jgt_v0 at d0
 rcases bft (decide (x.step.kind=1)) with q1 | q1
 ·rw [cpos q1] at d0
  subst d0
  exact so Tryz.f98 3 [] (.g q1 (.g q1 (.g q1 (.g q1 (.g q1 (.g q1 (.g q1 .nil)))))))
 ·rw [cneg q1] at d0
  subst d0
  exact so Tryz.f98 3 [] (.g q1 (.g q1 (.g q1 (.g q1 (.g q1 (.g q1 (.g q1 .nil)))))))
def jwhole_v0 (x:Stp):Bool:=bif decide (x.kind=2) then true else (bif decide (x.kind=3) then (decide (((wt x.mask:Nat):Int)=64)) else false)
theorem jwhole (x:Stp) (hm:x.mask < 18446744073709551616):Sp P 99 [.ag [vi x.kind,vi x.line,.ar .u8 64 (nf x.data),vu x.mask,vi x.f.kind,vi x.f.rank,vi x.f.bank,vi x.f.row,vi x.f.col,vi x.f.chip,vi x.f.bit,vi x.f.value]] [] (vt (jwhole_v0 x)) []:=by
 generalize d0:jwhole_v0 x=yd0
 unfold jwhole_v0 at d0
 rcases bft (decide (x.kind=2)) with q1 | q1
 ·rw [cpos q1] at d0
  subst d0
  exact so Tryz.f99 3 [] (.t q1 (.t q1 (.t q1 (.t q1 (.t q1 (.t q1 .nil))))))
 ·rw [cneg q1] at d0
  rcases bft (decide (x.kind=3)) with q2 | q2
  ·rw [cpos q2] at d0
   subst d0
   exact so Tryz.f99 3 [] (.t q1 (.t q1 (.t q1 (.t q1 (.t q2 (.t q2 (.t q2 (.c [] (full_sp x.mask hm) (.t q1 (.t q2 (.t q1 .nil)))))))))))
  ·rw [cneg q2] at d0
   subst d0
   exact so Tryz.f99 3 [] (.t q1 (.t q1 (.t q1 (.t q1 (.t q2 (.t q2 (.t q2 (.t q1 (.t q2 (.t q1 .nil))))))))))
theorem svServed (l:List Srv) :Sp P 72 [.sl 0] [.ro (.row eSrv l)] (.fn (.func 125) [] [.pt 1 0]) [.ro (.row eSrv l),.blk [.sl 0] 70] :=
 so Tryz.f72 3 [.id 0,.id 2] .nil
theorem svInjected (l:List Inj) :Sp P 83 [.sl 0] [.ro (.row eInj l)] (.fn (.func 134) [] [.pt 1 0]) [.ro (.row eInj l),.blk [.sl 0] 104] :=
 so Tryz.f83 3 [.id 0,.id 2] .nil
theorem xServed (s:MchS) :Sp P 30 [.pt 0 0] ([.ro (.blk [.pt 16 0,.pt 1 0,.mp 30,.sl 31,.sl 32,vi s.scrubs,vi s.steps] 122)] ++ ros (bCtl s.c 1) ++ ros (bCode 25) ++ [.ro (.mp (.ar .u8 64 (nf (fun _=>0))) (mpC s.ideal)),.ro (.row eInj s.inj),.ro (.row eSrv s.srv)]) (.fn (.func 125) [] [.pt 33 0]) ([.ro (.blk [.pt 16 0,.pt 1 0,.mp 30,.sl 31,.sl 32,vi s.scrubs,vi s.steps] 122)] ++ ros (bCtl s.c 1) ++ ros (bCode 25) ++ [.ro (.mp (.ar .u8 64 (nf (fun _=>0))) (mpC s.ideal)),.ro (.row eInj s.inj),.ro (.row eSrv s.srv),.blk [.sl 32] 70]) :=
 so Tryz.f30 3 (ir 0 33 ++ .id 34 :: []) (.c [.id 32] (svServed s.srv) .nil)
theorem xInjected (s:MchS) :Sp P 38 [.pt 0 0] ([.ro (.blk [.pt 16 0,.pt 1 0,.mp 30,.sl 31,.sl 32,vi s.scrubs,vi s.steps] 122)] ++ ros (bCtl s.c 1) ++ ros (bCode 25) ++ [.ro (.mp (.ar .u8 64 (nf (fun _=>0))) (mpC s.ideal)),.ro (.row eInj s.inj),.ro (.row eSrv s.srv)]) (.fn (.func 134) [] [.pt 33 0]) ([.ro (.blk [.pt 16 0,.pt 1 0,.mp 30,.sl 31,.sl 32,vi s.scrubs,vi s.steps] 122)] ++ ros (bCtl s.c 1) ++ ros (bCode 25) ++ [.ro (.mp (.ar .u8 64 (nf (fun _=>0))) (mpC s.ideal)),.ro (.row eInj s.inj),.ro (.row eSrv s.srv),.blk [.sl 31] 104]) :=
 so Tryz.f38 3 (ir 0 33 ++ .id 34 :: []) (.c [.id 31] (svInjected s.inj) .nil)
def jbad (x:Srv):Bool:=bif decide (x.ans.e=0) then !(jgt_v0 x) else true
def jfi (l:List Srv):Nat:=ff (fun i=>jbad (l.getD i eSrv0)) l.length
theorem jfi_lt {l:List Srv} {i:Nat} (h:i < jfi l):decide ((l.getD i eSrv0).ans.e=0)=true∧jgt_v0 (l.getD i eSrv0)=true:=by
 have h:=ff_lt (p:=fun i=>jbad (l.getD i eSrv0)) h
 unfold jbad at h; revert h; cases decide ((l.getD i eSrv0).ans.e=0) <;> cases jgt_v0 (l.getD i eSrv0) <;> simp
theorem jfi_at {l:List Srv} (h:decide (((jfi l:Nat):Int) < ((l.length:Nat):Int))=true) (q:decide ((l.getD (jfi l) eSrv0).ans.e=0)=true):jgt_v0 (l.getD (jfi l) eSrv0)=false:=by
 have h:=ff_at (p:=fun i=>jbad (l.getD i eSrv0)) (n:=l.length) (show jfi l < l.length by have:=of_decide_eq_true h; omega)
 have h:jbad (l.getD (jfi l) eSrv0)=true:=h
 unfold jbad at h; rw [q] at h; revert h; cases jgt_v0 (l.getD (jfi l) eSrv0) <;> simp
def jFaithful_v0 (s:MchS):Bool:=bif decide ((((jfi s.srv):Nat):Int) < ((s.srv.length:Nat):Int)) then false else true
theorem jFaithful (s:MchS) (hv:s.srv.length≤100000000):Sp P 54 [.pt 0 0] ([.ro (.blk [.pt 16 0,.pt 1 0,.mp 30,.sl 31,.sl 32,vi s.scrubs,vi s.steps] 122)] ++ ros (bCtl s.c 1) ++ ros (bCode 25) ++ [.ro (.mp (.ar .u8 64 (nf (fun _=>0))) (mpC s.ideal)),.ro (.row eInj s.inj),.ro (.row eSrv s.srv)]) (vt (jFaithful_v0 s)) ([.ro (.blk [.pt 16 0,.pt 1 0,.mp 30,.sl 31,.sl 32,vi s.scrubs,vi s.steps] 122)] ++ ros (bCtl s.c 1) ++ ros (bCode 25) ++ [.ro (.mp (.ar .u8 64 (nf (fun _=>0))) (mpC s.ideal)),.ro (.row eInj s.inj),.ro (.row eSrv s.srv)]):=by
 have hw:jfi s.srv≤s.srv.length:=ff_le _ _
 have gd1:∀ (i:Nat) (hi:i < (jfi s.srv)),Good P _ _:=fun i hi=>(.t (show (decide (((i:Nat):Int) < ((s.srv.length:Nat):Int)))=true from decide_eq_true (by omega)) (.ix (i:=i) (m:=s.srv.length) (by omega) (.el (e:=eSrv) (gDx (l:=s.srv) (i:=i) eSrv0 (by omega)) (.t (congrArg (!·) (show (decide ((s.srv.getD i eSrv0).ans.e=0))=true from (jfi_lt hi).1)) (.t (congrArg (!·) (show (decide ((s.srv.getD i eSrv0).ans.e=0))=true from (jfi_lt hi).1)) (.c [] (jgt (s.srv.getD i eSrv0)) (.t (congrArg (!·) (show (decide ((s.srv.getD i eSrv0).ans.e=0))=true from (jfi_lt hi).1)) (.t (congrArg (!·) (show (decide ((s.srv.getD i eSrv0).ans.e=0))=true from (jfi_lt hi).1)) (.t (congrArg (!·) (show (jgt_v0 (s.srv.getD i eSrv0))=true from (jfi_lt hi).2)) (.n (.e 15 (aAdd (a:=((i:Nat):Int)) (b:=1) (c:=((i + 1:Nat):Int)) (by omega)) .nil)))))))))))
 generalize d0:jFaithful_v0 s=yd0
 unfold jFaithful_v0 at d0
 rcases bft (decide ((((jfi s.srv):Nat):Int) < ((s.srv.length:Nat):Int))) with q1 | q1
 ·rw [cpos q1] at d0
  have q1':=of_decide_eq_true q1
  rcases bft (decide ((s.srv.getD (jfi s.srv) eSrv0).ans.e=0)) with q2 | q2
  ·have q2':=of_decide_eq_true q2
   subst d0
   exact so Tryz.f54 8 (ir 0 33) (.c (ir 0 33) (xServed s) (.lp (jfi s.srv) 38 [] [] (fun i=>[(7,vn i)]) (fun i=>[(36,.lo .ready none)]) gd1 (.t q1 (.ix (i:=(jfi s.srv)) (m:=s.srv.length) (by omega) (.el (e:=eSrv) (gDx (l:=s.srv) (i:=(jfi s.srv)) eSrv0 (by omega)) (.g q2 (.g q2 (.c [] (jgt (s.srv.getD (jfi s.srv) eSrv0)) (.g q2 (.g q2 (.t (congrArg (!·) (show (jgt_v0 (s.srv.getD (jfi s.srv) eSrv0))=false from (jfi_at q1 q2))) (.y .nil))))))))))))
  ·have q2':=of_decide_eq_false q2
   subst d0
   exact so Tryz.f54 8 (ir 0 33) (.c (ir 0 33) (xServed s) (.lp (jfi s.srv) 38 [] [] (fun i=>[(7,vn i)]) (fun i=>[(36,.lo .ready none)]) gd1 (.t q1 (.ix (i:=(jfi s.srv)) (m:=s.srv.length) (by omega) (.el (e:=eSrv) (gDx (l:=s.srv) (i:=(jfi s.srv)) eSrv0 (by omega)) (.g q2 (.g q2 (.g q2 (.g q2 (.y (.y .nil)))))))))))
 ·rw [cneg q1] at d0
  have q1':=of_decide_eq_false q1
  subst d0
  exact so Tryz.f54 8 (ir 0 33) (.c (ir 0 33) (xServed s) (.lp (jfi s.srv) 38 [] [] (fun i=>[(7,vn i)]) (fun i=>[(36,.lo .ready none)]) gd1 (.t q1 .nil)))
def hbad (s:MchS) (x:Srv):Bool:=bif decide (x.ans.e=0) then (bif jgt_v0 x then (bif decide (x.step.kind=1) then decide (1 < (jAt_r s x.first x.last).exp) else false) else true) else !(eqA (nf x.ans.line) (nf (fun _=>0)) 64 0)
def hfi (s:MchS):Nat:=ff (fun i=>hbad s (s.srv.getD i eSrv0)) s.srv.length
theorem hbad_f {s:MchS} {x:Srv} (h:hbad s x=false):(decide (x.ans.e=0)=true→jgt_v0 x=true∧(decide (x.step.kind=1)=true→decide (1 < (jAt_r s x.first x.last).exp)=false))∧(decide (x.ans.e=0)=false→eqA (nf x.ans.line) (nf (fun _=>0)) 64 0=true):=by
 unfold hbad at h; revert h; cases decide (x.ans.e=0) <;> cases jgt_v0 x <;> cases decide (x.step.kind=1) <;> simp
theorem hbad_t {s:MchS} {x:Srv} (h:hbad s x=true):(decide (x.ans.e=0)=true→jgt_v0 x=true→decide (x.step.kind=1)=true∧decide (1 < (jAt_r s x.first x.last).exp)=true)∧(decide (x.ans.e=0)=false→eqA (nf x.ans.line) (nf (fun _=>0)) 64 0=false):=by
 unfold hbad at h; revert h; cases decide (x.ans.e=0) <;> cases jgt_v0 x <;> cases decide (x.step.kind=1) <;> simp
theorem hfi_lt {s:MchS} {i:Nat} (h:i < hfi s):hbad s (s.srv.getD i eSrv0)=false:=ff_lt (p:=fun i=>hbad s (s.srv.getD i eSrv0)) h
theorem hfi_at {s:MchS} (h:decide (((hfi s:Nat):Int) < ((s.srv.length:Nat):Int))=true):hbad s (s.srv.getD (hfi s) eSrv0)=true:=ff_at (p:=fun i=>hbad s (s.srv.getD i eSrv0)) (n:=s.srv.length) (show hfi s < s.srv.length by have:=of_decide_eq_true h; omega)
def jHonest_v0 (s:MchS):Bool:=bif decide ((((hfi s):Nat):Int) < ((s.srv.length:Nat):Int)) then false else true
theorem jHonest (s:MchS) (hl:s.c.d.l.length≤100000000) (hv:s.srv.length≤100000000):Sp P 55 [.pt 0 0] ([.ro (.blk [.pt 16 0,.pt 1 0,.mp 30,.sl 31,.sl 32,vi s.scrubs,vi s.steps] 122)] ++ ros (bCtl s.c 1) ++ ros (bCode 25) ++ [.ro (.mp (.ar .u8 64 (nf (fun _=>0))) (mpC s.ideal)),.ro (.row eInj s.inj),.ro (.row eSrv s.srv)]) (vt (jHonest_v0 s)) ([.ro (.blk [.pt 16 0,.pt 1 0,.mp 30,.sl 31,.sl 32,vi s.scrubs,vi s.steps] 122)] ++ ros (bCtl s.c 1) ++ ros (bCode 25) ++ [.ro (.mp (.ar .u8 64 (nf (fun _=>0))) (mpC s.ideal)),.ro (.row eInj s.inj),.ro (.row eSrv s.srv)]):=by
 have hw:hfi s≤s.srv.length:=ff_le _ _
 have gd1:∀ (i:Nat) (hi:i < (hfi s)),Good P _ _:=fun i hi=>(.t (show (decide (((i:Nat):Int) < ((s.srv.length:Nat):Int)))=true from decide_eq_true (by omega)) (.cs 2 (decide ((s.srv.getD i eSrv0).step.kind=1)) 39 [] [] (fun z=>[(9,.pe 32 i 207 0),(10,.ag [vi (s.srv.getD i eSrv0).step.kind,vi (s.srv.getD i eSrv0).step.line,.ar .u8 64 (nf (s.srv.getD i eSrv0).step.data),vu (s.srv.getD i eSrv0).step.mask,vi (s.srv.getD i eSrv0).step.f.kind,vi (s.srv.getD i eSrv0).step.f.rank,vi (s.srv.getD i eSrv0).step.f.bank,vi (s.srv.getD i eSrv0).step.f.row,vi (s.srv.getD i eSrv0).step.f.col,vi (s.srv.getD i eSrv0).step.f.chip,vi (s.srv.getD i eSrv0).step.f.bit,vi (s.srv.getD i eSrv0).step.f.value,vi (s.srv.getD i eSrv0).ans.e,vi (s.srv.getD i eSrv0).ans.n,.ar .u8 64 (nf (s.srv.getD i eSrv0).ans.line),.ar .u8 64 (nf (s.srv.getD i eSrv0).want),vi (s.srv.getD i eSrv0).first,vi (s.srv.getD i eSrv0).last]),(11,.yl 37),(12,.ag [vi (s.srv.getD i eSrv0).step.kind,vi (s.srv.getD i eSrv0).step.line,.ar .u8 64 (nf (s.srv.getD i eSrv0).step.data),vu (s.srv.getD i eSrv0).step.mask,vi (s.srv.getD i eSrv0).step.f.kind,vi (s.srv.getD i eSrv0).step.f.rank,vi (s.srv.getD i eSrv0).step.f.bank,vi (s.srv.getD i eSrv0).step.f.row,vi (s.srv.getD i eSrv0).step.f.col,vi (s.srv.getD i eSrv0).step.f.chip,vi (s.srv.getD i eSrv0).step.f.bit,vi (s.srv.getD i eSrv0).step.f.value,vi (s.srv.getD i eSrv0).ans.e,vi (s.srv.getD i eSrv0).ans.n,.ar .u8 64 (nf (s.srv.getD i eSrv0).ans.line),.ar .u8 64 (nf (s.srv.getD i eSrv0).want),vi (s.srv.getD i eSrv0).first,vi (s.srv.getD i eSrv0).last]),(13,vt true),(14,vt false)]) (fun z=>[(37,.lo .ready none)]) (fun hq1=>(.ix (i:=i) (m:=s.srv.length) (by omega) (.el (e:=eSrv) (gDx (l:=s.srv) (i:=i) eSrv0 (by omega)) (.cs 2 (decide ((s.srv.getD i eSrv0).ans.e=0)) 41 [] [] (fun z=>[(4,vt (decide ((s.srv.getD i eSrv0).ans.e=0))),(8,.pt 40 75),(9,.pt 40 75),(10,vi (s.srv.getD i eSrv0).ans.e),(11,vt (decide ((s.srv.getD i eSrv0).ans.e=0))),(12,vt (decide ((s.srv.getD i eSrv0).ans.e=0))),(13,vt (decide ((s.srv.getD i eSrv0).ans.e=0))),(17,vt (bif z then (!(jgt_v0 (s.srv.getD i eSrv0))) else false)),(18,vt (bif z then (!(jgt_v0 (s.srv.getD i eSrv0))) else false)),(19,vt (decide ((s.srv.getD i eSrv0).ans.e=0))),(20,vt (!(decide ((s.srv.getD i eSrv0).ans.e=0)))),(21,vt (!(decide ((s.srv.getD i eSrv0).ans.e=0)))),(27,vt (bif z then false else (!(eqA (nf (s.srv.getD i eSrv0).ans.line) (fun _=>0) 64 0)))),(28,vt (bif z then false else (!(eqA (nf (s.srv.getD i eSrv0).ans.line) (fun _=>0) 64 0)))),(29,.pt 40 0),(30,.pt 40 0),(31,vi (s.srv.getD i eSrv0).step.kind),(32,vt (decide ((s.srv.getD i eSrv0).step.kind=1))),(33,vt (decide ((s.srv.getD i eSrv0).step.kind=1))),(34,vt (decide ((s.srv.getD i eSrv0).ans.e=0))),(35,vt (decide ((s.srv.getD i eSrv0).ans.e=0))),(36,vt (decide ((s.srv.getD i eSrv0).ans.e=0))),(45,vt (bif z then (decide (1 < (jAt_r s (s.srv.getD i eSrv0).first (s.srv.getD i eSrv0).last).exp)) else false))]) (fun z=>[(37,.lo .busy none)]) (fun hq2=>(.t hq2 (.t hq2 (.c [] (jgt (s.srv.getD i eSrv0)) (.t hq2 (.t hq2 (.t (congrArg (!·) (show (jgt_v0 (s.srv.getD i eSrv0))=true from ((hbad_f (hfi_lt hi)).1 hq2).1)) (.t (congrArg (!·) (show (jgt_v0 (s.srv.getD i eSrv0))=true from ((hbad_f (hfi_lt hi)).1 hq2).1)) (.t (congrArg (!·) (show (jgt_v0 (s.srv.getD i eSrv0))=true from ((hbad_f (hfi_lt hi)).1 hq2).1)) (.g hq2 (.g hq2 (.g hq2 (.g hq2 (.g hq2 (.t (congrArg (!·) (show (jgt_v0 (s.srv.getD i eSrv0))=true from ((hbad_f (hfi_lt hi)).1 hq2).1)) (.g hq2 (.t (congrArg (!·) (show (jgt_v0 (s.srv.getD i eSrv0))=true from ((hbad_f (hfi_lt hi)).1 hq2).1)) (.n (.t hq1 (.t hq1 (.t hq2 (.t hq2 (.t hq2 (.t hq2 (.t hq2 (.t hq2 (.c (ir 0 33) (jAt s (s.srv.getD i eSrv0).first (s.srv.getD i eSrv0).last hl) (.t hq2 (.t hq2 (.t hq2 (.t (show (decide (1 < (jAt_r s (s.srv.getD i eSrv0).first (s.srv.getD i eSrv0).last).exp))=false from (((hbad_f (hfi_lt hi)).1 hq2).2 hq1)) .nil))))))))))))))))))))))))))))))) (fun hq2=>(.t hq2 (.t hq2 (.t hq2 (.t hq2 (.n (.n (.n (.g hq2 (.g hq2 (.g hq2 (.g hq2 (.g hq2 (.n (.g hq2 (.n (.t (congrArg (!·) (show (eqA (nf (s.srv.getD i eSrv0).ans.line) (fun _=>0) 64 0)=true from ((hbad_f (hfi_lt hi)).2 hq2))) (.t hq1 (.t hq1 (.t hq2 (.t hq2 (.t hq2 (.t hq2 (.t hq2 (.t hq2 (.t hq2 (.t hq2 (.t hq2 (.n .nil))))))))))))))))))))))))))))) (.n .nil))))) (fun hq1=>(.ix (i:=i) (m:=s.srv.length) (by omega) (.el (e:=eSrv) (gDx (l:=s.srv) (i:=i) eSrv0 (by omega)) (.cs 2 (decide ((s.srv.getD i eSrv0).ans.e=0)) 41 [] [] (fun z=>[(4,vt (decide ((s.srv.getD i eSrv0).ans.e=0))),(8,.pt 40 75),(9,.pt 40 75),(10,vi (s.srv.getD i eSrv0).ans.e),(11,vt (decide ((s.srv.getD i eSrv0).ans.e=0))),(12,vt (decide ((s.srv.getD i eSrv0).ans.e=0))),(13,vt (decide ((s.srv.getD i eSrv0).ans.e=0))),(17,vt (bif z then (!(jgt_v0 (s.srv.getD i eSrv0))) else false)),(18,vt (bif z then (!(jgt_v0 (s.srv.getD i eSrv0))) else false)),(19,vt (decide ((s.srv.getD i eSrv0).ans.e=0))),(20,vt (!(decide ((s.srv.getD i eSrv0).ans.e=0)))),(21,vt (!(decide ((s.srv.getD i eSrv0).ans.e=0)))),(27,vt (bif z then false else (!(eqA (nf (s.srv.getD i eSrv0).ans.line) (fun _=>0) 64 0)))),(28,vt (bif z then false else (!(eqA (nf (s.srv.getD i eSrv0).ans.line) (fun _=>0) 64 0)))),(29,.pt 40 0),(30,.pt 40 0),(31,vi (s.srv.getD i eSrv0).step.kind),(32,vt (decide ((s.srv.getD i eSrv0).step.kind=1))),(33,vt (decide ((s.srv.getD i eSrv0).step.kind=1))),(34,.v undef),(35,vt false),(36,vt false),(37,.v undef),(38,.v undef),(39,.v undef),(40,.v undef),(41,.v undef),(42,.v undef),(43,.v undef),(44,.v undef),(45,vt false)]) (fun z=>[(37,.lo .busy none)]) (fun hq2=>(.t hq2 (.t hq2 (.c [] (jgt (s.srv.getD i eSrv0)) (.t hq2 (.t hq2 (.t (congrArg (!·) (show (jgt_v0 (s.srv.getD i eSrv0))=true from ((hbad_f (hfi_lt hi)).1 hq2).1)) (.t (congrArg (!·) (show (jgt_v0 (s.srv.getD i eSrv0))=true from ((hbad_f (hfi_lt hi)).1 hq2).1)) (.t (congrArg (!·) (show (jgt_v0 (s.srv.getD i eSrv0))=true from ((hbad_f (hfi_lt hi)).1 hq2).1)) (.g hq2 (.g hq2 (.g hq2 (.g hq2 (.g hq2 (.t (congrArg (!·) (show (jgt_v0 (s.srv.getD i eSrv0))=true from ((hbad_f (hfi_lt hi)).1 hq2).1)) (.g hq2 (.t (congrArg (!·) (show (jgt_v0 (s.srv.getD i eSrv0))=true from ((hbad_f (hfi_lt hi)).1 hq2).1)) (.n (.t hq1 (.t hq1 (.n (.n (.n (.n (.n (.n (.n (.n (.n (.n .nil)))))))))))))))))))))))))))))) (fun hq2=>(.t hq2 (.t hq2 (.t hq2 (.t hq2 (.n (.n (.n (.g hq2 (.g hq2 (.g hq2 (.g hq2 (.g hq2 (.n (.g hq2 (.n (.t (congrArg (!·) (show (eqA (nf (s.srv.getD i eSrv0).ans.line) (fun _=>0) 64 0)=true from ((hbad_f (hfi_lt hi)).2 hq2))) (.t hq1 (.t hq1 (.n (.n (.n (.n (.n (.n (.n (.n (.n (.n .nil))))))))))))))))))))))))))))) (.n .nil))))) (.e 15 (aAdd (a:=((i:Nat):Int)) (b:=1) (c:=((i + 1:Nat):Int)) (by omega)) .nil)))
 generalize d0:jHonest_v0 s=yd0
 unfold jHonest_v0 at d0
 rcases bft (decide ((((hfi s):Nat):Int) < ((s.srv.length:Nat):Int))) with q1 | q1
 ·rw [cpos q1] at d0
  have q1':=of_decide_eq_true q1
  rcases bft (decide ((s.srv.getD (hfi s) eSrv0).ans.e=0)) with q2 | q2
  ·have q2':=of_decide_eq_true q2
   rcases bft (jgt_v0 (s.srv.getD (hfi s) eSrv0)) with q3 | q3
   ·subst d0
    exact so Tryz.f55 9 (ir 0 33) (.c (ir 0 33) (xServed s) (.lp (hfi s) 39 [] [] (fun i=>[(7,vn i)]) (fun i=>[(37,.lo .ready none)]) gd1 (.t q1 (.ix (i:=(hfi s)) (m:=s.srv.length) (by omega) (.el (e:=eSrv) (gDx (l:=s.srv) (i:=(hfi s)) eSrv0 (by omega)) (.t q2 (.t q2 (.c [] (jgt (s.srv.getD (hfi s) eSrv0)) (.t q2 (.t q2 (.g q3 (.g q3 (.g q3 (.g q2 (.g q2 (.g q2 (.g q2 (.g q2 (.g q3 (.g q2 (.g q3 (.n (.t (show (decide ((s.srv.getD (hfi s) eSrv0).step.kind=1))=true from ((hbad_t (hfi_at q1)).1 q2 q3).1) (.t (show (decide ((s.srv.getD (hfi s) eSrv0).step.kind=1))=true from ((hbad_t (hfi_at q1)).1 q2 q3).1) (.t q2 (.t q2 (.t q2 (.t q2 (.t q2 (.t q2 (.c (ir 0 33) (jAt s (s.srv.getD (hfi s) eSrv0).first (s.srv.getD (hfi s) eSrv0).last hl) (.t q2 (.t q2 (.t q2 (.t (show (decide (1 < (jAt_r s (s.srv.getD (hfi s) eSrv0).first (s.srv.getD (hfi s) eSrv0).last).exp))=true from ((hbad_t (hfi_at q1)).1 q2 q3).2) (.y .nil))))))))))))))))))))))))))))))))))))
   ·subst d0
    exact so Tryz.f55 9 (ir 0 33) (.c (ir 0 33) (xServed s) (.lp (hfi s) 39 [] [] (fun i=>[(7,vn i)]) (fun i=>[(37,.lo .ready none)]) gd1 (.t q1 (.ix (i:=(hfi s)) (m:=s.srv.length) (by omega) (.el (e:=eSrv) (gDx (l:=s.srv) (i:=(hfi s)) eSrv0 (by omega)) (.t q2 (.t q2 (.c [] (jgt (s.srv.getD (hfi s) eSrv0)) (.t q2 (.t q2 (.g q3 (.g q3 (.g q3 (.g q3 (.g q3 (.y (.y .nil)))))))))))))))))
  ·have q2':=of_decide_eq_false q2
   subst d0
   exact so Tryz.f55 9 (ir 0 33) (.c (ir 0 33) (xServed s) (.lp (hfi s) 39 [] [] (fun i=>[(7,vn i)]) (fun i=>[(37,.lo .ready none)]) gd1 (.t q1 (.ix (i:=(hfi s)) (m:=s.srv.length) (by omega) (.el (e:=eSrv) (gDx (l:=s.srv) (i:=(hfi s)) eSrv0 (by omega)) (.t q2 (.t q2 (.t q2 (.t q2 (.n (.n (.n (.g q2 (.g q2 (.g q2 (.g q2 (.g q2 (.n (.g q2 (.n (.t (congrArg (!·) (show (eqA (nf (s.srv.getD (hfi s) eSrv0).ans.line) (fun _=>0) 64 0)=false from ((hbad_t (hfi_at q1)).2 q2))) (.y .nil))))))))))))))))))))))
 ·rw [cneg q1] at d0
  have q1':=of_decide_eq_false q1
  subst d0
  exact so Tryz.f55 9 (ir 0 33) (.c (ir 0 33) (xServed s) (.lp (hfi s) 39 [] [] (fun i=>[(7,vn i)]) (fun i=>[(37,.lo .ready none)]) gd1 (.t q1 .nil)))
def efr (l:List Srv):Nat→Int→Int
 | 0=>fun _=>0
 | n + 1=>bif jwhole_v0 (l.getD n eSrv0).step then upZ (efr l n) (l.getD n eSrv0).step.line (l.getD n eSrv0).first else efr l n
def ebad (s:MchS) (i:Nat):Bool:=bif decide ((s.srv.getD i eSrv0).ans.e=0) then false else (bif (jAt_r s (efr s.srv i (s.srv.getD i eSrv0).step.line) (s.srv.getD i eSrv0).last).astray then false else decide ((jAt_r s (efr s.srv i (s.srv.getD i eSrv0).step.line) (s.srv.getD i eSrv0).last).exp < 2))
def efi (s:MchS):Nat:=ff (ebad s) s.srv.length
theorem efi_lt {s:MchS} {i:Nat} (h:i < efi s) (q:decide ((s.srv.getD i eSrv0).ans.e=0)=false) (q2:(jAt_r s (efr s.srv i (s.srv.getD i eSrv0).step.line) (s.srv.getD i eSrv0).last).astray=false):decide ((jAt_r s (efr s.srv i (s.srv.getD i eSrv0).step.line) (s.srv.getD i eSrv0).last).exp < 2)=false:=by
 have h:ebad s i=false:=ff_lt h
 unfold ebad at h; rw [q,q2] at h; exact h
theorem efi_at {s:MchS} (h:decide (((efi s:Nat):Int) < ((s.srv.length:Nat):Int))=true):decide ((s.srv.getD (efi s) eSrv0).ans.e=0)=false∧(jAt_r s (efr s.srv (efi s) (s.srv.getD (efi s) eSrv0).step.line) (s.srv.getD (efi s) eSrv0).last).astray=false∧decide ((jAt_r s (efr s.srv (efi s) (s.srv.getD (efi s) eSrv0).step.line) (s.srv.getD (efi s) eSrv0).last).exp < 2)=true:=by
 have h:ebad s (efi s)=true:=ff_at (p:=ebad s) (n:=s.srv.length) (show efi s < s.srv.length by have:=of_decide_eq_true h; omega)
 unfold ebad at h; revert h
 cases decide ((s.srv.getD (efi s) eSrv0).ans.e=0) <;> cases (jAt_r s (efr s.srv (efi s) (s.srv.getD (efi s) eSrv0).step.line) (s.srv.getD (efi s) eSrv0).last).astray <;> simp
def jEarned_v0 (s:MchS):Bool:=bif decide ((((efi s):Nat):Int) < ((s.srv.length:Nat):Int)) then false else true
theorem jEarned (s:MchS) (hl:s.c.d.l.length≤100000000) (hv:s.srv.length≤100000000) (hms:∀ i,(s.srv.getD i eSrv0).step.mask < 18446744073709551616):Sp P 56 [.pt 0 0] ([.ro (.blk [.pt 16 0,.pt 1 0,.mp 30,.sl 31,.sl 32,vi s.scrubs,vi s.steps] 122)] ++ ros (bCtl s.c 1) ++ ros (bCode 25) ++ [.ro (.mp (.ar .u8 64 (nf (fun _=>0))) (mpC s.ideal)),.ro (.row eInj s.inj),.ro (.row eSrv s.srv)]) (vt (jEarned_v0 s)) ([.ro (.blk [.pt 16 0,.pt 1 0,.mp 30,.sl 31,.sl 32,vi s.scrubs,vi s.steps] 122)] ++ ros (bCtl s.c 1) ++ ros (bCode 25) ++ [.ro (.mp (.ar .u8 64 (nf (fun _=>0))) (mpC s.ideal)),.ro (.row eInj s.inj),.ro (.row eSrv s.srv)]):=by
 have hw:efi s≤s.srv.length:=ff_le _ _
 have gd1:∀ (i:Nat) (hi:i < (efi s)),Good P _ _:=fun i hi=>(.t (show (decide (((i:Nat):Int) < ((s.srv.length:Nat):Int)))=true from decide_eq_true (by omega)) (.ix (i:=i) (m:=s.srv.length) (by omega) (.el (e:=eSrv) (gDx (l:=s.srv) (i:=i) eSrv0 (by omega)) (.cs 2 (jAt_r s ((efr s.srv i) (s.srv.getD i eSrv0).step.line) (s.srv.getD i eSrv0).last).astray 43 [] [] (fun z=>[]) (fun z=>[(36,.mp (vn 0) (mpI (bif (jwhole_v0 (s.srv.getD i eSrv0).step) then (upZ (efr s.srv i) (s.srv.getD i eSrv0).step.line (s.srv.getD i eSrv0).first) else (efr s.srv i)))),(39,.lo .busy none)]) (fun hq1=>(.cs 0 (decide ((s.srv.getD i eSrv0).ans.e=0)) 43 [] [] (fun z=>[]) (fun z=>[(39,.lo .busy none)]) (fun hq2=>(.g hq2 .nil)) (fun hq2=>(.g hq2 (.c (ir 0 33) (jAt s ((efr s.srv i) (s.srv.getD i eSrv0).step.line) (s.srv.getD i eSrv0).last hl) (.g hq1 (.g hq1 (.g hq1 (.g hq1 (.n .nil)))))))) (.c [] (jwhole (s.srv.getD i eSrv0).step (hms i)) (.cs 0 (jwhole_v0 (s.srv.getD i eSrv0).step) 43 [] [] (fun z=>[]) (fun z=>[(36,.mp (vn 0) (mpI (bif z then (upZ (efr s.srv i) (s.srv.getD i eSrv0).step.line (s.srv.getD i eSrv0).first) else (efr s.srv i))))]) (fun hq2=>(.t hq2 (.mu (mpI_up (efr s.srv i) (s.srv.getD i eSrv0).step.line (s.srv.getD i eSrv0).first) .nil))) (fun hq2=>(.t hq2 .nil)) .nil)))) (fun hq1=>(.cs 0 (decide ((s.srv.getD i eSrv0).ans.e=0)) 43 [] [] (fun z=>[]) (fun z=>[(39,.lo .busy none)]) (fun hq2=>(.g hq2 .nil)) (fun hq2=>(.g hq2 (.c (ir 0 33) (jAt s ((efr s.srv i) (s.srv.getD i eSrv0).step.line) (s.srv.getD i eSrv0).last hl) (.g hq1 (.g hq1 (.g hq1 (.g hq1 (.t (show (decide ((jAt_r s ((efr s.srv i) (s.srv.getD i eSrv0).step.line) (s.srv.getD i eSrv0).last).exp < 2))=false from (efi_lt hi hq2 hq1)) .nil)))))))) (.c [] (jwhole (s.srv.getD i eSrv0).step (hms i)) (.cs 0 (jwhole_v0 (s.srv.getD i eSrv0).step) 43 [] [] (fun z=>[]) (fun z=>[(36,.mp (vn 0) (mpI (bif z then (upZ (efr s.srv i) (s.srv.getD i eSrv0).step.line (s.srv.getD i eSrv0).first) else (efr s.srv i))))]) (fun hq2=>(.t hq2 (.mu (mpI_up (efr s.srv i) (s.srv.getD i eSrv0).step.line (s.srv.getD i eSrv0).first) .nil))) (fun hq2=>(.t hq2 .nil)) .nil)))) (.n (.e 15 (aAdd (a:=((i:Nat):Int)) (b:=1) (c:=((i + 1:Nat):Int)) (by omega)) .nil))))))
 generalize d0:jEarned_v0 s=yd0
 unfold jEarned_v0 at d0
 rcases bft (decide ((((efi s):Nat):Int) < ((s.srv.length:Nat):Int))) with q1 | q1
 ·rw [cpos q1] at d0
  have q1':=of_decide_eq_true q1
  subst d0
  exact so Tryz.f56 12 (ir 0 33) (.c (ir 0 33) (xServed s) (.lp (efi s) 41 [] [] (fun i=>[(7,vn i)]) (fun i=>[(36,.mp (vn 0) (mpI (efr s.srv i))),(39,.lo .ready none)]) gd1 (.t q1 (.ix (i:=(efi s)) (m:=s.srv.length) (by omega) (.el (e:=eSrv) (gDx (l:=s.srv) (i:=(efi s)) eSrv0 (by omega)) (.t (congrArg (!·) (show (decide ((s.srv.getD (efi s) eSrv0).ans.e=0))=false from (efi_at q1).1)) (.c (ir 0 33) (jAt s ((efr s.srv (efi s)) (s.srv.getD (efi s) eSrv0).step.line) (s.srv.getD (efi s) eSrv0).last hl) (.t (congrArg (!·) (show (jAt_r s ((efr s.srv (efi s)) (s.srv.getD (efi s) eSrv0).step.line) (s.srv.getD (efi s) eSrv0).last).astray=false from (efi_at q1).2.1)) (.t (congrArg (!·) (show (jAt_r s ((efr s.srv (efi s)) (s.srv.getD (efi s) eSrv0).step.line) (s.srv.getD (efi s) eSrv0).last).astray=false from (efi_at q1).2.1)) (.t (congrArg (!·) (show (jAt_r s ((efr s.srv (efi s)) (s.srv.getD (efi s) eSrv0).step.line) (s.srv.getD (efi s) eSrv0).last).astray=false from (efi_at q1).2.1)) (.t (congrArg (!·) (show (jAt_r s ((efr s.srv (efi s)) (s.srv.getD (efi s) eSrv0).step.line) (s.srv.getD (efi s) eSrv0).last).astray=false from (efi_at q1).2.1)) (.t (show (decide ((jAt_r s ((efr s.srv (efi s)) (s.srv.getD (efi s) eSrv0).step.line) (s.srv.getD (efi s) eSrv0).last).exp < 2))=true from (efi_at q1).2.2) (.y .nil)))))))))))))
 ·rw [cneg q1] at d0
  have q1':=of_decide_eq_false q1
  subst d0
  exact so Tryz.f56 12 (ir 0 33) (.c (ir 0 33) (xServed s) (.lp (efi s) 41 [] [] (fun i=>[(7,vn i)]) (fun i=>[(36,.mp (vn 0) (mpI (efr s.srv i))),(39,.lo .ready none)]) gd1 (.t q1 .nil)))
end Go.Proofs.YtoflmffbkdekcaaGreat
