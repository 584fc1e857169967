import Derived.Test.YtfhiggfmkjmeiaaGreatFR24
set_option linter.all false
namespace Go.Proofs.YtfhiggfmkjmeiaaGreat
open Go Go.RowKit
set_option maxRecDepth 100000
structure Lk where
 exp:Int
 astray:Bool
 drop:Bool
 tell:Bool
def Fy (mode:Int) (a:Int) (b:Int):Bool:=bif decide (mode=1) then (!(decide (((Cp a:Nat):Int)=((Cp b:Nat):Int)))) else (!(eqA (nf (byF a)) (nf (byF b)) 3 0))
theorem A5l (mode:Int) (a:Int) (b:Int) :Sp P 222 [vi mode,vi a,vi b] [] (vt (Fy mode a b)) []:=by
 generalize d0:Fy mode a b=yd0
 unfold Fy at d0
 rcases bft (decide (mode=1)) with q1 | q1
 ·rw [A2 q1] at d0
  subst d0
  exact so Tryz.f222 3 [] (.t q1 (.c [] (Iz a) (.c [] (Iz b) .nil)))
 ·rw [A1 q1] at d0
  subst d0
  exact so Tryz.f222 3 [] (.t q1 (.c [] (Rr a) (.c [] (Rr b) .nil)))
def Fe (a:Acc):Bool:=bif a.drop then true else (!(decide (a.went=a.index)))
theorem Mo (a:Acc) :Sp P 221 [.ag [vt a.write,vi a.index,vi a.went,vt a.drop,vi a.exp,vt a.mark]] [] (vt (Fe a)) []:=by
 generalize d0:Fe a=yd0
 unfold Fe at d0
 rcases bft a.drop with q1 | q1
 ·rw [A2 q1] at d0
  subst d0
  exact so Tryz.f221 3 [] (.t4 q1 (.t2 q1 (.t q1 .nil)))
 ·rw [A1 q1] at d0
  subst d0
  exact so Tryz.f221 3 [] (.t4 q1 (.t2 q1 (.t q1 .nil)))
def L9 (l:Lk) (mode:Int) (a:Acc):Lk:=bif (Fe a) then (bif l.drop then (bif a.write then (⟨l.exp,true,true,l.tell⟩:Lk) else (bif a.drop then (⟨l.exp,true,true,l.tell⟩:Lk) else (bif (Fy mode a.index a.went) then (⟨l.exp,true,true,l.tell⟩:Lk) else (⟨l.exp,true,true,false⟩:Lk)))) else (bif a.drop then (⟨l.exp,true,true,l.tell⟩:Lk) else (bif a.write then (⟨l.exp,true,decide (0 < a.exp),l.tell⟩:Lk) else (bif (Fy mode a.index a.went) then (⟨l.exp,true,decide (0 < a.exp),l.tell⟩:Lk) else (⟨l.exp,true,decide (0 < a.exp),false⟩:Lk))))) else (bif a.mark then { l with exp:=if IntKind.i64.wrap (a.exp + 1) > l.exp then IntKind.i64.wrap (a.exp + 1) else l.exp } else { l with exp:=if a.exp > l.exp then a.exp else l.exp })
theorem B1w (l:Lk) (mode:Int) (a:Acc) :Sp P 168 [.ag [vi l.exp,vt l.astray,vt l.drop,vt l.tell],vi mode,.ag [vt a.write,vi a.index,vi a.went,vt a.drop,vi a.exp,vt a.mark]] [] (.ag [vi (L9 l mode a).exp,vt (L9 l mode a).astray,vt (L9 l mode a).drop,vt (L9 l mode a).tell]) []:=by
 generalize d0:L9 l mode a=yd0
 unfold L9 at d0
 rcases bft (Fe a) with q1 | q1
 ·rw [A2 q1] at d0
  rcases bft l.drop with q2 | q2
  ·rw [A2 q2] at d0
   rcases bft a.write with q3 | q3
   ·rw [A2 q3] at d0
    subst d0
    exact so Tryz.f168 5 [] (.c [] (Mo a) (.g q1 (.t4 q2 (.y4 (.g4 q3 (.g q3 (.n8 (.n2 .nil))))))))
   ·rw [A1 q3] at d0
    rcases bft a.drop with q4 | q4
    ·rw [A2 q4] at d0
     subst d0
     exact so Tryz.f168 5 [] (.c [] (Mo a) (.g q1 (.t4 q2 (.y4 (.g4 q3 (.g q3 (.g4 q4 (.g4 q4 (.g q4 (.n .nil))))))))))
    ·rw [A1 q4] at d0
     rcases bft (Fy mode a.index a.went) with q5 | q5
     ·rw [A2 q5] at d0
      subst d0
      exact so Tryz.f168 5 [] (.c [] (Mo a) (.g q1 (.t4 q2 (.y4 (.g4 q3 (.g q3 (.g4 q4 (.g2 q4 (.g q4 (.c [] (A5l mode a.index a.went) (.g2 q4 (.g q5 .nil))))))))))))
     ·rw [A1 q5] at d0
      subst d0
      exact so Tryz.f168 5 [] (.c [] (Mo a) (.g q1 (.t4 q2 (.y4 (.g4 q3 (.g q3 (.g4 q4 (.g2 q4 (.g q4 (.c [] (A5l mode a.index a.went) (.g2 q4 (.g q5 .nil))))))))))))
  ·rw [A1 q2] at d0
   rcases bft a.drop with q3 | q3
   ·rw [A2 q3] at d0
    rcases bft a.write with q4 | q4
    ·subst d0
     exact so Tryz.f168 5 [] (.c [] (Mo a) (.g q1 (.t4 q2 (.t4 q3 (.g4 q4 (.g q4 (.n8 (.n2 .nil))))))))
    ·subst d0
     exact so Tryz.f168 5 [] (.c [] (Mo a) (.g q1 (.t4 q2 (.t4 q3 (.g4 q4 (.g q4 (.g4 q3 (.g4 q3 (.g q3 (.n .nil))))))))))
   ·rw [A1 q3] at d0
    rcases bft a.write with q4 | q4
    ·rw [A2 q4] at d0
     subst d0
     exact so Tryz.f168 5 [] (.c [] (Mo a) (.g q1 (.t4 q2 (.t4 q3 (.g4 q4 (.g q4 (.n8 (.n2 .nil))))))))
    ·rw [A1 q4] at d0
     rcases bft (Fy mode a.index a.went) with q5 | q5
     ·rw [A2 q5] at d0
      subst d0
      exact so Tryz.f168 5 [] (.c [] (Mo a) (.g q1 (.t4 q2 (.t4 q3 (.g4 q4 (.g q4 (.g4 q3 (.g2 q3 (.g q3 (.c [] (A5l mode a.index a.went) (.g2 q3 (.g q5 .nil))))))))))))
     ·rw [A1 q5] at d0
      subst d0
      exact so Tryz.f168 5 [] (.c [] (Mo a) (.g q1 (.t4 q2 (.t4 q3 (.g4 q4 (.g q4 (.g4 q3 (.g2 q3 (.g q3 (.c [] (A5l mode a.index a.went) (.g2 q3 (.g q5 .nil))))))))))))
 ·rw [A1 q1] at d0
  rcases bft a.mark with q2 | q2
  ·rw [A2 q2] at d0
   subst d0
   exact so Tryz.f168 5 [] (.c [] (Mo a) (.g q1 (.t q2 .nil)))
  ·rw [A1 q2] at d0
   subst d0
   exact so Tryz.f168 5 [] (.c [] (Mo a) (.g q1 (.t q2 .nil)))
theorem Avq (d:DevS) (a:Int) :Sp P 167 [.pt 0 0,vi a] (ros (L6 d 0)) (.fn (.func 220) [] [.pt 8 0,.pt 9 0]) (ros (L6 d 0) ++ [.blk [vi a] 3,.blk [.pt 0 0] 80]) :=
 so Tryz.f167 4 (ir 0 8 ++ .id 10 :: .id 9 :: []) .nil
def T2 (m:Int) (l:List Acc) (a:Nat):Nat->Lk
 | 0=>⟨0,false,false,true⟩
 | n + 1=>L9 (T2 m l a n) m (l.getD (a + n) Mj)
def W4 (a b:Int) (n:Nat):Nat:=min n b.toNat - a.toNat
theorem B01 (a:Int):Value.int .i64 (if 0 > a then 0 else a)=.int .i64 (a.toNat:Int):=by
 congr 1; split <;> omega
def Ft (s:MchS) (a:Int) (b:Int):Lk:=T2 s.c.d.d.mode s.c.d.l a.toNat (W4 a b s.c.d.l.length)
theorem jAt (s:MchS) (a:Int) (b:Int) (hl:s.c.d.l.length<=100000000):Sp P 93 [.pt 0 0,vi a,vi b] ([.ro (.blk [.pt 16 0,.pt 1 0,.mp 30,.sl 31,.sl 32,vi s.scrubs,vi s.steps] 171)] ++ ros (Ct s.c 1) ++ ros (Bg 25) ++ [.ro (.mp (.ar .u8 64 (nf (fun _=>0))) (mpC s.ideal)),.ro (.row Dw s.inj),.ro (.row G5 s.srv)]) (.ag [vi (Ft s a b).exp,vt (Ft s a b).astray,vt (Ft s a b).drop,vt (Ft s a b).tell]) ([.ro (.blk [.pt 16 0,.pt 1 0,.mp 30,.sl 31,.sl 32,vi s.scrubs,vi s.steps] 171)] ++ ros (Ct s.c 1) ++ ros (Bg 25) ++ [.ro (.mp (.ar .u8 64 (nf (fun _=>0))) (mpC s.ideal)),.ro (.row Dw s.inj),.ro (.row G5 s.srv)]):=by
 have hn:W4 a b s.c.d.l.length=min s.c.d.l.length b.toNat - a.toNat:=rfl
 have gd1:∀ (i:Nat) (hi:i < (W4 a b s.c.d.l.length)),Good P _ _:=fun i hi=>(.t (sQT (((a.toNat + i:Nat):Int) < (s.c.d.l.length:Int)) (by omega)) (.ix (i:=a.toNat + i) (m:=s.c.d.l.length) (by omega) (.el (e:=Abc) (gDx (l:=s.c.d.l) (i:=a.toNat + i) Mj (by omega)) (.t (sQF (b<=((a.toNat + i:Nat):Int)) (by omega)) (.c [] (B1w (T2 s.c.d.d.mode s.c.d.l a.toNat i) s.c.d.d.mode (s.c.d.l.getD (a.toNat + i) Mj)) (.n (.e 15 (Ck (a:=((a.toNat + i:Nat):Int)) (b:=1) (c:=(((a.toNat + i) + 1:Nat):Int)) (by omega)) .nil)))))))
 generalize d0:Ft s a b=yd0
 unfold Ft at d0
 rcases bft (decide (((a.toNat + (W4 a b s.c.d.l.length):Nat):Int) < (s.c.d.l.length:Int))) with q1 | q1
 ·have q1':=otq q1
  subst d0
  exact so Tryz.f93 11 (ir 0 33) (.c (ir 0 33) (Xr s) (.c (ir 16 8) (Sq s.c.d) (.c (ir 20 4) (Wu s.c.d.d) (.c (ir 0 33) (Xr s) (.c (ir 16 8) (Avq s.c.d a) (.e 6 (B01 a) (.lp (W4 a b s.c.d.l.length) 42 [] [] (fun i=>[(4,vn (a.toNat + i))]) (fun i=>[(36,.blk [vi (T2 s.c.d.d.mode s.c.d.l a.toNat i).exp,vt (T2 s.c.d.d.mode s.c.d.l a.toNat i).astray,vt (T2 s.c.d.d.mode s.c.d.l a.toNat i).drop,vt (T2 s.c.d.d.mode s.c.d.l a.toNat i).tell] 164),(40,.lo .ready none)]) gd1 (.t q1 (.ix (i:=a.toNat + (W4 a b s.c.d.l.length)) (m:=s.c.d.l.length) (by omega) (.el (e:=Abc) (gDx (l:=s.c.d.l) (i:=a.toNat + (W4 a b s.c.d.l.length)) Mj (by omega)) (.t (sQT (b<=((a.toNat + (W4 a b s.c.d.l.length):Nat):Int)) (by have:=otq q1; omega)) (.y .nil))))))))))))
 ·have q1':=ofq q1
  subst d0
  exact so Tryz.f93 11 (ir 0 33) (.c (ir 0 33) (Xr s) (.c (ir 16 8) (Sq s.c.d) (.c (ir 20 4) (Wu s.c.d.d) (.c (ir 0 33) (Xr s) (.c (ir 16 8) (Avq s.c.d a) (.e 6 (B01 a) (.lp (W4 a b s.c.d.l.length) 42 [] [] (fun i=>[(4,vn (a.toNat + i))]) (fun i=>[(36,.blk [vi (T2 s.c.d.d.mode s.c.d.l a.toNat i).exp,vt (T2 s.c.d.d.mode s.c.d.l a.toNat i).astray,vt (T2 s.c.d.d.mode s.c.d.l a.toNat i).drop,vt (T2 s.c.d.d.mode s.c.d.l a.toNat i).tell] 164),(40,.lo .ready none)]) gd1 (.t q1 .nil))))))))
def Dq (s:MchS):Bool:=bif (Ft s 0 (s.c.d.l.length:Int)).astray then false else (decide ((Ft s 0 (s.c.d.l.length:Int)).exp<=1))
theorem A8r (s:MchS) (hl:s.c.d.l.length<=100000000):Sp P 88 [.pt 0 0] ([.ro (.blk [.pt 16 0,.pt 1 0,.mp 30,.sl 31,.sl 32,vi s.scrubs,vi s.steps] 171)] ++ ros (Ct s.c 1) ++ ros (Bg 25) ++ [.ro (.mp (.ar .u8 64 (nf (fun _=>0))) (mpC s.ideal)),.ro (.row Dw s.inj),.ro (.row G5 s.srv)]) (vt (Dq s)) ([.ro (.blk [.pt 16 0,.pt 1 0,.mp 30,.sl 31,.sl 32,vi s.scrubs,vi s.steps] 171)] ++ ros (Ct s.c 1) ++ ros (Bg 25) ++ [.ro (.mp (.ar .u8 64 (nf (fun _=>0))) (mpC s.ideal)),.ro (.row Dw s.inj),.ro (.row G5 s.srv)]):=by
 generalize d0:Dq s=yd0
 unfold Dq at d0
 rcases bft (Ft s 0 (s.c.d.l.length:Int)).astray with q1 | q1
 ·rw [A2 q1] at d0
  subst d0
  exact so Tryz.f88 3 (ir 0 33) (.c (ir 0 33) (Xr s) (.c (ir 16 8) (Kj s.c.d) (.c (ir 0 33) (jAt s 0 (s.c.d.l.length:Int) hl) (.g4 q1 .nil))))
 ·rw [A1 q1] at d0
  subst d0
  exact so Tryz.f88 3 (ir 0 33) (.c (ir 0 33) (Xr s) (.c (ir 16 8) (Kj s.c.d) (.c (ir 0 33) (jAt s 0 (s.c.d.l.length:Int) hl) (.g4 q1 .nil))))
def Jq (x:Srv):Bool:=bif decide (x.step.kind=1) then (eqA (nf x.ans.line) (nf x.want) 64 0) else true
theorem jgt (x:Srv) :Sp P 162 [.ag [vi x.step.kind,vi x.step.line,.ar .u8 64 (nf x.step.data),vu x.step.mask,vi x.step.f.kind,vi x.step.f.rank,vi x.step.f.bank,vi x.step.f.row,vi x.step.f.col,vi x.step.f.chip,vi x.step.f.bit,vi x.step.f.value,vi x.ans.e,vi x.ans.n,.ar .u8 64 (nf x.ans.line),.ar .u8 64 (nf x.want),vi x.first,vi x.last]] [] (vt (Jq x)) []:=by
 generalize d0:Jq x=yd0
 unfold Jq at d0
 rcases bft (decide (x.step.kind=1)) with q1 | q1
 ·rw [A2 q1] at d0
  subst d0
  exact so Tryz.f162 3 [] (.g4 q1 (.g2 q1 (.g q1 .nil)))
 ·rw [A1 q1] at d0
  subst d0
  exact so Tryz.f162 3 [] (.g4 q1 (.g2 q1 (.g q1 .nil)))
def Ff (x:Stp):Bool:=bif decide (x.kind=2) then true else (bif decide (x.kind=3) then (decide (((wt x.mask:Nat):Int)=64)) else false)
theorem Amt (x:Stp) (hm:x.mask < 18446744073709551616):Sp P 94 [.ag [vi x.kind,vi x.line,.ar .u8 64 (nf x.data),vu x.mask,vi x.f.kind,vi x.f.rank,vi x.f.bank,vi x.f.row,vi x.f.col,vi x.f.chip,vi x.f.bit,vi x.f.value]] [] (vt (Ff x)) []:=by
 generalize d0:Ff x=yd0
 unfold Ff at d0
 rcases bft (decide (x.kind=2)) with q1 | q1
 ·rw [A2 q1] at d0
  subst d0
  exact so Tryz.f94 3 [] (.t4 q1 (.t2 q1 .nil))
 ·rw [A1 q1] at d0
  rcases bft (decide (x.kind=3)) with q2 | q2
  ·rw [A2 q2] at d0
   subst d0
   exact so Tryz.f94 3 [] (.t4 q1 (.t2 q2 (.t q2 (.c [] (Y3 x.mask hm) (.t q1 (.t q2 (.t q1 .nil)))))))
  ·rw [A1 q2] at d0
   subst d0
   exact so Tryz.f94 3 [] (.t4 q1 (.t2 q2 (.t q2 (.t q1 (.t q2 (.t q1 .nil))))))
theorem Apo (l:List Srv) :Sp P 140 [.sl 0] [.ro (.row G5 l)] (.fn (.func 209) [] [.pt 1 0]) [.ro (.row G5 l),.blk [.sl 0] 169] :=
 so Tryz.f140 3 [.id 0,.id 2] .nil
theorem Adi (l:List Inj) :Sp P 141 [.sl 0] [.ro (.row Dw l)] (.fn (.func 210) [] [.pt 1 0]) [.ro (.row Dw l),.blk [.sl 0] 168] :=
 so Tryz.f141 3 [.id 0,.id 2] .nil
theorem Vh (s:MchS) :Sp P 70 [.pt 0 0] ([.ro (.blk [.pt 16 0,.pt 1 0,.mp 30,.sl 31,.sl 32,vi s.scrubs,vi s.steps] 171)] ++ ros (Ct s.c 1) ++ ros (Bg 25) ++ [.ro (.mp (.ar .u8 64 (nf (fun _=>0))) (mpC s.ideal)),.ro (.row Dw s.inj),.ro (.row G5 s.srv)]) (.fn (.func 209) [] [.pt 33 0]) ([.ro (.blk [.pt 16 0,.pt 1 0,.mp 30,.sl 31,.sl 32,vi s.scrubs,vi s.steps] 171)] ++ ros (Ct s.c 1) ++ ros (Bg 25) ++ [.ro (.mp (.ar .u8 64 (nf (fun _=>0))) (mpC s.ideal)),.ro (.row Dw s.inj),.ro (.row G5 s.srv),.blk [.sl 32] 169]) :=
 so Tryz.f70 3 (ir 0 33 ++ .id 34 :: []) (.c [.id 32] (Apo s.srv) .nil)
theorem Wt (s:MchS) :Sp P 71 [.pt 0 0] ([.ro (.blk [.pt 16 0,.pt 1 0,.mp 30,.sl 31,.sl 32,vi s.scrubs,vi s.steps] 171)] ++ ros (Ct s.c 1) ++ ros (Bg 25) ++ [.ro (.mp (.ar .u8 64 (nf (fun _=>0))) (mpC s.ideal)),.ro (.row Dw s.inj),.ro (.row G5 s.srv)]) (.fn (.func 210) [] [.pt 33 0]) ([.ro (.blk [.pt 16 0,.pt 1 0,.mp 30,.sl 31,.sl 32,vi s.scrubs,vi s.steps] 171)] ++ ros (Ct s.c 1) ++ ros (Bg 25) ++ [.ro (.mp (.ar .u8 64 (nf (fun _=>0))) (mpC s.ideal)),.ro (.row Dw s.inj),.ro (.row G5 s.srv),.blk [.sl 31] 168]) :=
 so Tryz.f71 3 (ir 0 33 ++ .id 34 :: []) (.c [.id 31] (Adi s.inj) .nil)
def A8s (x:Srv):Bool:=bif decide (x.ans.e=0) then !(Jq x) else true
def jfi (l:List Srv):Nat:=ff (fun i=>A8s (l.getD i Aj)) l.length
theorem Zw {l:List Srv} {i:Nat} (h:i < jfi l):decide ((l.getD i Aj).ans.e=0)=true/\Jq (l.getD i Aj)=true:=by
 have h:=Qe (p:=fun i=>A8s (l.getD i Aj)) h
 unfold A8s at h; revert h; cases decide ((l.getD i Aj).ans.e=0) <;> cases Jq (l.getD i Aj) <;> simp
theorem Axr {l:List Srv} (h:decide (((jfi l:Nat):Int) < (l.length:Int))=true) (q:decide ((l.getD (jfi l) Aj).ans.e=0)=true):Jq (l.getD (jfi l) Aj)=false:=by
 have h:=U0 (p:=fun i=>A8s (l.getD i Aj)) (n:=l.length) (show jfi l < l.length by have:=otq h; omega)
 have h:A8s (l.getD (jfi l) Aj)=true:=h
 unfold A8s at h; rw [q] at h; revert h; cases Jq (l.getD (jfi l) Aj) <;> simp
def Bp (s:MchS):Bool:=bif decide ((((jfi s.srv):Nat):Int) < (s.srv.length:Int)) then false else true
theorem A34 (s:MchS) (hv:s.srv.length<=100000000):Sp P 84 [.pt 0 0] ([.ro (.blk [.pt 16 0,.pt 1 0,.mp 30,.sl 31,.sl 32,vi s.scrubs,vi s.steps] 171)] ++ ros (Ct s.c 1) ++ ros (Bg 25) ++ [.ro (.mp (.ar .u8 64 (nf (fun _=>0))) (mpC s.ideal)),.ro (.row Dw s.inj),.ro (.row G5 s.srv)]) (vt (Bp s)) ([.ro (.blk [.pt 16 0,.pt 1 0,.mp 30,.sl 31,.sl 32,vi s.scrubs,vi s.steps] 171)] ++ ros (Ct s.c 1) ++ ros (Bg 25) ++ [.ro (.mp (.ar .u8 64 (nf (fun _=>0))) (mpC s.ideal)),.ro (.row Dw s.inj),.ro (.row G5 s.srv)]):=by
 have hw:jfi s.srv<=s.srv.length:=Qd _ _
 have gd1:∀ (i:Nat) (hi:i < (jfi s.srv)),Good P _ _:=fun i hi=>(.t (sQT ((i:Int) < (s.srv.length:Int)) (by omega)) (.ix (i:=i) (m:=s.srv.length) (by omega) (.el (e:=G5) (gDx (l:=s.srv) (i:=i) Aj (by omega)) (.t (congrArg (!·) (show (decide ((s.srv.getD i Aj).ans.e=0))=true from (Zw hi).1)) (.t (congrArg (!·) (show (decide ((s.srv.getD i Aj).ans.e=0))=true from (Zw hi).1)) (.c [] (jgt (s.srv.getD i Aj)) (.t (congrArg (!·) (show (decide ((s.srv.getD i Aj).ans.e=0))=true from (Zw hi).1)) (.t (congrArg (!·) (show (decide ((s.srv.getD i Aj).ans.e=0))=true from (Zw hi).1)) (.t (congrArg (!·) (show (Jq (s.srv.getD i Aj))=true from (Zw hi).2)) (.n (.e 15 (Ck (a:=(i:Int)) (b:=1) (c:=((i + 1:Nat):Int)) (by omega)) .nil)))))))))))
 generalize d0:Bp s=yd0
 unfold Bp at d0
 rcases bft (decide ((((jfi s.srv):Nat):Int) < (s.srv.length:Int))) with q1 | q1
 ·rw [A2 q1] at d0
  have q1':=otq q1
  rcases bft (decide ((s.srv.getD (jfi s.srv) Aj).ans.e=0)) with q2 | q2
  ·have q2':=otq q2
   subst d0
   exact so Tryz.f84 8 (ir 0 33) (.c (ir 0 33) (Vh s) (.lp (jfi s.srv) 38 [] [] (fun i=>[(7,vn i)]) (fun i=>[(36,.lo .ready none)]) gd1 (.t q1 (.ix (i:=(jfi s.srv)) (m:=s.srv.length) (by omega) (.el (e:=G5) (gDx (l:=s.srv) (i:=(jfi s.srv)) Aj (by omega)) (.g2 q2 (.c [] (jgt (s.srv.getD (jfi s.srv) Aj)) (.g2 q2 (.t (congrArg (!·) (show (Jq (s.srv.getD (jfi s.srv) Aj))=false from (Axr q1 q2))) (.y .nil))))))))))
  ·have q2':=ofq q2
   subst d0
   exact so Tryz.f84 8 (ir 0 33) (.c (ir 0 33) (Vh s) (.lp (jfi s.srv) 38 [] [] (fun i=>[(7,vn i)]) (fun i=>[(36,.lo .ready none)]) gd1 (.t q1 (.ix (i:=(jfi s.srv)) (m:=s.srv.length) (by omega) (.el (e:=G5) (gDx (l:=s.srv) (i:=(jfi s.srv)) Aj (by omega)) (.g4 q2 (.y2 .nil)))))))
 ·rw [A1 q1] at d0
  have q1':=ofq q1
  subst d0
  exact so Tryz.f84 8 (ir 0 33) (.c (ir 0 33) (Vh s) (.lp (jfi s.srv) 38 [] [] (fun i=>[(7,vn i)]) (fun i=>[(36,.lo .ready none)]) gd1 (.t q1 .nil)))
def efr (l:List Srv):Nat->Int->Int
 | 0=>fun _=>0
 | n + 1=>bif Ff (l.getD n Aj).step then upZ (efr l n) (l.getD n Aj).step.line (l.getD n Aj).first else efr l n
def Abd (s:MchS) (i:Nat):Bool:=bif decide ((s.srv.getD i Aj).ans.e=0) then false else (bif (Ft s (efr s.srv i (s.srv.getD i Aj).step.line) (s.srv.getD i Aj).last).astray then false else decide ((Ft s (efr s.srv i (s.srv.getD i Aj).step.line) (s.srv.getD i Aj).last).exp < 2))
def efi (s:MchS):Nat:=ff (Abd s) s.srv.length
theorem Awo {s:MchS} {i:Nat} (h:i < efi s) (q:decide ((s.srv.getD i Aj).ans.e=0)=false) (q2:(Ft s (efr s.srv i (s.srv.getD i Aj).step.line) (s.srv.getD i Aj).last).astray=false):decide ((Ft s (efr s.srv i (s.srv.getD i Aj).step.line) (s.srv.getD i Aj).last).exp < 2)=false:=by
 have h:Abd s i=false:=Qe h
 unfold Abd at h; rw [q,q2] at h; exact h
theorem Vt {s:MchS} (h:decide (((efi s:Nat):Int) < (s.srv.length:Int))=true):decide ((s.srv.getD (efi s) Aj).ans.e=0)=false/\(Ft s (efr s.srv (efi s) (s.srv.getD (efi s) Aj).step.line) (s.srv.getD (efi s) Aj).last).astray=false/\decide ((Ft s (efr s.srv (efi s) (s.srv.getD (efi s) Aj).step.line) (s.srv.getD (efi s) Aj).last).exp < 2)=true:=by
 have h:Abd s (efi s)=true:=U0 (p:=Abd s) (n:=s.srv.length) (show efi s < s.srv.length by have:=otq h; omega)
 unfold Abd at h; revert h
 cases decide ((s.srv.getD (efi s) Aj).ans.e=0) <;> cases (Ft s (efr s.srv (efi s) (s.srv.getD (efi s) Aj).step.line) (s.srv.getD (efi s) Aj).last).astray <;> simp
def J0 (s:MchS):Bool:=bif decide ((((efi s):Nat):Int) < (s.srv.length:Int)) then false else true
theorem Asl (s:MchS) (hl:s.c.d.l.length<=100000000) (hv:s.srv.length<=100000000) (hms:∀ i,(s.srv.getD i Aj).step.mask < 18446744073709551616):Sp P 17 [.pt 0 0] ([.ro (.blk [.pt 16 0,.pt 1 0,.mp 30,.sl 31,.sl 32,vi s.scrubs,vi s.steps] 171)] ++ ros (Ct s.c 1) ++ ros (Bg 25) ++ [.ro (.mp (.ar .u8 64 (nf (fun _=>0))) (mpC s.ideal)),.ro (.row Dw s.inj),.ro (.row G5 s.srv)]) (vt (J0 s)) ([.ro (.blk [.pt 16 0,.pt 1 0,.mp 30,.sl 31,.sl 32,vi s.scrubs,vi s.steps] 171)] ++ ros (Ct s.c 1) ++ ros (Bg 25) ++ [.ro (.mp (.ar .u8 64 (nf (fun _=>0))) (mpC s.ideal)),.ro (.row Dw s.inj),.ro (.row G5 s.srv)]):=by
 have hw:efi s<=s.srv.length:=Qd _ _
 have gd1:∀ (i:Nat) (hi:i < (efi s)),Good P _ _:=fun i hi=>(.t (sQT ((i:Int) < (s.srv.length:Int)) (by omega)) (.ix (i:=i) (m:=s.srv.length) (by omega) (.el (e:=G5) (gDx (l:=s.srv) (i:=i) Aj (by omega)) (.cs 2 (Ft s ((efr s.srv i) (s.srv.getD i Aj).step.line) (s.srv.getD i Aj).last).astray 43 [] [] (fun z=>[]) (fun z=>[(36,.mp (vn 0) (mpI (bif (Ff (s.srv.getD i Aj).step) then (upZ (efr s.srv i) (s.srv.getD i Aj).step.line (s.srv.getD i Aj).first) else (efr s.srv i)))),(39,.lo .busy none)]) (fun hq1=>(.cs 0 (decide ((s.srv.getD i Aj).ans.e=0)) 43 [] [] (fun z=>[]) (fun z=>[(39,.lo .busy none)]) (fun hq2=>(.g hq2 .nil)) (fun hq2=>(.g hq2 (.c (ir 0 33) (jAt s ((efr s.srv i) (s.srv.getD i Aj).step.line) (s.srv.getD i Aj).last hl) (.g hq1 (.g hq1 (.g hq1 (.g hq1 (.n .nil)))))))) (.c [] (Amt (s.srv.getD i Aj).step (hms i)) (.cs 0 (Ff (s.srv.getD i Aj).step) 43 [] [] (fun z=>[]) (fun z=>[(36,.mp (vn 0) (mpI (bif z then (upZ (efr s.srv i) (s.srv.getD i Aj).step.line (s.srv.getD i Aj).first) else (efr s.srv i))))]) (fun hq2=>(.t hq2 (.mu (Aco (efr s.srv i) (s.srv.getD i Aj).step.line (s.srv.getD i Aj).first) .nil))) (fun hq2=>(.t hq2 .nil)) .nil)))) (fun hq1=>(.cs 0 (decide ((s.srv.getD i Aj).ans.e=0)) 43 [] [] (fun z=>[]) (fun z=>[(39,.lo .busy none)]) (fun hq2=>(.g hq2 .nil)) (fun hq2=>(.g hq2 (.c (ir 0 33) (jAt s ((efr s.srv i) (s.srv.getD i Aj).step.line) (s.srv.getD i Aj).last hl) (.g hq1 (.g hq1 (.g hq1 (.g hq1 (.t (show (decide ((Ft s ((efr s.srv i) (s.srv.getD i Aj).step.line) (s.srv.getD i Aj).last).exp < 2))=false from (Awo hi hq2 hq1)) .nil)))))))) (.c [] (Amt (s.srv.getD i Aj).step (hms i)) (.cs 0 (Ff (s.srv.getD i Aj).step) 43 [] [] (fun z=>[]) (fun z=>[(36,.mp (vn 0) (mpI (bif z then (upZ (efr s.srv i) (s.srv.getD i Aj).step.line (s.srv.getD i Aj).first) else (efr s.srv i))))]) (fun hq2=>(.t hq2 (.mu (Aco (efr s.srv i) (s.srv.getD i Aj).step.line (s.srv.getD i Aj).first) .nil))) (fun hq2=>(.t hq2 .nil)) .nil)))) (.n (.e 15 (Ck (a:=(i:Int)) (b:=1) (c:=((i + 1:Nat):Int)) (by omega)) .nil))))))
 generalize d0:J0 s=yd0
 unfold J0 at d0
 rcases bft (decide ((((efi s):Nat):Int) < (s.srv.length:Int))) with q1 | q1
 ·rw [A2 q1] at d0
  have q1':=otq q1
  subst d0
  exact so Tryz.f17 12 (ir 0 33) (.c (ir 0 33) (Vh s) (.lp (efi s) 41 [] [] (fun i=>[(7,vn i)]) (fun i=>[(36,.mp (vn 0) (mpI (efr s.srv i))),(39,.lo .ready none)]) gd1 (.t q1 (.ix (i:=(efi s)) (m:=s.srv.length) (by omega) (.el (e:=G5) (gDx (l:=s.srv) (i:=(efi s)) Aj (by omega)) (.t (congrArg (!·) (show (decide ((s.srv.getD (efi s) Aj).ans.e=0))=false from (Vt q1).1)) (.c (ir 0 33) (jAt s ((efr s.srv (efi s)) (s.srv.getD (efi s) Aj).step.line) (s.srv.getD (efi s) Aj).last hl) (.t (congrArg (!·) (show (Ft s ((efr s.srv (efi s)) (s.srv.getD (efi s) Aj).step.line) (s.srv.getD (efi s) Aj).last).astray=false from (Vt q1).2.1)) (.t (congrArg (!·) (show (Ft s ((efr s.srv (efi s)) (s.srv.getD (efi s) Aj).step.line) (s.srv.getD (efi s) Aj).last).astray=false from (Vt q1).2.1)) (.t (congrArg (!·) (show (Ft s ((efr s.srv (efi s)) (s.srv.getD (efi s) Aj).step.line) (s.srv.getD (efi s) Aj).last).astray=false from (Vt q1).2.1)) (.t (congrArg (!·) (show (Ft s ((efr s.srv (efi s)) (s.srv.getD (efi s) Aj).step.line) (s.srv.getD (efi s) Aj).last).astray=false from (Vt q1).2.1)) (.t (show (decide ((Ft s ((efr s.srv (efi s)) (s.srv.getD (efi s) Aj).step.line) (s.srv.getD (efi s) Aj).last).exp < 2))=true from (Vt q1).2.2) (.y .nil)))))))))))))
 ·rw [A1 q1] at d0
  have q1':=ofq q1
  subst d0
  exact so Tryz.f17 12 (ir 0 33) (.c (ir 0 33) (Vh s) (.lp (efi s) 41 [] [] (fun i=>[(7,vn i)]) (fun i=>[(36,.mp (vn 0) (mpI (efr s.srv i))),(39,.lo .ready none)]) gd1 (.t q1 .nil)))
