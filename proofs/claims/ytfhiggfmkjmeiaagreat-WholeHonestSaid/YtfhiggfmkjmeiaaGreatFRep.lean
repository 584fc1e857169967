import Derived.Test.YtfhiggfmkjmeiaaGreatFInt
import Derived.Test.YtfhiggfmkjmeiaaGreatFCpl
set_option linter.unusedVariables false
set_option linter.unusedSimpArgs false
set_option linter.unusedSectionVars false
namespace Go.Proofs.YtfhiggfmkjmeiaaGreat
open Go Go.RowKit
set_option maxRecDepth 100000
structure RgOk (s:RgS):Prop where
 len:s.l.length=256
 at0:0<=s.at'∧s.at' < 256
 n0:0<=s.n∧s.n<=256
theorem RgOk.ne {s:RgS} (h:RgOk s):((s.l.length:Nat):Int) ≠ 0:=by have:=h.len; omega
def akEq (a b:Ak):Bool:=decide (a.kind=b.kind) && (decide (a.which=b.which) && true)
def rplace_v0 (s:RgS) (i:Int):Int:=(IntKind.i64.wrap (s.at' + i)).tmod ((s.l.length:Nat):Int)
theorem rplace (s:RgS) (i:Int) (ok:RgOk s):Sp P 269 [.pt 0 0,vi i] (ros (bRing s 0)) (vi (rplace_v0 s i)) (ros (bRing s 0)) :=
 so Tryz.f269 3 [.id 0,.id 1] (.p 16 (pRemI (IntKind.i64.wrap (s.at' + i)) ((s.l.length:Nat):Int) (ok.ne)) .nil)
theorem rplace_b {s:RgS} (h:RgOk s) {i:Int} (hi:0<=i∧i<=256):0<=rplace_v0 s i∧rplace_v0 s i < ((s.l.length:Nat):Int):=by
 have:=h.at0; have:=h.len
 have e:IntKind.i64.wrap (s.at' + i)=s.at' + i:=i64ok ⟨by omega,by omega⟩
 unfold rplace_v0
 rw [e,this,Int.tmod_eq_emod_of_nonneg (by omega)]
 omega
def rpush_s (s:RgS) (x:Ak):RgS:=bif decide (s.n=((s.l.length:Nat):Int)) then s else (⟨s.l.set (rplace_v0 s s.n).toNat x,s.at',IntKind.i64.wrap (s.n + 1)⟩:RgS)
def rpush_v0 (s:RgS) (x:Ak):Nat:=bif decide (s.n=((s.l.length:Nat):Int)) then 14 else 0
theorem rpush (s:RgS) (x:Ak) (ok:RgOk s):Sp P 345 [.pt 0 0,.ag [vi x.kind,vi x.which]] (bRing s 0) (vn (rpush_v0 s x)) (bRing (rpush_s s x) 0):=by
 have hp:=rplace_b ok (i:=s.n) ok.n0
 generalize d0:rpush_s s x=yd0
 unfold rpush_s at d0
 generalize d1:rpush_v0 s x=yd1
 unfold rpush_v0 at d1
 rcases bft (decide (s.n=((s.l.length:Nat):Int))) with q1 | q1
 ·rw [cpos q1] at d0
  rw [cpos q1] at d1
  subst d0 d1
  exact so Tryz.f345 3 [.id 0,.id 1] (.t q1 .nil)
 ·rw [cneg q1] at d0
  rw [cneg q1] at d1
  have q1':=of_decide_eq_false q1
  subst d0 d1
  exact so Tryz.f345 5 [.id 0,.id 1] (.t q1 (.c [.id 0,.id 1] (rplace s s.n (by first | assumption | omega)) (.ix (n:=(rplace_v0 s s.n)) (i:=(rplace_v0 s s.n).toNat) (m:=s.l.length) (e:=(by omega)) (by omega) (.sw (e:=eAk) (l:=s.l) (i:=(rplace_v0 s s.n).toNat) (a:=x) (by omega) .nil))))
def rwhere (s:RgS) (x:Ak):Nat:=ff (fun i=>akEq x (s.l.getD (rplace_v0 s ((i:Nat):Int)).toNat eAk0)) s.n.toNat
theorem rwhere_at {s:RgS} {x:Ak} (h:((rwhere s x:Nat):Int) < s.n):akEq x (s.l.getD (rplace_v0 s (((rwhere s x):Nat):Int)).toNat eAk0)=true:=ff_at (p:=fun i=>akEq x (s.l.getD (rplace_v0 s ((i:Nat):Int)).toNat eAk0)) (n:=s.n.toNat) (show rwhere s x < s.n.toNat by omega)
theorem rall (s:RgS) :Sp P 213 [.pt 0 0] (ros (bRing s 0)) (.fn (.func 268) [] [.pt 2 0]) (ros (bRing s 0) ++ [.blk [.pt 0 0] 179]) :=
 so Tryz.f213 3 [.id 0,.id 1,.id 3] .nil
def rhas_v0 (s:RgS) (x:Ak):Bool:=bif decide ((((rwhere s x):Nat):Int) < s.n) then true else false
theorem rhas (s:RgS) (x:Ak) (ok:RgOk s):Sp P 344 [.pt 0 0,.ag [vi x.kind,vi x.which]] (ros (bRing s 0)) (vt (rhas_v0 s x)) (ros (bRing s 0)):=by
 have hn:=ok.n0
 have hw:rwhere s x<=s.n.toNat:=ff_le _ _
 have hp:∀ i:Nat,i < s.n.toNat->0<=rplace_v0 s ((i:Nat):Int)∧rplace_v0 s ((i:Nat):Int) < ((s.l.length:Nat):Int):=fun i hi=>rplace_b ok (by omega)
 have gd1:∀ (i:Nat) (hi:i < (rwhere s x)),Good P _ _:=fun i hi=>(.t (show (decide (((i:Nat):Int) < s.n))=true from decide_eq_true (by omega)) (.c [.id 0,.id 1] (rplace s ((i:Nat):Int) (by first | assumption | omega)) (.ix (n:=(rplace_v0 s ((i:Nat):Int))) (i:=(rplace_v0 s ((i:Nat):Int)).toNat) (m:=s.l.length) (e:=(by have:=hp i (by omega); omega)) (by have:=hp i (by omega); omega) (.el (e:=eAk) (gDx (l:=s.l) (i:=(rplace_v0 s ((i:Nat):Int)).toNat) eAk0 (by have:=hp i (by omega); omega)) (.t (show ((decide (x.kind=(s.l.getD (rplace_v0 s ((i:Nat):Int)).toNat eAk0).kind)) && ((decide (x.which=(s.l.getD (rplace_v0 s ((i:Nat):Int)).toNat eAk0).which)) && true))=false from ff_lt hi) (.n (.e 24 (aAdd (a:=((i:Nat):Int)) (b:=1) (c:=((i + 1:Nat):Int)) (by have:=hp i (by omega); omega)) .nil)))))))
 generalize d0:rhas_v0 s x=yd0
 unfold rhas_v0 at d0
 rcases bft (decide ((((rwhere s x):Nat):Int) < s.n)) with q1 | q1
 ·rw [cpos q1] at d0
  have q1':=of_decide_eq_true q1
  subst d0
  exact so Tryz.f344 9 [.id 0,.id 1] (.c [.id 0,.id 1] (rall s) (.lp (rwhere s x) 8 [] [] (fun i=>[(8,vn i)]) (fun i=>[(6,.lo .ready none)]) gd1 (.t q1 (.c [.id 0,.id 1] (rplace s (((rwhere s x):Nat):Int) (by first | assumption | omega)) (.ix (n:=(rplace_v0 s (((rwhere s x):Nat):Int))) (i:=(rplace_v0 s (((rwhere s x):Nat):Int)).toNat) (m:=s.l.length) (e:=(by have:=hp (rwhere s x) (by have:=of_decide_eq_true q1; omega); omega)) (by have:=hp (rwhere s x) (by have:=of_decide_eq_true q1; omega); omega) (.el (e:=eAk) (gDx (l:=s.l) (i:=(rplace_v0 s (((rwhere s x):Nat):Int)).toNat) eAk0 (by have:=hp (rwhere s x) (by have:=of_decide_eq_true q1; omega); omega)) (.t (show ((decide (x.kind=(s.l.getD (rplace_v0 s (((rwhere s x):Nat):Int)).toNat eAk0).kind)) && ((decide (x.which=(s.l.getD (rplace_v0 s (((rwhere s x):Nat):Int)).toNat eAk0).which)) && true))=true from rwhere_at (of_decide_eq_true q1)) (.y .nil))))))))
 ·rw [cneg q1] at d0
  have q1':=of_decide_eq_false q1
  subst d0
  exact so Tryz.f344 9 [.id 0,.id 1] (.c [.id 0,.id 1] (rall s) (.lp (rwhere s x) 8 [] [] (fun i=>[(8,vn i)]) (fun i=>[(6,.lo .ready none)]) gd1 (.t q1 .nil)))
def ronce_s (s:RgS) (x:Ak):RgS:=bif (rhas_v0 s x) then s else (rpush_s s x)
def ronce_v0 (s:RgS) (x:Ak):Nat:=bif (rhas_v0 s x) then 15 else (rpush_v0 s x)
theorem ronce (s:RgS) (x:Ak) (ok:RgOk s):Sp P 321 [.pt 0 0,.ag [vi x.kind,vi x.which]] (bRing s 0) (vn (ronce_v0 s x)) (bRing (ronce_s s x) 0):=by
 generalize d0:ronce_s s x=yd0
 unfold ronce_s at d0
 generalize d1:ronce_v0 s x=yd1
 unfold ronce_v0 at d1
 rcases bft (rhas_v0 s x) with q1 | q1
 ·rw [cpos q1] at d0
  rw [cpos q1] at d1
  subst d0 d1
  exact so Tryz.f321 3 [.id 0,.id 1] (.c [.id 0,.id 1] (rhas s x (by first | assumption | omega)) (.t q1 .nil))
 ·rw [cneg q1] at d0
  rw [cneg q1] at d1
  subst d0 d1
  exact so Tryz.f321 3 [.id 0,.id 1] (.c [.id 0,.id 1] (rhas s x (by first | assumption | omega)) (.t q1 (.c [.id 0,.id 1] (rpush s x (by first | assumption | omega)) .nil)))
def rremove_s (s:RgS):RgS:=bif decide (s.n<=0) then s else (⟨(s.l.set s.at'.toNat (⟨0,0⟩:Ak)),(rplace_v0 { s with l:=s.l.set s.at'.toNat (⟨0,0⟩:Ak) } 1),IntKind.i64.wrap (s.n - 1)⟩:RgS)
def rremove_v0 (s:RgS):Int:=bif decide (s.n<=0) then 0 else (s.l.getD (rplace_v0 s 0).toNat eAk0).kind
def rremove_v1 (s:RgS):Int:=bif decide (s.n<=0) then 0 else (s.l.getD (rplace_v0 s 0).toNat eAk0).which
def rremove_v2 (s:RgS):Nat:=bif decide (s.n<=0) then 13 else 0
theorem rremove (s:RgS) (ok:RgOk s):Sp P 346 [.pt 0 0,vn 0] (bRing s 0) (.tu [.ag [vi (rremove_v0 s),vi (rremove_v1 s)],vn (rremove_v2 s)]) (bRing (rremove_s s) 0):=by
 have h0:=rplace_b ok (i:=0) (by decide)
 have h1:=ok.at0
 have h2:=ok.len
 generalize d0:rremove_s s=yd0
 unfold rremove_s at d0
 generalize d1:rremove_v0 s=yd1
 unfold rremove_v0 at d1
 generalize d2:rremove_v1 s=yd2
 unfold rremove_v1 at d2
 generalize d3:rremove_v2 s=yd3
 unfold rremove_v2 at d3
 rcases bft (decide (s.n<=0)) with q1 | q1
 ·rw [cpos q1] at d0
  rw [cpos q1] at d1
  rw [cpos q1] at d2
  rw [cpos q1] at d3
  subst d0 d1 d2 d3
  exact so Tryz.f346 4 [.id 0,.id 1] (.n4 (.n2 (.n (.t q1 .nil))))
 ·rw [cneg q1] at d0
  rw [cneg q1] at d1
  rw [cneg q1] at d2
  rw [cneg q1] at d3
  have q1':=of_decide_eq_false q1
  subst d0 d1 d2 d3
  exact so Tryz.f346 8 [.id 0,.id 1] (.n4 (.n2 (.n (.t q1 (.c [.id 0,.id 1] (rplace s 0 (by first | assumption | omega)) (.ix (n:=(rplace_v0 s 0)) (i:=(rplace_v0 s 0).toNat) (m:=s.l.length) (e:=(by omega)) (by omega) (.el (e:=eAk) (gDx (l:=s.l) (i:=(rplace_v0 s 0).toNat) eAk0 (by omega)) (.lu 0 (.n (.ix (n:=s.at') (i:=s.at'.toNat) (m:=s.l.length) (e:=(by omega)) (by omega) (.sw (e:=eAk) (l:=s.l) (i:=s.at'.toNat) (a:=(⟨0,0⟩:Ak)) (by omega) (.c [.id 0,.id 1] (rplace { s with l:=s.l.set s.at'.toNat (⟨0,0⟩:Ak) } 1 (⟨by simp only [List.length_set]; exact ok.len,ok.at0,ok.n0⟩)) .nil))))))))))))
theorem rpop (s:RgS) (ok:RgOk s):Sp P 326 [.pt 0 0] (bRing s 0) (.tu [.ag [vi (rremove_v0 s),vi (rremove_v1 s)],vn (rremove_v2 s)]) (bRing (rremove_s s) 0) :=
 so Tryz.f326 3 [.id 0,.id 1] (.c [.id 0,.id 1] (rremove s (by first | assumption | omega)) .nil)
theorem rpush_ok {s:RgS} {x:Ak} (h:RgOk s):RgOk (rpush_s s x):=by
 obtain ⟨h1,h2,h3⟩:=h
 unfold rpush_s
 cases q:decide (s.n=((s.l.length:Nat):Int))
 ·have q':=of_decide_eq_false q
  refine ⟨by show (List.set _ _ _).length=256; rw [List.length_set]; exact h1,h2,?_⟩
  show 0<=IntKind.i64.wrap (s.n + 1)∧IntKind.i64.wrap (s.n + 1)<=256
  rw [show IntKind.i64.wrap (s.n + 1)=s.n + 1 from i64ok ⟨by omega,by omega⟩]; omega
 ·exact ⟨h1,h2,h3⟩
theorem rremove_ok {s:RgS} (h:RgOk s):RgOk (rremove_s s):=by
 obtain ⟨h1,h2,h3⟩:=h
 unfold rremove_s
 cases q:decide (s.n<=0)
 ·have q':=of_decide_eq_false q
  have hl:(s.l.set s.at'.toNat (⟨0,0⟩:Ak)).length=256:=by rw [List.length_set]; exact h1
  have:=rplace_b (s:={ s with l:=s.l.set s.at'.toNat (⟨0,0⟩:Ak) }) ⟨hl,h2,h3⟩ (i:=1) (by decide)
  refine ⟨hl,⟨this.1,?_⟩,?_⟩
  ·have:=this.2; rw [hl] at this; exact this
  ·show 0<=IntKind.i64.wrap (s.n - 1)∧IntKind.i64.wrap (s.n - 1)<=256
   rw [show IntKind.i64.wrap (s.n - 1)=s.n - 1 from i64ok ⟨by omega,by omega⟩]; omega
 ·exact ⟨h1,h2,h3⟩
theorem ronce_ok {s:RgS} {x:Ak} (h:RgOk s):RgOk (ronce_s s x):=by
 unfold ronce_s; cases rhas_v0 s x
 ·exact rpush_ok h
 ·exact h
structure RepOk (s:RepS):Prop where
 m:MapOk s.m
 q:RgOk s.q
 g:0<=s.j.goal∧s.j.goal<=1048576
theorem rpMap (s:RepS) :Sp P 22 [.pt 0 0] (ros (bRep s 0)) (.pt 1 0) (ros (bRep s 0)) :=
 so Tryz.f22 3 (ir 0 7) .nil
theorem rpJob (s:RepS) :Sp P 20 [.pt 0 0] (ros (bRep s 0)) (.ag [vi s.j.kind,vi s.j.src,vi s.j.goal,vi s.j.next]) (ros (bRep s 0)) :=
 so Tryz.f20 3 (ir 0 7) .nil
theorem rpRoute (s:RepS) (n:Int) (ok:RepOk s):Sp P 35 [.pt 0 0,vi n] (ros (bRep s 0)) (.tu [vi (jroute_v0 s.j s.m n),vi (mIndex_v1 s.m n),vi (mIndex_v2 s.m n),vi (jroute_v1 s.j s.m n)]) (ros (bRep s 0)) :=
 so Tryz.f35 3 (ir 0 7) (.c (ir 1 4) (jroute s.j s.m n ok.m) .nil)
theorem rpBusy (s:RepS) :Sp P 200 [.pt 0 0] (ros (bRep s 0)) (vt (!(decide (s.j.kind=0)))) (ros (bRep s 0)) :=
 so Tryz.f200 3 (ir 0 7) .nil
def rpVoid_v0 (s:RepS) (a:Ak):Bool:=bif decide (a.kind=1) then (bif decide (a.which < 0) then true else (bif decide ((gpages_v0 s.m.l.g)<=a.which) then true else (bif (mDead_v0 s.m a.which) then true else (bif (mFreePage_v1 s.m) then (bif decide ((mFreePage_v0 s.m)<=a.which) then true else (bif decide (s.j.kind=a.kind) then (decide (s.j.src=a.which)) else false)) else (bif decide (s.j.kind=a.kind) then (decide (s.j.src=a.which)) else false))))) else (bif decide (a.kind=2) then (bif (mSpare_v1 s.m a.which) then true else (bif decide (a.which < 0) then true else (bif decide (s.m.l.g.ranks<=a.which) then true else (bif decide (s.j.kind=a.kind) then (decide (s.j.src=a.which)) else false)))) else true)
theorem rpVoid (s : RepS) (a : Ak)  : Sp P 319 [.pt 0 0, .ag [vi a.kind, vi a.which]] (ros (bRep s 0)) (vt (rpVoid_v0 s a)) (ros (bRep s 0)) := by
 generalize d0:rpVoid_v0 s a=yd0
 unfold rpVoid_v0 at d0
 rcases bft (decide (a.kind=1)) with q1 | q1
 ·rw [cpos q1] at d0
  rcases bft (decide (a.which < 0)) with q2 | q2
  ·rw [cpos q2] at d0
   subst d0
   exact so Tryz.f319 4 (ir 0 7) (.c (ir 1 4) (mLayout s.m) (.t q1 (.c (ir 1 4) (mFreePage s.m) (.t4 q2 (.t2 q2 (.y4 (.y4 (.y4 (.y .nil)))))))))
  ·rw [cneg q2] at d0
   rcases bft (decide ((gpages_v0 s.m.l.g)<=a.which)) with q3 | q3
   ·rw [cpos q3] at d0
    subst d0
    exact so Tryz.f319 5 (ir 0 7) (.c (ir 1 4) (mLayout s.m) (.t q1 (.c (ir 1 4) (mFreePage s.m) (.t4 q2 (.c [] (gpages s.m.l.g) (.t2 q2 (.t4 q3 (.t4 q3 (.y4 (.y .nil))))))))))
   ·rw [cneg q3] at d0
    rcases bft (mDead_v0 s.m a.which) with q4 | q4
    ·rw [cpos q4] at d0
     subst d0
     exact so Tryz.f319 6 (ir 0 7) (.c (ir 1 4) (mLayout s.m) (.t q1 (.c (ir 1 4) (mFreePage s.m) (.t4 q2 (.c [] (gpages s.m.l.g) (.t2 q2 (.t4 q3 (.t2 q3 (.t q3 (.c (ir 1 4) (mDead s.m a.which) (.t q3 (.t4 q4 (.y .nil)))))))))))))
    ·rw [cneg q4] at d0
     rcases bft (mFreePage_v1 s.m) with q5 | q5
     ·rw [cpos q5] at d0
      rcases bft (decide ((mFreePage_v0 s.m)<=a.which)) with q6 | q6
      ·rw [cpos q6] at d0
       subst d0
       exact so Tryz.f319 6 (ir 0 7) (.c (ir 1 4) (mLayout s.m) (.t q1 (.c (ir 1 4) (mFreePage s.m) (.t4 q2 (.c [] (gpages s.m.l.g) (.t2 q2 (.t4 q3 (.t2 q3 (.t q3 (.c (ir 1 4) (mDead s.m a.which) (.t q3 (.t2 q4 (.t4 q5 (.t q4 (.t q5 (.t q4 (.t q6 .nil)))))))))))))))))
      ·rw [cneg q6] at d0
       rcases bft (decide (s.j.kind=a.kind)) with q7 | q7
       ·rw [cpos q7] at d0
        subst d0
        exact so Tryz.f319 6 (ir 0 7) (.c (ir 1 4) (mLayout s.m) (.t q1 (.c (ir 1 4) (mFreePage s.m) (.t4 q2 (.c [] (gpages s.m.l.g) (.t2 q2 (.t4 q3 (.t2 q3 (.t q3 (.c (ir 1 4) (mDead s.m a.which) (.t q3 (.t2 q4 (.t4 q5 (.t q4 (.t q5 (.t q4 (.t q6 (.t4 q7 (.t4 q7 (.t q7 .nil))))))))))))))))))))
       ·rw [cneg q7] at d0
        subst d0
        exact so Tryz.f319 6 (ir 0 7) (.c (ir 1 4) (mLayout s.m) (.t q1 (.c (ir 1 4) (mFreePage s.m) (.t4 q2 (.c [] (gpages s.m.l.g) (.t2 q2 (.t4 q3 (.t2 q3 (.t q3 (.c (ir 1 4) (mDead s.m a.which) (.t q3 (.t2 q4 (.t4 q5 (.t q4 (.t q5 (.t q4 (.t q6 (.t4 q7 (.t4 q7 (.t q7 .nil))))))))))))))))))))
     ·rw [cneg q5] at d0
      rcases bft (decide (s.j.kind=a.kind)) with q6 | q6
      ·rw [cpos q6] at d0
       subst d0
       exact so Tryz.f319 6 (ir 0 7) (.c (ir 1 4) (mLayout s.m) (.t q1 (.c (ir 1 4) (mFreePage s.m) (.t4 q2 (.c [] (gpages s.m.l.g) (.t2 q2 (.t4 q3 (.t2 q3 (.t q3 (.c (ir 1 4) (mDead s.m a.which) (.t q3 (.t2 q4 (.t4 q5 (.t q4 (.t q5 (.t q4 (.n (.t4 q6 (.t4 q6 (.t q6 .nil))))))))))))))))))))
      ·rw [cneg q6] at d0
       subst d0
       exact so Tryz.f319 6 (ir 0 7) (.c (ir 1 4) (mLayout s.m) (.t q1 (.c (ir 1 4) (mFreePage s.m) (.t4 q2 (.c [] (gpages s.m.l.g) (.t2 q2 (.t4 q3 (.t2 q3 (.t q3 (.c (ir 1 4) (mDead s.m a.which) (.t q3 (.t2 q4 (.t4 q5 (.t q4 (.t q5 (.t q4 (.n (.t4 q6 (.t4 q6 (.t q6 .nil))))))))))))))))))))
 ·rw [cneg q1] at d0
  rcases bft (decide (a.kind=2)) with q2 | q2
  ·rw [cpos q2] at d0
   rcases bft (mSpare_v1 s.m a.which) with q3 | q3
   ·rw [cpos q3] at d0
    subst d0
    exact so Tryz.f319 5 (ir 0 7) (.c (ir 1 4) (mLayout s.m) (.t q1 (.t q2 (.c (ir 1 4) (mSpare s.m a.which) (.t4 q3 (.y4 (.y2 (.y .nil))))))))
   ·rw [cneg q3] at d0
    rcases bft (decide (a.which < 0)) with q4 | q4
    ·rw [cpos q4] at d0
     subst d0
     exact so Tryz.f319 5 (ir 0 7) (.c (ir 1 4) (mLayout s.m) (.t q1 (.t q2 (.c (ir 1 4) (mSpare s.m a.which) (.t4 q3 (.t4 q4 (.t2 q4 (.y .nil))))))))
    ·rw [cneg q4] at d0
     rcases bft (decide (s.m.l.g.ranks<=a.which)) with q5 | q5
     ·rw [cpos q5] at d0
      subst d0
      exact so Tryz.f319 5 (ir 0 7) (.c (ir 1 4) (mLayout s.m) (.t q1 (.t q2 (.c (ir 1 4) (mSpare s.m a.which) (.t4 q3 (.t4 q4 (.t2 q4 (.t q5 .nil))))))))
     ·rw [cneg q5] at d0
      rcases bft (decide (s.j.kind=a.kind)) with q6 | q6
      ·rw [cpos q6] at d0
       subst d0
       exact so Tryz.f319 5 (ir 0 7) (.c (ir 1 4) (mLayout s.m) (.t q1 (.t q2 (.c (ir 1 4) (mSpare s.m a.which) (.t4 q3 (.t4 q4 (.t2 q4 (.t q5 (.t4 q6 (.t4 q6 (.t q6 .nil)))))))))))
      ·rw [cneg q6] at d0
       subst d0
       exact so Tryz.f319 5 (ir 0 7) (.c (ir 1 4) (mLayout s.m) (.t q1 (.t q2 (.c (ir 1 4) (mSpare s.m a.which) (.t4 q3 (.t4 q4 (.t2 q4 (.t q5 (.t4 q6 (.t4 q6 (.t q6 .nil)))))))))))
  ·rw [cneg q2] at d0
   subst d0
   exact so Tryz.f319 4 (ir 0 7) (.c (ir 1 4) (mLayout s.m) (.t q1 (.t q2 .nil)))
def spent_r (a:Ak):List Ev:=[(⟨5,a.which,IntKind.i64.wrap (a.kind - 1)⟩:Ev)]
theorem spent (a:Ak) :Sp P 322 [.ag [vi a.kind,vi a.which]] [] (.sl 0) [.row eEv (spent_r a)] :=
 so Tryz.f322 4 [.id 2] (.bs 9 (e:=eEv) [(⟨5,a.which,IntKind.i64.wrap (a.kind - 1)⟩:Ev)] .nil)
def rpStart_s (s:RepS) (a:Ak):RepS:=bif decide (a.kind=2) then (bif decide ((((mTakeSpare_v1 s.m):Nat):Int)=0) then (⟨(mTakeSpare_s s.m),(⟨a.kind,a.which,mTakeSpare_v0 s.m,0⟩:Jb),s.q⟩:RepS) else { s with m:=(mTakeSpare_s s.m) }) else (bif decide ((((mTakePage_v1 s.m):Nat):Int)=0) then (⟨(mTakePage_s s.m),(⟨a.kind,a.which,mTakePage_v0 s.m,0⟩:Jb),s.q⟩:RepS) else { s with m:=(mTakePage_s s.m) })
def rpStart_r (s:RepS) (a:Ak):List Ev:=bif decide (a.kind=2) then (bif decide ((((mTakeSpare_v1 s.m):Nat):Int)=0) then [(⟨4,a.which,mTakeSpare_v0 s.m⟩:Ev)] else (spent_r a)) else (bif decide ((((mTakePage_v1 s.m):Nat):Int)=0) then [(⟨3,a.which,mTakePage_v0 s.m⟩:Ev)] else (spent_r a))
theorem rpStart (s:RepS) (a:Ak) :Sp P 320 [.pt 0 0,.ag [vi a.kind,vi a.which]] (bRep s 0) (.sl 7) (bRep (rpStart_s s a) 0 ++ [.row eEv (rpStart_r s a)]):=by
 generalize d0:rpStart_s s a=yd0
 unfold rpStart_s at d0
 generalize d1:rpStart_r s a=yd1
 unfold rpStart_r at d1
 rcases bft (decide (a.kind=2)) with q1 | q1
 ·rw [cpos q1] at d0
  rw [cpos q1] at d1
  rcases bft (decide ((((mTakeSpare_v1 s.m):Nat):Int)=0)) with q2 | q2
  ·rw [cpos q2] at d0
   rw [cpos q2] at d1
   subst d0 d1
   exact so Tryz.f320 4 (ir 0 7 ++ .id 9 :: []) (.t q1 (.c (ir 1 4) (mTakeSpare s.m) (.g q2 (.bs 45 (e:=eEv) [(⟨4,a.which,mTakeSpare_v0 s.m⟩:Ev)] .nil))))
  ·rw [cneg q2] at d0
   rw [cneg q2] at d1
   subst d0 d1
   exact so Tryz.f320 4 (ir 0 7 ++ .id 9 :: []) (.t q1 (.c (ir 1 4) (mTakeSpare s.m) (.g q2 (.c [] (spent a) .nil))))
 ·rw [cneg q1] at d0
  rw [cneg q1] at d1
  rcases bft (decide ((((mTakePage_v1 s.m):Nat):Int)=0)) with q2 | q2
  ·rw [cpos q2] at d0
   rw [cpos q2] at d1
   subst d0 d1
   exact so Tryz.f320 4 (ir 0 7 ++ .id 9 :: []) (.t q1 (.c (ir 1 4) (mTakePage s.m) (.g q2 (.bs 45 (e:=eEv) [(⟨3,a.which,mTakePage_v0 s.m⟩:Ev)] .nil))))
  ·rw [cneg q2] at d0
   rw [cneg q2] at d1
   subst d0 d1
   exact so Tryz.f320 4 (ir 0 7 ++ .id 9 :: []) (.t q1 (.c (ir 1 4) (mTakePage s.m) (.g q2 (.c [] (spent a) .nil))))
theorem mFreePage_b {s:MapS} (h:MapOk s):0<=mFreePage_v0 s∧mFreePage_v0 s<=1048576:=by
 obtain ⟨h1,h2,h3,h4,h5,h6⟩:=h
 have:=ly_rt h1
 unfold mFreePage_v0
 cases decide (s.pages=s.l.res)
 ·show 0<=IntKind.i64.wrap (lySeen_v0 s.l + s.pages)∧_
  rw [cond_false,wrap_ok (by omega) (by omega)]; omega
 ·exact ⟨Int.le_refl _,show (0:Int)<=1048576 by decide⟩
theorem mFreeSpare_b {s:MapS} (h:MapOk s):0<=mFreeSpare_v0 s∧mFreeSpare_v0 s<=1048576:=by
 obtain ⟨h1,h2,h3,h4,h5,h6⟩:=h
 have:=Gm.rt (ly_rt h1).1
 unfold mFreeSpare_v0
 cases decide (s.rks=s.l.g.spares)
 ·show 0<=IntKind.i64.wrap (s.l.g.ranks + s.rks)∧_
  rw [cond_false,wrap_ok (by omega) (by omega)]; omega
 ·exact ⟨Int.le_refl _,show (0:Int)<=1048576 by decide⟩
theorem mTakePage_b {s:MapS} (h:MapOk s):0<=mTakePage_v0 s∧mTakePage_v0 s<=1048576:=by
 unfold mTakePage_v0; cases mFreePage_v1 s
 ·exact ⟨Int.le_refl _,show (0:Int)<=1048576 by decide⟩
 ·exact mFreePage_b h
theorem mTakeSpare_b {s:MapS} (h:MapOk s):0<=mTakeSpare_v0 s∧mTakeSpare_v0 s<=1048576:=by
 unfold mTakeSpare_v0; cases mFreeSpare_v1 s
 ·exact ⟨Int.le_refl _,show (0:Int)<=1048576 by decide⟩
 ·exact mFreeSpare_b h
theorem rpStart_ok {s:RepS} {a:Ak} (h:RepOk s):RepOk (rpStart_s s a):=by
 obtain ⟨h1,h2,h3⟩:=h
 unfold rpStart_s
 simp only [Bool.cond_eq_ite]
 repeat (first | exact ⟨mTakeSpare_ok h1,h2,mTakeSpare_b h1⟩ | exact ⟨mTakePage_ok h1,h2,mTakePage_b h1⟩ | exact ⟨mTakeSpare_ok h1,h2,h3⟩ | exact ⟨mTakePage_ok h1,h2,h3⟩ | split)
theorem rpStart_len (s:RepS) (a:Ak):(rpStart_r s a).length=1:=by
 unfold rpStart_r spent_r
 simp only [Bool.cond_eq_ite]
 repeat (first | rfl | split)
def rpAsk_s (s:RepS) (a:Ak):RepS:=bif (rpVoid_v0 s a) then s else (bif decide (s.j.kind=0) then (rpStart_s s a) else { s with q:=(ronce_s s.q a) })
def rpAsk_r (s:RepS) (a:Ak):List Ev:=bif (rpVoid_v0 s a) then [] else (bif decide (s.j.kind=0) then (rpStart_r s a) else (bif decide ((((ronce_v0 s.q a):Nat):Int)=14) then (spent_r a) else []))
theorem rpAsk (s:RepS) (a:Ak) (ok:RepOk s):Sp P 297 [.pt 0 0,.ag [vi a.kind,vi a.which]] (bRep s 0) (.sl 7) (bRep (rpAsk_s s a) 0 ++ [.row eEv (rpAsk_r s a)]):=by
 generalize d0:rpAsk_s s a=yd0
 unfold rpAsk_s at d0
 generalize d1:rpAsk_r s a=yd1
 unfold rpAsk_r at d1
 rcases bft (rpVoid_v0 s a) with q1 | q1
 ·rw [cpos q1] at d0
  rw [cpos q1] at d1
  subst d0 d1
  exact so Tryz.f297 3 (ir 0 7 ++ .nil :: []) (.c (ir 0 7) (rpVoid s a) (.t q1 .nil))
 ·rw [cneg q1] at d0
  rw [cneg q1] at d1
  rcases bft (decide (s.j.kind=0)) with q2 | q2
  ·rw [cpos q2] at d0
   rw [cpos q2] at d1
   subst d0 d1
   exact so Tryz.f297 4 (ir 0 7 ++ .id 9 :: []) (.c (ir 0 7) (rpVoid s a) (.t q1 (.c (ir 0 7) (rpBusy s) (.t (congrArg (!·) (congrArg (!·) q2)) (.c (ir 0 7) (rpStart s a) .nil)))))
  ·rw [cneg q2] at d0
   rw [cneg q2] at d1
   rcases bft (decide ((((ronce_v0 s.q a):Nat):Int)=14)) with q3 | q3
   ·rw [cpos q3] at d1
    subst d0 d1
    exact so Tryz.f297 5 (ir 0 7 ++ .id 10 :: []) (.c (ir 0 7) (rpVoid s a) (.t q1 (.c (ir 0 7) (rpBusy s) (.t (congrArg (!·) (congrArg (!·) q2)) (.c [.id 5,.id 6] (ronce s.q a ok.q) (.t q3 (.c [] (spent a) .nil)))))))
   ·rw [cneg q3] at d1
    subst d0 d1
    exact so Tryz.f297 4 (ir 0 7 ++ .nil :: []) (.c (ir 0 7) (rpVoid s a) (.t q1 (.c (ir 0 7) (rpBusy s) (.t (congrArg (!·) (congrArg (!·) q2)) (.c [.id 5,.id 6] (ronce s.q a ok.q) (.t q3 .nil))))))
def rpNext_v0 (s:RepS):Int:=bif decide (s.j.kind=0) then 0 else (jat_v0 s.j s.m s.j.src s.j.next)
def rpNext_v1 (s:RepS):Int:=bif decide (s.j.kind=0) then 0 else (bif decide ((jat_v1 s.j s.m s.j.src s.j.next)=0) then (jat_v0 s.j s.m s.j.goal s.j.next) else 0)
def rpNext_v2 (s:RepS):Int:=bif decide (s.j.kind=0) then 51 else (bif decide ((jat_v1 s.j s.m s.j.src s.j.next)=0) then (jat_v1 s.j s.m s.j.goal s.j.next) else (jat_v1 s.j s.m s.j.src s.j.next))
theorem rpNext (s:RepS) (ok:RepOk s):Sp P 128 [.pt 0 0] (ros (bRep s 0)) (.tu [vi (rpNext_v0 s),vi (rpNext_v1 s),vi (rpNext_v2 s)]) (ros (bRep s 0)):=by
 generalize d0:rpNext_v0 s=yd0
 unfold rpNext_v0 at d0
 generalize d1:rpNext_v1 s=yd1
 unfold rpNext_v1 at d1
 generalize d2:rpNext_v2 s=yd2
 unfold rpNext_v2 at d2
 rcases bft (decide (s.j.kind=0)) with q1 | q1
 ·rw [cpos q1] at d0
  rw [cpos q1] at d1
  rw [cpos q1] at d2
  subst d0 d1 d2
  exact so Tryz.f128 3 (ir 0 7) (.c (ir 0 7) (rpBusy s) (.t (congrArg (!·) (congrArg (!·) q1)) .nil))
 ·rw [cneg q1] at d0
  rw [cneg q1] at d1
  rw [cneg q1] at d2
  rcases bft (decide ((jat_v1 s.j s.m s.j.src s.j.next)=0)) with q2 | q2
  ·rw [cpos q2] at d1
   rw [cpos q2] at d2
   subst d0 d1 d2
   exact so Tryz.f128 4 (ir 0 7) (.c (ir 0 7) (rpBusy s) (.t (congrArg (!·) (congrArg (!·) q1)) (.c (ir 1 4) (jsource s.j s.m s.j.next ok.m) (.t q2 (.c (ir 1 4) (jgoal s.j s.m s.j.next ok.m) .nil)))))
  ·rw [cneg q2] at d1
   rw [cneg q2] at d2
   subst d0 d1 d2
   exact so Tryz.f128 3 (ir 0 7) (.c (ir 0 7) (rpBusy s) (.t (congrArg (!·) (congrArg (!·) q1)) (.c (ir 1 4) (jsource s.j s.m s.j.next ok.m) (.t q2 .nil))))
def finR (x:RepS × List Ev):RepS × List Ev :=
 (bif rpVoid_v0 ({ x.1 with q:=rremove_s x.1.q }) ((⟨rremove_v0 x.1.q,rremove_v1 x.1.q⟩:Ak)) then { x.1 with q:=rremove_s x.1.q } else rpStart_s ({ x.1 with q:=rremove_s x.1.q }) ((⟨rremove_v0 x.1.q,rremove_v1 x.1.q⟩:Ak)),
  bif rpVoid_v0 ({ x.1 with q:=rremove_s x.1.q }) ((⟨rremove_v0 x.1.q,rremove_v1 x.1.q⟩:Ak)) then x.2 else x.2 ++ rpStart_r ({ x.1 with q:=rremove_s x.1.q }) ((⟨rremove_v0 x.1.q,rremove_v1 x.1.q⟩:Ak)))
def finGo (x:RepS × List Ev):Bool:=(decide (x.1.j.kind=0)) && decide (((rremove_v2 x.1.q:Nat):Int)=0)
def fin1 (s:RepS):RepS:=bif decide (s.j.kind=1) then { s with m:=mRetire_s s.m s.j.src s.j.goal,j:=⟨0,0,0,0⟩ } else { s with m:=mReplace_s s.m s.j.src s.j.goal,j:=⟨0,0,0,0⟩ }
def fin0 (s:RepS):RepS × List Ev:=(fin1 s,[⟨6,s.j.src,s.j.goal⟩])
def finP (n:Nat) (x:RepS × List Ev):Prop:=RepOk x.1∧x.2.length + x.1.q.n.toNat<=n
theorem finR_ok {n:Nat} {x:RepS × List Ev} (h:finP n x) (hg:finGo x=true):finP n (finR x):=by
 obtain ⟨h1,h2⟩:=h
 unfold finGo at hg
 simp only [Bool.and_eq_true,decide_eq_true_eq] at hg
 have hn:¬ x.1.q.n<=0:=fun hn=>by
  have:=hg.2
  unfold rremove_v2 at this
  rw [decide_eq_true hn] at this
  exact absurd this (by decide)
 have hs:RepOk { x.1 with q:=rremove_s x.1.q }:=⟨h1.m,rremove_ok h1.q,h1.g⟩
 have hq:(rremove_s x.1.q).n=x.1.q.n - 1:=by
  have:=h1.q.n0
  unfold rremove_s
  rw [decide_eq_false hn]
  exact i64ok ⟨by omega,by omega⟩
 have hq2:∀ a,(rpStart_s { x.1 with q:=rremove_s x.1.q } a).q=rremove_s x.1.q:=fun a=>by
  unfold rpStart_s
  simp only [Bool.cond_eq_ite]
  repeat (first | rfl | split)
 unfold finR finP
 cases rpVoid_v0 { x.1 with q:=rremove_s x.1.q } ⟨rremove_v0 x.1.q,rremove_v1 x.1.q⟩
 ·refine ⟨rpStart_ok hs,?_⟩
  show (x.2 ++ rpStart_r _ _).length + (rpStart_s _ _).q.n.toNat<=n
  rw [List.length_append,rpStart_len,hq2,hq]; omega
 ·refine ⟨hs,?_⟩
  show x.2.length + (rremove_s x.1.q).n.toNat<=n
  rw [hq]; omega
theorem finR_q {x:RepS × List Ev} (h:RepOk x.1) (hg:finGo x=true):(finR x).1.q.n.toNat < x.1.q.n.toNat:=by
 have h2:=(finR_ok (n:=x.2.length + x.1.q.n.toNat) ⟨h,Nat.le_refl _⟩ hg)
 unfold finGo at hg
 simp only [Bool.and_eq_true,decide_eq_true_eq] at hg
 have hn:¬ x.1.q.n<=0:=fun hn=>by
  have:=hg.2
  unfold rremove_v2 at this
  rw [decide_eq_true hn] at this
  exact absurd this (by decide)
 have hq:(rremove_s x.1.q).n=x.1.q.n - 1:=by
  have:=h.q.n0
  unfold rremove_s
  rw [decide_eq_false hn]
  exact i64ok ⟨by omega,by omega⟩
 have hq2:∀ a,(rpStart_s { x.1 with q:=rremove_s x.1.q } a).q=rremove_s x.1.q:=fun a=>by
  unfold rpStart_s
  simp only [Bool.cond_eq_ite]
  repeat (first | rfl | split)
 unfold finR
 cases rpVoid_v0 { x.1 with q:=rremove_s x.1.q } ⟨rremove_v0 x.1.q,rremove_v1 x.1.q⟩
 ·show (rpStart_s _ _).q.n.toNat < _
  rw [hq2,hq]; omega
 ·show (rremove_s x.1.q).n.toNat < _
  rw [hq]; omega
theorem fin1_ok {s:RepS} (h:RepOk s):RepOk (fin1 s):=by
 unfold fin1
 cases decide (s.j.kind=1)
 ·exact ⟨mReplace_ok h.m,h.q,⟨Int.le_refl _,show (0:Int)<=1048576 by decide⟩⟩
 ·exact ⟨mRetire_ok h.m,h.q,⟨Int.le_refl _,show (0:Int)<=1048576 by decide⟩⟩
def finN (s:RepS):Nat:=cnt finGo finR 256 (fin0 s)
def finX (s:RepS) (i:Nat):RepS × List Ev:=iter finR (fin0 s) i
theorem finX_ok {s:RepS} (h:RepOk s) {i:Nat} (hi:i<=finN s):finP 257 (finX s i) :=
 iter_inv (go:=finGo) (k:=256) (p:=finP 257) (fun x hx hg=>finR_ok hx hg) ⟨fin1_ok h,by
  have:=h.q.n0
  have e:(fin1 s).q=s.q:=by unfold fin1; cases decide (s.j.kind=1) <;> rfl
  show 1 + (fin1 s).q.n.toNat<=257
  rw [e]; omega⟩ hi
theorem finX_go {s:RepS} {i:Nat} (hi:i < finN s):finGo (finX s i)=true:=cnt_go hi
theorem finX_end {s:RepS} (h:RepOk s):finGo (finX s (finN s))=false :=
 cnt_end (p:=fun (x:RepS × List Ev)=>RepOk x.1) (fun x hx hg=>(finR_ok (n:=x.2.length + x.1.q.n.toNat) ⟨hx,Nat.le_refl _⟩ hg).1) (fun (x:RepS × List Ev)=>x.1.q.n.toNat) (fun x hx hg=>finR_q hx hg) (fin1_ok h) (by
  have:=h.q.n0
  have e:(fin1 s).q=s.q:=by unfold fin1; cases decide (s.j.kind=1) <;> rfl
  show (fin1 s).q.n.toNat<=256
  rw [e]; omega)
theorem finX_goA {s:RepS} {i:Nat} (hi:i < finN s):decide ((finX s i).1.j.kind=0)=true∧decide (((rremove_v2 (finX s i).1.q:Nat):Int)=0)=true:=by
 have:=finX_go hi
 unfold finGo at this
 exact Bool.and_eq_true_iff.1 this
theorem finX_endB {s:RepS} (h:RepOk s) (hb:decide ((finX s (finN s)).1.j.kind=0)=true):decide (((rremove_v2 (finX s (finN s)).1.q:Nat):Int)=0)=false:=by
 have:=finX_end h
 unfold finGo at this
 rw [hb] at this
 exact this
def rpFinish_s (s:RepS):RepS:=bif decide ((finX s (finN s)).1.j.kind=0) then { (finX s (finN s)).1 with q:=(rremove_s (finX s (finN s)).1.q) } else (finX s (finN s)).1
theorem rpFinish (s:RepS) (ok:RepOk s):Sp P 302 [.pt 0 0] (bRep s 0) (.sl 7) (bRep (rpFinish_s s) 0 ++ [.row eEv (finX s (finN s)).2]):=by
 have gd1:∀ (i:Nat) (hi:i < (finN s)),Good P _ _:=fun i hi=>(.c (ir 0 7) (rpBusy (finX s i).1) (.t (congrArg (!·) (congrArg (!·) (show (decide ((finX s i).1.j.kind=0))=true from (finX_goA hi).1))) (.c [.id 5,.id 6] (rpop (finX s i).1.q ((finX_ok ok (Nat.le_of_lt hi)).1.q)) (.t (congrArg (!·) (show (decide ((((rremove_v2 (finX s i).1.q):Nat):Int)=0))=true from (finX_goA hi).2)) (.c (ir 0 7) (rpVoid { (finX s i).1 with q:=(rremove_s (finX s i).1.q) } (⟨rremove_v0 (finX s i).1.q,rremove_v1 (finX s i).1.q⟩:Ak)) (.cs 0 (rpVoid_v0 { (finX s i).1 with q:=(rremove_s (finX s i).1.q) } (⟨rremove_v0 (finX s i).1.q,rremove_v1 (finX s i).1.q⟩:Ak)) 11 [] [(9,.id 12)] (fun z=>[(4,.sl 9)]) (fun z=>nb 0 (bRep (bif z then { (finX s i).1 with q:=(rremove_s (finX s i).1.q) } else (rpStart_s { (finX s i).1 with q:=(rremove_s (finX s i).1.q) } (⟨rremove_v0 (finX s i).1.q,rremove_v1 (finX s i).1.q⟩:Ak))) 0) ++ [(9,.row eEv (bif z then (finX s i).2 else ((finX s i).2 ++ (rpStart_r { (finX s i).1 with q:=(rremove_s (finX s i).1.q) } (⟨rremove_v0 (finX s i).1.q,rremove_v1 (finX s i).1.q⟩:Ak)))))]) (fun hq1=>(.g hq1 .nil)) (fun hq1=>(.g hq1 (.c (ir 0 7) (rpStart { (finX s i).1 with q:=(rremove_s (finX s i).1.q) } (⟨rremove_v0 (finX s i).1.q,rremove_v1 (finX s i).1.q⟩:Ak)) (.ap (e:=eEv) (l:=(finX s i).2) (l':=(rpStart_r { (finX s i).1 with q:=(rremove_s (finX s i).1.q) } (⟨rremove_v0 (finX s i).1.q,rremove_v1 (finX s i).1.q⟩:Ak))) .row .row (by have h:=(finX_ok ok (Nat.le_of_lt hi)).2; have:=rpStart_len ({ (finX s i).1 with q:=rremove_s (finX s i).1.q }) ((⟨rremove_v0 (finX s i).1.q,rremove_v1 (finX s i).1.q⟩:Ak)); omega) .nil)))) .nil))))))
 generalize d0:rpFinish_s s=yd0
 unfold rpFinish_s at d0
 rcases bft (decide ((finX s (finN s)).1.j.kind=0)) with q1 | q1
 ·rw [cpos q1] at d0
  have q1':=of_decide_eq_true q1
  subst d0
  exact so Tryz.f302 7 (ir 0 7 ++ .id 9 :: []) (.cs 0 (decide (s.j.kind=1)) 9 [] [] (fun z=>[]) (fun z=>nb 0 (bRep (bif z then (⟨(mRetire_s s.m s.j.src s.j.goal),(⟨0,0,0,0⟩:Jb),s.q⟩:RepS) else (⟨(mReplace_s s.m s.j.src s.j.goal),(⟨0,0,0,0⟩:Jb),s.q⟩:RepS)) 0)) (fun hq1=>(.t hq1 (.c (ir 1 4) (mRetire s.m s.j.src s.j.goal ok.m ok.g) .nil))) (fun hq1=>(.t hq1 (.c (ir 1 4) (mReplace s.m s.j.src s.j.goal) .nil))) (.bs 41 (e:=eEv) [{ s.j with kind:=6 }] (.lp (finN s) 10 [] [] (fun i=>[(4,.sl 9),(41,.z)]) (fun i=>nb 0 (bRep (finX s i).1 0) ++ [(9,.row eEv (finX s i).2)]) gd1 (.c (ir 0 7) (rpBusy (finX s (finN s)).1) (.t (congrArg (!·) (congrArg (!·) q1)) (.c [.id 5,.id 6] (rpop (finX s (finN s)).1.q ((finX_ok ok (Nat.le_refl _)).1.q)) (.t (congrArg (!·) (show (decide ((((rremove_v2 (finX s (finN s)).1.q):Nat):Int)=0))=false from finX_endB ok q1)) .nil)))))))
 ·rw [cneg q1] at d0
  have q1':=of_decide_eq_false q1
  subst d0
  exact so Tryz.f302 7 (ir 0 7 ++ .id 9 :: []) (.cs 0 (decide (s.j.kind=1)) 9 [] [] (fun z=>[]) (fun z=>nb 0 (bRep (bif z then (⟨(mRetire_s s.m s.j.src s.j.goal),(⟨0,0,0,0⟩:Jb),s.q⟩:RepS) else (⟨(mReplace_s s.m s.j.src s.j.goal),(⟨0,0,0,0⟩:Jb),s.q⟩:RepS)) 0)) (fun hq1=>(.t hq1 (.c (ir 1 4) (mRetire s.m s.j.src s.j.goal ok.m ok.g) .nil))) (fun hq1=>(.t hq1 (.c (ir 1 4) (mReplace s.m s.j.src s.j.goal) .nil))) (.bs 41 (e:=eEv) [{ s.j with kind:=6 }] (.lp (finN s) 10 [] [] (fun i=>[(4,.sl 9),(41,.z)]) (fun i=>nb 0 (bRep (finX s i).1 0) ++ [(9,.row eEv (finX s i).2)]) gd1 (.c (ir 0 7) (rpBusy (finX s (finN s)).1) (.t (congrArg (!·) (congrArg (!·) q1)) .nil)))))
def rpStep_s (s:RepS):RepS:=bif decide (s.j.kind=0) then s else (bif (jbDone_v0 { s.j with next:=IntKind.i64.wrap (s.j.next + 1) } s.m.l) then (rpFinish_s { s with j:={ s.j with next:=IntKind.i64.wrap (s.j.next + 1) } }) else { s with j:={ s.j with next:=IntKind.i64.wrap (s.j.next + 1) } })
def rpStep_r (s:RepS):List Ev:=bif decide (s.j.kind=0) then [] else (bif (jbDone_v0 { s.j with next:=IntKind.i64.wrap (s.j.next + 1) } s.m.l) then (finX { s with j:={ s.j with next:=IntKind.i64.wrap (s.j.next + 1) } } (finN { s with j:={ s.j with next:=IntKind.i64.wrap (s.j.next + 1) } })).2 else [])
def rpStep_e (s:RepS):Int:=bif decide (s.j.kind=0) then 51 else 0
theorem rpStep (s:RepS) (ok:RepOk s):Sp P 264 [.pt 0 0] (bRep s 0) (.tu [.sl 7,vi (rpStep_e s)]) (bRep (rpStep_s s) 0 ++ [.row eEv (rpStep_r s)]):=by
 generalize d0:rpStep_s s=yd0
 unfold rpStep_s at d0
 generalize d1:rpStep_r s=yd1
 unfold rpStep_r at d1
 generalize d2:rpStep_e s=yd2
 unfold rpStep_e at d2
 rcases bft (decide (s.j.kind=0)) with q1 | q1
 ·rw [cpos q1] at d0
  rw [cpos q1] at d1
  rw [cpos q1] at d2
  subst d0 d1 d2
  exact so Tryz.f264 3 (ir 0 7 ++ .nil :: []) (.c (ir 0 7) (rpBusy s) (.t (congrArg (!·) (congrArg (!·) q1)) .nil))
 ·rw [cneg q1] at d0
  rw [cneg q1] at d1
  rw [cneg q1] at d2
  rcases bft (jbDone_v0 { s.j with next:=IntKind.i64.wrap (s.j.next + 1) } s.m.l) with q2 | q2
  ·rw [cpos q2] at d0
   rw [cpos q2] at d1
   subst d0 d1 d2
   exact so Tryz.f264 5 (ir 0 7 ++ .id 10 :: []) (.c (ir 0 7) (rpBusy s) (.t (congrArg (!·) (congrArg (!·) q1)) (.c (ir 1 4) (mLayout s.m) (.c [] (jbDone { s.j with next:=IntKind.i64.wrap (s.j.next + 1) } s.m.l) (.g q2 (.c (ir 0 7) (rpFinish { s with j:={ s.j with next:=IntKind.i64.wrap (s.j.next + 1) } } (⟨ok.m,ok.q,ok.g⟩)) .nil))))))
  ·rw [cneg q2] at d0
   rw [cneg q2] at d1
   subst d0 d1 d2
   exact so Tryz.f264 4 (ir 0 7 ++ .nil :: []) (.c (ir 0 7) (rpBusy s) (.t (congrArg (!·) (congrArg (!·) q1)) (.c (ir 1 4) (mLayout s.m) (.c [] (jbDone { s.j with next:=IntKind.i64.wrap (s.j.next + 1) } s.m.l) (.g q2 .nil)))))
end Go.Proofs.YtfhiggfmkjmeiaaGreat
