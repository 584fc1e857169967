import Derived.Test.YtfhiggfmkjmeiaaGreatFInt
import Derived.Test.YtfhiggfmkjmeiaaGreatFCpl
set_option linter.all false
namespace Go.Proofs.YtfhiggfmkjmeiaaGreat
open Go Go.RowKit
set_option maxRecDepth 100000
structure RgOk (s:RgS):Prop where
 len:s.l.length=256
 at0:0<=s.at'/\s.at' < 256
 n0:0<=s.n/\s.n<=256
theorem RgOk.ne {s:RgS} (h:RgOk s):(s.l.length:Int) ≠ 0:=by have:=h.len; omega
def Avu (a b:Ak):Bool:=decide (a.kind=b.kind) && (decide (a.which=b.which) && true)
def Be (s:RgS) (i:Int):Int:=(IntKind.i64.wrap (s.at' + i)).tmod (s.l.length:Int)
theorem A17 (s:RgS) (i:Int) (ok:RgOk s):Sp P 269 [.pt 0 0,vi i] (ros (Md s 0)) (vi (Be s i)) (ros (Md s 0)) :=
 so Tryz.f269 3 [.id 0,.id 1] (.p 16 (Qu (IntKind.i64.wrap (s.at' + i)) (s.l.length:Int) (ok.ne)) .nil)
theorem Ut {s:RgS} (h:RgOk s) {i:Int} (hi:0<=i/\i<=256):0<=Be s i/\Be s i < (s.l.length:Int):=by
 have:=h.at0; have:=h.len
 have e:IntKind.i64.wrap (s.at' + i)=s.at' + i:=Qk ⟨by omega,by omega⟩
 unfold Be
 rw [e,this,Int.tmod_eq_emod_of_nonneg (by omega)]
 omega
def S7 (s:RgS) (x:Ak):RgS:=bif decide (s.n=(s.l.length:Int)) then s else (⟨s.l.set (Be s s.n).toNat x,s.at',IntKind.i64.wrap (s.n + 1)⟩:RgS)
def Uu (s:RgS) (x:Ak):Nat:=bif decide (s.n=(s.l.length:Int)) then 14 else 0
theorem B0y (s:RgS) (x:Ak) (ok:RgOk s):Sp P 345 [.pt 0 0,.ag [vi x.kind,vi x.which]] (Md s 0) (vn (Uu s x)) (Md (S7 s x) 0):=by
 have hp:=Ut ok (i:=s.n) ok.n0
 generalize d0:S7 s x=yd0
 unfold S7 at d0
 generalize d1:Uu s x=yd1
 unfold Uu at d1
 rcases bft (decide (s.n=(s.l.length:Int))) with q1 | q1
 ·rw [A2 q1] at d0 d1
  subst d0 d1
  exact so Tryz.f345 3 [.id 0,.id 1] (.t q1 .nil)
 ·rw [A1 q1] at d0 d1
  have q1':=ofq q1
  subst d0 d1
  exact so Tryz.f345 5 [.id 0,.id 1] (.t q1 (.c [.id 0,.id 1] (A17 s s.n (by first | assumption | omega)) (.ix (n:=(Be s s.n)) (i:=(Be s s.n).toNat) (m:=s.l.length) (e:=(by omega)) (by omega) (.sw (e:=eAk) (l:=s.l) (i:=(Be s s.n).toNat) (a:=x) (by omega) .nil))))
def Hh (s:RgS) (x:Ak):Nat:=ff (fun i=>Avu x (s.l.getD (Be s (i:Int)).toNat Tv)) s.n.toNat
theorem Aj2 {s:RgS} {x:Ak} (h:((Hh s x:Nat):Int) < s.n):Avu x (s.l.getD (Be s (((Hh s x):Nat):Int)).toNat Tv)=true:=U0 (p:=fun i=>Avu x (s.l.getD (Be s (i:Int)).toNat Tv)) (n:=s.n.toNat) (show Hh s x < s.n.toNat by omega)
theorem B0r (s:RgS) :Sp P 213 [.pt 0 0] (ros (Md s 0)) (.fn (.func 268) [] [.pt 2 0]) (ros (Md s 0) ++ [.blk [.pt 0 0] 179]) :=
 so Tryz.f213 3 [.id 0,.id 1,.id 3] .nil
def Ph (s:RgS) (x:Ak):Bool:=bif decide ((((Hh s x):Nat):Int) < s.n) then true else false
theorem B0v (s:RgS) (x:Ak) (ok:RgOk s):Sp P 344 [.pt 0 0,.ag [vi x.kind,vi x.which]] (ros (Md s 0)) (vt (Ph s x)) (ros (Md s 0)):=by
 have hn:=ok.n0
 have hw:Hh s x<=s.n.toNat:=Qd _ _
 have hp:∀ i:Nat,i < s.n.toNat->0<=Be s (i:Int)/\Be s (i:Int) < (s.l.length:Int):=fun i hi=>Ut ok (by omega)
 have gd1:∀ (i:Nat) (hi:i < (Hh s x)),Good P _ _:=fun i hi=>(.t (sQT ((i:Int) < s.n) (by omega)) (.c [.id 0,.id 1] (A17 s (i:Int) (by first | assumption | omega)) (.ix (n:=(Be s (i:Int))) (i:=(Be s (i:Int)).toNat) (m:=s.l.length) (e:=(by have:=hp i (by omega); omega)) (by have:=hp i (by omega); omega) (.el (e:=eAk) (gDx (l:=s.l) (i:=(Be s (i:Int)).toNat) Tv (by have:=hp i (by omega); omega)) (.t (show ((decide (x.kind=(s.l.getD (Be s (i:Int)).toNat Tv).kind)) && ((decide (x.which=(s.l.getD (Be s (i:Int)).toNat Tv).which)) && true))=false from Qe hi) (.n (.e 24 (Ck (a:=(i:Int)) (b:=1) (c:=((i + 1:Nat):Int)) (by have:=hp i (by omega); omega)) .nil)))))))
 generalize d0:Ph s x=yd0
 unfold Ph at d0
 rcases bft (decide ((((Hh s x):Nat):Int) < s.n)) with q1 | q1
 ·rw [A2 q1] at d0
  have q1':=otq q1
  subst d0
  exact so Tryz.f344 9 [.id 0,.id 1] (.c [.id 0,.id 1] (B0r s) (.lp (Hh s x) 8 [] [] (fun i=>[(8,vn i)]) (fun i=>[(6,.lo .ready none)]) gd1 (.t q1 (.c [.id 0,.id 1] (A17 s (((Hh s x):Nat):Int) (by first | assumption | omega)) (.ix (n:=(Be s (((Hh s x):Nat):Int))) (i:=(Be s (((Hh s x):Nat):Int)).toNat) (m:=s.l.length) (e:=(by have:=hp (Hh s x) (by have:=otq q1; omega); omega)) (by have:=hp (Hh s x) (by have:=otq q1; omega); omega) (.el (e:=eAk) (gDx (l:=s.l) (i:=(Be s (((Hh s x):Nat):Int)).toNat) Tv (by have:=hp (Hh s x) (by have:=otq q1; omega); omega)) (.t (show ((decide (x.kind=(s.l.getD (Be s (((Hh s x):Nat):Int)).toNat Tv).kind)) && ((decide (x.which=(s.l.getD (Be s (((Hh s x):Nat):Int)).toNat Tv).which)) && true))=true from Aj2 (otq q1)) (.y .nil))))))))
 ·rw [A1 q1] at d0
  have q1':=ofq q1
  subst d0
  exact so Tryz.f344 9 [.id 0,.id 1] (.c [.id 0,.id 1] (B0r s) (.lp (Hh s x) 8 [] [] (fun i=>[(8,vn i)]) (fun i=>[(6,.lo .ready none)]) gd1 (.t q1 .nil)))
def S5 (s:RgS) (x:Ak):RgS:=bif (Ph s x) then s else (S7 s x)
def R2 (s:RgS) (x:Ak):Nat:=bif (Ph s x) then 15 else (Uu s x)
theorem Avf (s:RgS) (x:Ak) (ok:RgOk s):Sp P 321 [.pt 0 0,.ag [vi x.kind,vi x.which]] (Md s 0) (vn (R2 s x)) (Md (S5 s x) 0):=by
 generalize d0:S5 s x=yd0
 unfold S5 at d0
 generalize d1:R2 s x=yd1
 unfold R2 at d1
 rcases bft (Ph s x) with q1 | q1
 ·rw [A2 q1] at d0 d1
  subst d0 d1
  exact so Tryz.f321 3 [.id 0,.id 1] (.c [.id 0,.id 1] (B0v s x (by first | assumption | omega)) (.t q1 .nil))
 ·rw [A1 q1] at d0 d1
  subst d0 d1
  exact so Tryz.f321 3 [.id 0,.id 1] (.c [.id 0,.id 1] (B0v s x (by first | assumption | omega)) (.t q1 (.c [.id 0,.id 1] (B0y s x (by first | assumption | omega)) .nil)))
def B2 (s:RgS):RgS:=bif decide (s.n<=0) then s else (⟨(s.l.set s.at'.toNat (⟨0,0⟩:Ak)),(Be { s with l:=s.l.set s.at'.toNat (⟨0,0⟩:Ak) } 1),IntKind.i64.wrap (s.n - 1)⟩:RgS)
def Ce (s:RgS):Int:=bif decide (s.n<=0) then 0 else (s.l.getD (Be s 0).toNat Tv).kind
def Cf (s:RgS):Int:=bif decide (s.n<=0) then 0 else (s.l.getD (Be s 0).toNat Tv).which
def Fq (s:RgS):Nat:=bif decide (s.n<=0) then 13 else 0
theorem Ato (s:RgS) (ok:RgOk s):Sp P 346 [.pt 0 0,vn 0] (Md s 0) (.tu [.ag [vi (Ce s),vi (Cf s)],vn (Fq s)]) (Md (B2 s) 0):=by
 have h0:=Ut ok (i:=0) (by decide)
 have h1:=ok.at0
 have h2:=ok.len
 generalize d0:B2 s=yd0
 unfold B2 at d0
 generalize d1:Ce s=yd1
 unfold Ce at d1
 generalize d2:Cf s=yd2
 unfold Cf at d2
 generalize d3:Fq s=yd3
 unfold Fq at d3
 rcases bft (decide (s.n<=0)) with q1 | q1
 ·rw [A2 q1] at d0 d1 d2 d3
  subst d0 d1 d2 d3
  exact so Tryz.f346 4 [.id 0,.id 1] (.n4 (.n2 (.n (.t q1 .nil))))
 ·rw [A1 q1] at d0 d1 d2 d3
  have q1':=ofq q1
  subst d0 d1 d2 d3
  exact so Tryz.f346 8 [.id 0,.id 1] (.n4 (.n2 (.n (.t q1 (.c [.id 0,.id 1] (A17 s 0 (by first | assumption | omega)) (.ix (n:=(Be s 0)) (i:=(Be s 0).toNat) (m:=s.l.length) (e:=(by omega)) (by omega) (.el (e:=eAk) (gDx (l:=s.l) (i:=(Be s 0).toNat) Tv (by omega)) (.lu 0 (.n (.ix (n:=s.at') (i:=s.at'.toNat) (m:=s.l.length) (e:=(by omega)) (by omega) (.sw (e:=eAk) (l:=s.l) (i:=s.at'.toNat) (a:=(⟨0,0⟩:Ak)) (by omega) (.c [.id 0,.id 1] (A17 { s with l:=s.l.set s.at'.toNat (⟨0,0⟩:Ak) } 1 (⟨by simp only [List.length_set]; exact ok.len,ok.at0,ok.n0⟩)) .nil))))))))))))
theorem B0x (s:RgS) (ok:RgOk s):Sp P 326 [.pt 0 0] (Md s 0) (.tu [.ag [vi (Ce s),vi (Cf s)],vn (Fq s)]) (Md (B2 s) 0) :=
 so Tryz.f326 3 [.id 0,.id 1] (.c [.id 0,.id 1] (Ato s (by first | assumption | omega)) .nil)
theorem Aox {s:RgS} {x:Ak} (h:RgOk s):RgOk (S7 s x):=by
 obtain ⟨h1,h2,h3⟩:=h
 unfold S7
 cases q:decide (s.n=(s.l.length:Int))
 ·have q':=ofq q
  refine ⟨by show (List.set _ _ _).length=256; rw [List.length_set]; exact h1,h2,?_⟩
  show 0<=IntKind.i64.wrap (s.n + 1)/\IntKind.i64.wrap (s.n + 1)<=256
  rw [show IntKind.i64.wrap (s.n + 1)=s.n + 1 from Qk ⟨by omega,by omega⟩]; omega
 ·exact ⟨h1,h2,h3⟩
theorem Pi {s:RgS} (h:RgOk s):RgOk (B2 s):=by
 obtain ⟨h1,h2,h3⟩:=h
 unfold B2
 cases q:decide (s.n<=0)
 ·have q':=ofq q
  have hl:(s.l.set s.at'.toNat (⟨0,0⟩:Ak)).length=256:=by rw [List.length_set]; exact h1
  have:=Ut (s:={ s with l:=s.l.set s.at'.toNat (⟨0,0⟩:Ak) }) ⟨hl,h2,h3⟩ (i:=1) (by decide)
  refine ⟨hl,⟨this.1,?_⟩,?_⟩
  ·have:=this.2; rw [hl] at this; exact this
  ·show 0<=IntKind.i64.wrap (s.n - 1)/\IntKind.i64.wrap (s.n - 1)<=256
   rw [show IntKind.i64.wrap (s.n - 1)=s.n - 1 from Qk ⟨by omega,by omega⟩]; omega
 ·exact ⟨h1,h2,h3⟩
theorem A9u {s:RgS} {x:Ak} (h:RgOk s):RgOk (S5 s x):=by
 unfold S5; cases Ph s x
 ·exact Aox h
 ·exact h
structure RepOk (s:RepS):Prop where
 m:MapOk s.m
 q:RgOk s.q
 g:0<=s.j.goal/\s.j.goal<=1048576
theorem Agf (s:RepS) :Sp P 22 [.pt 0 0] (ros (Kp s 0)) (.pt 1 0) (ros (Kp s 0)) :=
 so Tryz.f22 3 (ir 0 7) .nil
theorem A3m (s:RepS) :Sp P 20 [.pt 0 0] (ros (Kp s 0)) (.ag [vi s.j.kind,vi s.j.src,vi s.j.goal,vi s.j.next]) (ros (Kp s 0)) :=
 so Tryz.f20 3 (ir 0 7) .nil
theorem Agg (s:RepS) (n:Int) (ok:RepOk s):Sp P 35 [.pt 0 0,vi n] (ros (Kp s 0)) (.tu [vi (I9 s.j s.m n),vi (Gl s.m n),vi (Da s.m n),vi (Ei s.j s.m n)]) (ros (Kp s 0)) :=
 so Tryz.f35 3 (ir 0 7) (.c (ir 1 4) (Axu s.j s.m n ok.m) .nil)
theorem Lb (s:RepS) :Sp P 200 [.pt 0 0] (ros (Kp s 0)) (vt (!(decide (s.j.kind=0)))) (ros (Kp s 0)) :=
 so Tryz.f200 3 (ir 0 7) .nil
def D3 (s:RepS) (a:Ak):Bool:=bif decide (a.kind=1) then (bif decide (a.which < 0) then true else (bif decide ((A9 s.m.l.g)<=a.which) then true else (bif (Hy s.m a.which) then true else (bif (C5 s.m) then (bif decide ((Ci s.m)<=a.which) then true else (bif decide (s.j.kind=a.kind) then (decide (s.j.src=a.which)) else false)) else (bif decide (s.j.kind=a.kind) then (decide (s.j.src=a.which)) else false))))) else (bif decide (a.kind=2) then (bif (Cr s.m a.which) then true else (bif decide (a.which < 0) then true else (bif decide (s.m.l.g.ranks<=a.which) then true else (bif decide (s.j.kind=a.kind) then (decide (s.j.src=a.which)) else false)))) else true)
theorem A16 (s : RepS) (a : Ak)  : Sp P 319 [.pt 0 0, .ag [vi a.kind, vi a.which]] (ros (Kp s 0)) (vt (D3 s a)) (ros (Kp s 0)) := by
 generalize d0:D3 s a=yd0
 unfold D3 at d0
 rcases bft (decide (a.kind=1)) with q1 | q1
 ·rw [A2 q1] at d0
  rcases bft (decide (a.which < 0)) with q2 | q2
  ·rw [A2 q2] at d0
   subst d0
   exact so Tryz.f319 4 (ir 0 7) (.c (ir 1 4) (B5 s.m) (.t q1 (.c (ir 1 4) (Hc s.m) (.t4 q2 (.t2 q2 (.y4 (.y4 (.y4 (.y .nil)))))))))
  ·rw [A1 q2] at d0
   rcases bft (decide ((A9 s.m.l.g)<=a.which)) with q3 | q3
   ·rw [A2 q3] at d0
    subst d0
    exact so Tryz.f319 5 (ir 0 7) (.c (ir 1 4) (B5 s.m) (.t q1 (.c (ir 1 4) (Hc s.m) (.t4 q2 (.c [] (Fu s.m.l.g) (.t2 q2 (.t4 q3 (.t4 q3 (.y4 (.y .nil))))))))))
   ·rw [A1 q3] at d0
    rcases bft (Hy s.m a.which) with q4 | q4
    ·rw [A2 q4] at d0
     subst d0
     exact so Tryz.f319 6 (ir 0 7) (.c (ir 1 4) (B5 s.m) (.t q1 (.c (ir 1 4) (Hc s.m) (.t4 q2 (.c [] (Fu s.m.l.g) (.t2 q2 (.t4 q3 (.t2 q3 (.t q3 (.c (ir 1 4) (Uf s.m a.which) (.t q3 (.t4 q4 (.y .nil)))))))))))))
    ·rw [A1 q4] at d0
     rcases bft (C5 s.m) with q5 | q5
     ·rw [A2 q5] at d0
      rcases bft (decide ((Ci s.m)<=a.which)) with q6 | q6
      ·rw [A2 q6] at d0
       subst d0
       exact so Tryz.f319 6 (ir 0 7) (.c (ir 1 4) (B5 s.m) (.t q1 (.c (ir 1 4) (Hc s.m) (.t4 q2 (.c [] (Fu s.m.l.g) (.t2 q2 (.t4 q3 (.t2 q3 (.t q3 (.c (ir 1 4) (Uf s.m a.which) (.t q3 (.t2 q4 (.t4 q5 (.t q4 (.t q5 (.t q4 (.t q6 .nil)))))))))))))))))
      ·rw [A1 q6] at d0
       rcases bft (decide (s.j.kind=a.kind)) with q7 | q7
       ·rw [A2 q7] at d0
        subst d0
        exact so Tryz.f319 6 (ir 0 7) (.c (ir 1 4) (B5 s.m) (.t q1 (.c (ir 1 4) (Hc s.m) (.t4 q2 (.c [] (Fu s.m.l.g) (.t2 q2 (.t4 q3 (.t2 q3 (.t q3 (.c (ir 1 4) (Uf s.m a.which) (.t q3 (.t2 q4 (.t4 q5 (.t q4 (.t q5 (.t q4 (.t q6 (.t4 q7 (.t4 q7 (.t q7 .nil))))))))))))))))))))
       ·rw [A1 q7] at d0
        subst d0
        exact so Tryz.f319 6 (ir 0 7) (.c (ir 1 4) (B5 s.m) (.t q1 (.c (ir 1 4) (Hc s.m) (.t4 q2 (.c [] (Fu s.m.l.g) (.t2 q2 (.t4 q3 (.t2 q3 (.t q3 (.c (ir 1 4) (Uf s.m a.which) (.t q3 (.t2 q4 (.t4 q5 (.t q4 (.t q5 (.t q4 (.t q6 (.t4 q7 (.t4 q7 (.t q7 .nil))))))))))))))))))))
     ·rw [A1 q5] at d0
      rcases bft (decide (s.j.kind=a.kind)) with q6 | q6
      ·rw [A2 q6] at d0
       subst d0
       exact so Tryz.f319 6 (ir 0 7) (.c (ir 1 4) (B5 s.m) (.t q1 (.c (ir 1 4) (Hc s.m) (.t4 q2 (.c [] (Fu s.m.l.g) (.t2 q2 (.t4 q3 (.t2 q3 (.t q3 (.c (ir 1 4) (Uf s.m a.which) (.t q3 (.t2 q4 (.t4 q5 (.t q4 (.t q5 (.t q4 (.n (.t4 q6 (.t4 q6 (.t q6 .nil))))))))))))))))))))
      ·rw [A1 q6] at d0
       subst d0
       exact so Tryz.f319 6 (ir 0 7) (.c (ir 1 4) (B5 s.m) (.t q1 (.c (ir 1 4) (Hc s.m) (.t4 q2 (.c [] (Fu s.m.l.g) (.t2 q2 (.t4 q3 (.t2 q3 (.t q3 (.c (ir 1 4) (Uf s.m a.which) (.t q3 (.t2 q4 (.t4 q5 (.t q4 (.t q5 (.t q4 (.n (.t4 q6 (.t4 q6 (.t q6 .nil))))))))))))))))))))
 ·rw [A1 q1] at d0
  rcases bft (decide (a.kind=2)) with q2 | q2
  ·rw [A2 q2] at d0
   rcases bft (Cr s.m a.which) with q3 | q3
   ·rw [A2 q3] at d0
    subst d0
    exact so Tryz.f319 5 (ir 0 7) (.c (ir 1 4) (B5 s.m) (.t q1 (.t q2 (.c (ir 1 4) (Ns s.m a.which) (.t4 q3 (.y4 (.y2 (.y .nil))))))))
   ·rw [A1 q3] at d0
    rcases bft (decide (a.which < 0)) with q4 | q4
    ·rw [A2 q4] at d0
     subst d0
     exact so Tryz.f319 5 (ir 0 7) (.c (ir 1 4) (B5 s.m) (.t q1 (.t q2 (.c (ir 1 4) (Ns s.m a.which) (.t4 q3 (.t4 q4 (.t2 q4 (.y .nil))))))))
    ·rw [A1 q4] at d0
     rcases bft (decide (s.m.l.g.ranks<=a.which)) with q5 | q5
     ·rw [A2 q5] at d0
      subst d0
      exact so Tryz.f319 5 (ir 0 7) (.c (ir 1 4) (B5 s.m) (.t q1 (.t q2 (.c (ir 1 4) (Ns s.m a.which) (.t4 q3 (.t4 q4 (.t2 q4 (.t q5 .nil))))))))
     ·rw [A1 q5] at d0
      rcases bft (decide (s.j.kind=a.kind)) with q6 | q6
      ·rw [A2 q6] at d0
       subst d0
       exact so Tryz.f319 5 (ir 0 7) (.c (ir 1 4) (B5 s.m) (.t q1 (.t q2 (.c (ir 1 4) (Ns s.m a.which) (.t4 q3 (.t4 q4 (.t2 q4 (.t q5 (.t4 q6 (.t4 q6 (.t q6 .nil)))))))))))
      ·rw [A1 q6] at d0
       subst d0
       exact so Tryz.f319 5 (ir 0 7) (.c (ir 1 4) (B5 s.m) (.t q1 (.t q2 (.c (ir 1 4) (Ns s.m a.which) (.t4 q3 (.t4 q4 (.t2 q4 (.t q5 (.t4 q6 (.t4 q6 (.t q6 .nil)))))))))))
  ·rw [A1 q2] at d0
   subst d0
   exact so Tryz.f319 4 (ir 0 7) (.c (ir 1 4) (B5 s.m) (.t q1 (.t q2 .nil)))
def S9 (a:Ak):List Ev:=[(⟨5,a.which,IntKind.i64.wrap (a.kind - 1)⟩:Ev)]
theorem Apd (a:Ak) :Sp P 322 [.ag [vi a.kind,vi a.which]] [] (.sl 0) [.row eEv (S9 a)] :=
 so Tryz.f322 4 [.id 2] (.bs 9 (e:=eEv) [(⟨5,a.which,IntKind.i64.wrap (a.kind - 1)⟩:Ev)] .nil)
def B1 (s:RepS) (a:Ak):RepS:=bif decide (a.kind=2) then (bif decide ((((F9 s.m):Nat):Int)=0) then (⟨(Cj s.m),(⟨a.kind,a.which,D5 s.m,0⟩:Jb),s.q⟩:RepS) else { s with m:=(Cj s.m) }) else (bif decide ((((G7 s.m):Nat):Int)=0) then (⟨(Cy s.m),(⟨a.kind,a.which,Di s.m,0⟩:Jb),s.q⟩:RepS) else { s with m:=(Cy s.m) })
def Hd (s:RepS) (a:Ak):List Ev:=bif decide (a.kind=2) then (bif decide ((((F9 s.m):Nat):Int)=0) then [(⟨4,a.which,D5 s.m⟩:Ev)] else (S9 a)) else (bif decide ((((G7 s.m):Nat):Int)=0) then [(⟨3,a.which,Di s.m⟩:Ev)] else (S9 a))
theorem Agh (s:RepS) (a:Ak) :Sp P 320 [.pt 0 0,.ag [vi a.kind,vi a.which]] (Kp s 0) (.sl 7) (Kp (B1 s a) 0 ++ [.row eEv (Hd s a)]):=by
 generalize d0:B1 s a=yd0
 unfold B1 at d0
 generalize d1:Hd s a=yd1
 unfold Hd at d1
 rcases bft (decide (a.kind=2)) with q1 | q1
 ·rw [A2 q1] at d0 d1
  rcases bft (decide ((((F9 s.m):Nat):Int)=0)) with q2 | q2
  ·rw [A2 q2] at d0 d1
   subst d0 d1
   exact so Tryz.f320 4 (ir 0 7 ++ .id 9 :: []) (.t q1 (.c (ir 1 4) (A0a s.m) (.g q2 (.bs 45 (e:=eEv) [(⟨4,a.which,D5 s.m⟩:Ev)] .nil))))
  ·rw [A1 q2] at d0 d1
   subst d0 d1
   exact so Tryz.f320 4 (ir 0 7 ++ .id 9 :: []) (.t q1 (.c (ir 1 4) (A0a s.m) (.g q2 (.c [] (Apd a) .nil))))
 ·rw [A1 q1] at d0 d1
  rcases bft (decide ((((G7 s.m):Nat):Int)=0)) with q2 | q2
  ·rw [A2 q2] at d0 d1
   subst d0 d1
   exact so Tryz.f320 4 (ir 0 7 ++ .id 9 :: []) (.t q1 (.c (ir 1 4) (A3c s.m) (.g q2 (.bs 45 (e:=eEv) [(⟨3,a.which,Di s.m⟩:Ev)] .nil))))
  ·rw [A1 q2] at d0 d1
   subst d0 d1
   exact so Tryz.f320 4 (ir 0 7 ++ .id 9 :: []) (.t q1 (.c (ir 1 4) (A3c s.m) (.g q2 (.c [] (Apd a) .nil))))
theorem A9c {s:MapS} (h:MapOk s):0<=Ci s/\Ci s<=1048576:=by
 obtain ⟨h1,h2,h3,h4,h5,h6⟩:=h
 have:=C0 h1
 unfold Ci
 cases decide (s.pages=s.l.res)
 ·show 0<=IntKind.i64.wrap (A0 s.l + s.pages)/\_
  rw [cond_false,D1 (by omega) (by omega)]; omega
 ·exact ⟨Int.le_refl _,show (0:Int)<=1048576 by decide⟩
theorem A5x {s:MapS} (h:MapOk s):0<=Dg s/\Dg s<=1048576:=by
 obtain ⟨h1,h2,h3,h4,h5,h6⟩:=h
 have:=Gm.rt (C0 h1).1
 unfold Dg
 cases decide (s.rks=s.l.g.spares)
 ·show 0<=IntKind.i64.wrap (s.l.g.ranks + s.rks)/\_
  rw [cond_false,D1 (by omega) (by omega)]; omega
 ·exact ⟨Int.le_refl _,show (0:Int)<=1048576 by decide⟩
theorem A9h {s:MapS} (h:MapOk s):0<=Di s/\Di s<=1048576:=by
 unfold Di; cases C5 s
 ·exact ⟨Int.le_refl _,show (0:Int)<=1048576 by decide⟩
 ·exact A9c h
theorem A60 {s:MapS} (h:MapOk s):0<=D5 s/\D5 s<=1048576:=by
 unfold D5; cases Co s
 ·exact ⟨Int.le_refl _,show (0:Int)<=1048576 by decide⟩
 ·exact A5x h
theorem T9 {s:RepS} {a:Ak} (h:RepOk s):RepOk (B1 s a):=by
 obtain ⟨h1,h2,h3⟩:=h
 unfold B1
 simp only [Bool.cond_eq_ite]
 repeat (first | exact ⟨Sl h1,h2,A60 h1⟩ | exact ⟨Ug h1,h2,A9h h1⟩ | exact ⟨Sl h1,h2,h3⟩ | exact ⟨Ug h1,h2,h3⟩ | split)
theorem R3 (s:RepS) (a:Ak):(Hd s a).length=1:=by
 unfold Hd S9
 simp only [Bool.cond_eq_ite]
 repeat (first | rfl | split)
def Bf (s:RepS) (a:Ak):RepS:=bif (D3 s a) then s else (bif decide (s.j.kind=0) then (B1 s a) else { s with q:=(S5 s.q a) })
def Bx (s:RepS) (a:Ak):List Ev:=bif (D3 s a) then [] else (bif decide (s.j.kind=0) then (Hd s a) else (bif decide ((((R2 s.q a):Nat):Int)=14) then (S9 a) else []))
theorem Age (s:RepS) (a:Ak) (ok:RepOk s):Sp P 297 [.pt 0 0,.ag [vi a.kind,vi a.which]] (Kp s 0) (.sl 7) (Kp (Bf s a) 0 ++ [.row eEv (Bx s a)]):=by
 generalize d0:Bf s a=yd0
 unfold Bf at d0
 generalize d1:Bx s a=yd1
 unfold Bx at d1
 rcases bft (D3 s a) with q1 | q1
 ·rw [A2 q1] at d0 d1
  subst d0 d1
  exact so Tryz.f297 3 (ir 0 7 ++ .nil :: []) (.c (ir 0 7) (A16 s a) (.t q1 .nil))
 ·rw [A1 q1] at d0 d1
  rcases bft (decide (s.j.kind=0)) with q2 | q2
  ·rw [A2 q2] at d0 d1
   subst d0 d1
   exact so Tryz.f297 4 (ir 0 7 ++ .id 9 :: []) (.c (ir 0 7) (A16 s a) (.t q1 (.c (ir 0 7) (Lb s) (.t (congrArg (!·) (congrArg (!·) q2)) (.c (ir 0 7) (Agh s a) .nil)))))
  ·rw [A1 q2] at d0 d1
   rcases bft (decide ((((R2 s.q a):Nat):Int)=14)) with q3 | q3
   ·rw [A2 q3] at d1
    subst d0 d1
    exact so Tryz.f297 5 (ir 0 7 ++ .id 10 :: []) (.c (ir 0 7) (A16 s a) (.t q1 (.c (ir 0 7) (Lb s) (.t (congrArg (!·) (congrArg (!·) q2)) (.c [.id 5,.id 6] (Avf s.q a ok.q) (.t q3 (.c [] (Apd a) .nil)))))))
   ·rw [A1 q3] at d1
    subst d0 d1
    exact so Tryz.f297 4 (ir 0 7 ++ .nil :: []) (.c (ir 0 7) (A16 s a) (.t q1 (.c (ir 0 7) (Lb s) (.t (congrArg (!·) (congrArg (!·) q2)) (.c [.id 5,.id 6] (Avf s.q a ok.q) (.t q3 .nil))))))
def Vz (x:RepS × List Ev):RepS × List Ev :=
 (bif D3 ({ x.1 with q:=B2 x.1.q }) ((⟨Ce x.1.q,Cf x.1.q⟩:Ak)) then { x.1 with q:=B2 x.1.q } else B1 ({ x.1 with q:=B2 x.1.q }) ((⟨Ce x.1.q,Cf x.1.q⟩:Ak)),
  bif D3 ({ x.1 with q:=B2 x.1.q }) ((⟨Ce x.1.q,Cf x.1.q⟩:Ak)) then x.2 else x.2 ++ Hd ({ x.1 with q:=B2 x.1.q }) ((⟨Ce x.1.q,Cf x.1.q⟩:Ak)))
def Pt (x:RepS × List Ev):Bool:=(decide (x.1.j.kind=0)) && decide (((Fq x.1.q:Nat):Int)=0)
def F7 (s:RepS):RepS:=bif decide (s.j.kind=1) then { s with m:=Fh s.m s.j.src s.j.goal,j:=⟨0,0,0,0⟩ } else { s with m:=Dx s.m s.j.src s.j.goal,j:=⟨0,0,0,0⟩ }
def Azu (s:RepS):RepS × List Ev:=(F7 s,[⟨6,s.j.src,s.j.goal⟩])
def Alv (n:Nat) (x:RepS × List Ev):Prop:=RepOk x.1/\x.2.length + x.1.q.n.toNat<=n
theorem A56 {n:Nat} {x:RepS × List Ev} (h:Alv n x) (hg:Pt x=true):Alv n (Vz x):=by
 obtain ⟨h1,h2⟩:=h
 unfold Pt at hg
 simp only [bq,decide_eq_true_eq] at hg
 have hn:¬ x.1.q.n<=0:=fun hn=>by
  have:=hg.2
  unfold Fq at this
  rw [tq hn] at this
  exact absurd this (by decide)
 have hs:RepOk { x.1 with q:=B2 x.1.q }:=⟨h1.m,Pi h1.q,h1.g⟩
 have hq:(B2 x.1.q).n=x.1.q.n - 1:=by
  have:=h1.q.n0
  unfold B2
  rw [fq hn]
  exact Qk ⟨by omega,by omega⟩
 have hq2:∀ a,(B1 { x.1 with q:=B2 x.1.q } a).q=B2 x.1.q:=fun a=>by
  unfold B1
  simp only [Bool.cond_eq_ite]
  repeat (first | rfl | split)
 unfold Vz Alv
 cases D3 { x.1 with q:=B2 x.1.q } ⟨Ce x.1.q,Cf x.1.q⟩
 ·refine ⟨T9 hs,?_⟩
  show (x.2 ++ Hd _ _).length + (B1 _ _).q.n.toNat<=n
  rw [List.length_append,R3,hq2,hq]; omega
 ·refine ⟨hs,?_⟩
  show x.2.length + (B2 x.1.q).n.toNat<=n
  rw [hq]; omega
theorem Ax8 {x:RepS × List Ev} (h:RepOk x.1) (hg:Pt x=true):(Vz x).1.q.n.toNat < x.1.q.n.toNat:=by
 have h2:=(A56 (n:=x.2.length + x.1.q.n.toNat) ⟨h,Nat.le_refl _⟩ hg)
 unfold Pt at hg
 simp only [bq,decide_eq_true_eq] at hg
 have hn:¬ x.1.q.n<=0:=fun hn=>by
  have:=hg.2
  unfold Fq at this
  rw [tq hn] at this
  exact absurd this (by decide)
 have hq:(B2 x.1.q).n=x.1.q.n - 1:=by
  have:=h.q.n0
  unfold B2
  rw [fq hn]
  exact Qk ⟨by omega,by omega⟩
 have hq2:∀ a,(B1 { x.1 with q:=B2 x.1.q } a).q=B2 x.1.q:=fun a=>by
  unfold B1
  simp only [Bool.cond_eq_ite]
  repeat (first | rfl | split)
 unfold Vz
 cases D3 { x.1 with q:=B2 x.1.q } ⟨Ce x.1.q,Cf x.1.q⟩
 ·show (B1 _ _).q.n.toNat < _
  rw [hq2,hq]; omega
 ·show (B2 x.1.q).n.toNat < _
  rw [hq]; omega
theorem A55 {s:RepS} (h:RepOk s):RepOk (F7 s):=by
 unfold F7
 cases decide (s.j.kind=1)
 ·exact ⟨A9f h.m,h.q,⟨Int.le_refl _,show (0:Int)<=1048576 by decide⟩⟩
 ·exact ⟨Acl h.m,h.q,⟨Int.le_refl _,show (0:Int)<=1048576 by decide⟩⟩
def L8 (s:RepS):Nat:=cnt Pt Vz 256 (Azu s)
def Cu (s:RepS) (i:Nat):RepS × List Ev:=A5j Vz (Azu s) i
theorem Y2 {s:RepS} (h:RepOk s) {i:Nat} (hi:i<=L8 s):Alv 257 (Cu s i) :=
 A8q (go:=Pt) (k:=256) (p:=Alv 257) (fun x hx hg=>A56 hx hg) ⟨A55 h,by
  have:=h.q.n0
  have e:(F7 s).q=s.q:=by unfold F7; cases decide (s.j.kind=1) <;> rfl
  show 1 + (F7 s).q.n.toNat<=257
  rw [e]; omega⟩ hi
theorem Af0 {s:RepS} {i:Nat} (hi:i < L8 s):Pt (Cu s i)=true:=Ab0 hi
theorem Alw {s:RepS} (h:RepOk s):Pt (Cu s (L8 s))=false :=
 Ae6 (p:=fun (x:RepS × List Ev)=>RepOk x.1) (fun x hx hg=>(A56 (n:=x.2.length + x.1.q.n.toNat) ⟨hx,Nat.le_refl _⟩ hg).1) (fun (x:RepS × List Ev)=>x.1.q.n.toNat) (fun x hx hg=>Ax8 hx hg) (A55 h) (by
  have:=h.q.n0
  have e:(F7 s).q=s.q:=by unfold F7; cases decide (s.j.kind=1) <;> rfl
  show (F7 s).q.n.toNat<=256
  rw [e]; omega)
theorem A87 {s:RepS} {i:Nat} (hi:i < L8 s):decide ((Cu s i).1.j.kind=0)=true/\decide (((Fq (Cu s i).1.q:Nat):Int)=0)=true:=by
 have:=Af0 hi
 unfold Pt at this
 exact Bool.and_eq_true_iff.1 this
theorem Ai8 {s:RepS} (h:RepOk s) (hb:decide ((Cu s (L8 s)).1.j.kind=0)=true):decide (((Fq (Cu s (L8 s)).1.q:Nat):Int)=0)=false:=by
 have:=Alw h
 unfold Pt at this
 rw [hb] at this
 exact this
def Cv (s:RepS):RepS:=bif decide ((Cu s (L8 s)).1.j.kind=0) then { (Cu s (L8 s)).1 with q:=(B2 (Cu s (L8 s)).1.q) } else (Cu s (L8 s)).1
theorem Aor (s:RepS) (ok:RepOk s):Sp P 302 [.pt 0 0] (Kp s 0) (.sl 7) (Kp (Cv s) 0 ++ [.row eEv (Cu s (L8 s)).2]):=by
 have gd1:∀ (i:Nat) (hi:i < (L8 s)),Good P _ _:=fun i hi=>(.c (ir 0 7) (Lb (Cu s i).1) (.t (congrArg (!·) (congrArg (!·) (show (decide ((Cu s i).1.j.kind=0))=true from (A87 hi).1))) (.c [.id 5,.id 6] (B0x (Cu s i).1.q ((Y2 ok (Nat.le_of_lt hi)).1.q)) (.t (congrArg (!·) (show (decide ((((Fq (Cu s i).1.q):Nat):Int)=0))=true from (A87 hi).2)) (.c (ir 0 7) (A16 { (Cu s i).1 with q:=(B2 (Cu s i).1.q) } (⟨Ce (Cu s i).1.q,Cf (Cu s i).1.q⟩:Ak)) (.cs 0 (D3 { (Cu s i).1 with q:=(B2 (Cu s i).1.q) } (⟨Ce (Cu s i).1.q,Cf (Cu s i).1.q⟩:Ak)) 11 [] [(9,.id 12)] (fun z=>[(4,.sl 9)]) (fun z=>nb 0 (Kp (bif z then { (Cu s i).1 with q:=(B2 (Cu s i).1.q) } else (B1 { (Cu s i).1 with q:=(B2 (Cu s i).1.q) } (⟨Ce (Cu s i).1.q,Cf (Cu s i).1.q⟩:Ak))) 0) ++ [(9,.row eEv (bif z then (Cu s i).2 else ((Cu s i).2 ++ (Hd { (Cu s i).1 with q:=(B2 (Cu s i).1.q) } (⟨Ce (Cu s i).1.q,Cf (Cu s i).1.q⟩:Ak)))))]) (fun hq1=>(.g hq1 .nil)) (fun hq1=>(.g hq1 (.c (ir 0 7) (Agh { (Cu s i).1 with q:=(B2 (Cu s i).1.q) } (⟨Ce (Cu s i).1.q,Cf (Cu s i).1.q⟩:Ak)) (.ap (e:=eEv) (l:=(Cu s i).2) (l':=(Hd { (Cu s i).1 with q:=(B2 (Cu s i).1.q) } (⟨Ce (Cu s i).1.q,Cf (Cu s i).1.q⟩:Ak))) .row .row (by have h:=(Y2 ok (Nat.le_of_lt hi)).2; have:=R3 ({ (Cu s i).1 with q:=B2 (Cu s i).1.q }) ((⟨Ce (Cu s i).1.q,Cf (Cu s i).1.q⟩:Ak)); omega) .nil)))) .nil))))))
 generalize d0:Cv s=yd0
 unfold Cv at d0
 rcases bft (decide ((Cu s (L8 s)).1.j.kind=0)) with q1 | q1
 ·rw [A2 q1] at d0
  have q1':=otq q1
  subst d0
  exact so Tryz.f302 7 (ir 0 7 ++ .id 9 :: []) (.cs 0 (decide (s.j.kind=1)) 9 [] [] (fun z=>[]) (fun z=>nb 0 (Kp (bif z then (⟨(Fh s.m s.j.src s.j.goal),(⟨0,0,0,0⟩:Jb),s.q⟩:RepS) else (⟨(Dx s.m s.j.src s.j.goal),(⟨0,0,0,0⟩:Jb),s.q⟩:RepS)) 0)) (fun hq1=>(.t hq1 (.c (ir 1 4) (Afw s.m s.j.src s.j.goal ok.m ok.g) .nil))) (fun hq1=>(.t hq1 (.c (ir 1 4) (A9d s.m s.j.src s.j.goal) .nil))) (.bs 41 (e:=eEv) [{ s.j with kind:=6 }] (.lp (L8 s) 10 [] [] (fun i=>[(4,.sl 9),(41,.z)]) (fun i=>nb 0 (Kp (Cu s i).1 0) ++ [(9,.row eEv (Cu s i).2)]) gd1 (.c (ir 0 7) (Lb (Cu s (L8 s)).1) (.t (congrArg (!·) (congrArg (!·) q1)) (.c [.id 5,.id 6] (B0x (Cu s (L8 s)).1.q ((Y2 ok (Nat.le_refl _)).1.q)) (.t (congrArg (!·) (show (decide ((((Fq (Cu s (L8 s)).1.q):Nat):Int)=0))=false from Ai8 ok q1)) .nil)))))))
 ·rw [A1 q1] at d0
  have q1':=ofq q1
  subst d0
  exact so Tryz.f302 7 (ir 0 7 ++ .id 9 :: []) (.cs 0 (decide (s.j.kind=1)) 9 [] [] (fun z=>[]) (fun z=>nb 0 (Kp (bif z then (⟨(Fh s.m s.j.src s.j.goal),(⟨0,0,0,0⟩:Jb),s.q⟩:RepS) else (⟨(Dx s.m s.j.src s.j.goal),(⟨0,0,0,0⟩:Jb),s.q⟩:RepS)) 0)) (fun hq1=>(.t hq1 (.c (ir 1 4) (Afw s.m s.j.src s.j.goal ok.m ok.g) .nil))) (fun hq1=>(.t hq1 (.c (ir 1 4) (A9d s.m s.j.src s.j.goal) .nil))) (.bs 41 (e:=eEv) [{ s.j with kind:=6 }] (.lp (L8 s) 10 [] [] (fun i=>[(4,.sl 9),(41,.z)]) (fun i=>nb 0 (Kp (Cu s i).1 0) ++ [(9,.row eEv (Cu s i).2)]) gd1 (.c (ir 0 7) (Lb (Cu s (L8 s)).1) (.t (congrArg (!·) (congrArg (!·) q1)) .nil)))))
def Du (s:RepS):RepS:=bif decide (s.j.kind=0) then s else (bif (Fc { s.j with next:=IntKind.i64.wrap (s.j.next + 1) } s.m.l) then (Cv { s with j:={ s.j with next:=IntKind.i64.wrap (s.j.next + 1) } }) else { s with j:={ s.j with next:=IntKind.i64.wrap (s.j.next + 1) } })
def Kz (s:RepS):List Ev:=bif decide (s.j.kind=0) then [] else (bif (Fc { s.j with next:=IntKind.i64.wrap (s.j.next + 1) } s.m.l) then (Cu { s with j:={ s.j with next:=IntKind.i64.wrap (s.j.next + 1) } } (L8 { s with j:={ s.j with next:=IntKind.i64.wrap (s.j.next + 1) } })).2 else [])
def A15 (s:RepS):Int:=bif decide (s.j.kind=0) then 51 else 0
theorem Ayl (s:RepS) (ok:RepOk s):Sp P 264 [.pt 0 0] (Kp s 0) (.tu [.sl 7,vi (A15 s)]) (Kp (Du s) 0 ++ [.row eEv (Kz s)]):=by
 generalize d0:Du s=yd0
 unfold Du at d0
 generalize d1:Kz s=yd1
 unfold Kz at d1
 generalize d2:A15 s=yd2
 unfold A15 at d2
 rcases bft (decide (s.j.kind=0)) with q1 | q1
 ·rw [A2 q1] at d0 d1 d2
  subst d0 d1 d2
  exact so Tryz.f264 3 (ir 0 7 ++ .nil :: []) (.c (ir 0 7) (Lb s) (.t (congrArg (!·) (congrArg (!·) q1)) .nil))
 ·rw [A1 q1] at d0 d1 d2
  rcases bft (Fc { s.j with next:=IntKind.i64.wrap (s.j.next + 1) } s.m.l) with q2 | q2
  ·rw [A2 q2] at d0 d1
   subst d0 d1 d2
   exact so Tryz.f264 5 (ir 0 7 ++ .id 10 :: []) (.c (ir 0 7) (Lb s) (.t (congrArg (!·) (congrArg (!·) q1)) (.c (ir 1 4) (B5 s.m) (.c [] (Amr { s.j with next:=IntKind.i64.wrap (s.j.next + 1) } s.m.l) (.g q2 (.c (ir 0 7) (Aor { s with j:={ s.j with next:=IntKind.i64.wrap (s.j.next + 1) } } (⟨ok.m,ok.q,ok.g⟩)) .nil))))))
  ·rw [A1 q2] at d0 d1
   subst d0 d1 d2
   exact so Tryz.f264 4 (ir 0 7 ++ .nil :: []) (.c (ir 0 7) (Lb s) (.t (congrArg (!·) (congrArg (!·) q1)) (.c (ir 1 4) (B5 s.m) (.c [] (Amr { s.j with next:=IntKind.i64.wrap (s.j.next + 1) } s.m.l) (.g q2 .nil)))))
