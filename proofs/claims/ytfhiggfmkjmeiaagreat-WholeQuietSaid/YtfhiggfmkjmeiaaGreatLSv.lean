import Derived.Test.YtfhiggfmkjmeiaaGreatLNj
import Derived.Test.YtfhiggfmkjmeiaaGreatFR24
import Derived.Test.YtfhiggfmkjmeiaaGreatJRun
set_option linter.all false
namespace Go.Proofs.YtfhiggfmkjmeiaaGreat
open Go Go.RowKit
def SE (a b:MchS):Prop:=∃ k,b={ a with steps:=k }
theorem SE.refl (a:MchS):SE a a:=⟨a.steps,rfl⟩
theorem SE.c {a b:MchS} (h:SE a b):b.c=a.c:=by obtain ⟨x,rfl⟩:=h; rfl
def Apn (c:Cfg) (x:Stp):Prop:=Br x=false ∨ (x.kind<=3/\(x.line < 0 ∨ IntKind.i64.wrap ((A0 c.ly) * c.ly.g.cols)<=x.line ∨ (x.kind=3/\x.mask=0)))
theorem Akj {s:CtlS} {i:Int} {b:Bool} (h:F0 s i=30):An s i b=s/\Bv s i b=30/\Cl s i b=fun _=>0:=by
 unfold An Bv Cl
 rw [h]; exact ⟨rfl,rfl,rfl⟩
theorem Yz {s:CtlS} {i:Int} {l:List Nat} {m:Nat} (h:F0 s i=30 ∨ m=0):Ah s i l m=s/\Ar s i l m=30:=by
 unfold Ah Ar
 rcases h with h | rfl
 ·rw [h]; exact ⟨rfl,rfl⟩
 ·rw [show decide ((((0:Nat)):Int)=0)=true from rfl]
  simp only [cond_true]
  exact ⟨Ad (p:=fun t:CtlS=>t=s) rfl rfl,Ad (p:=fun t:Nat=>t=30) rfl rfl⟩
theorem A43 {c:Cfg} {a:MchS} {x:Stp} (hl:a.c.le.rep.m.l=c.ly) (h:Apn c x):SE a (Al a x)/\(D7 a x=60 ∨ D7 a x=30)/\Eb a x=fun _=>0:=by
 cases hr:Br x with
 | false =>
   unfold Al D7 Eb
   rw [hr]; exact ⟨SE.refl a,Or.inl rfl,rfl⟩
 | true =>
   rcases h with h | ⟨hk,h⟩
   ·rw [h] at hr; cases hr
   ·have hm : SE a (Az { a with steps := IntKind.i64.wrap (a.steps + 1) } x) /\ Cx { a with steps := IntKind.i64.wrap (a.steps + 1) } x = 30 /\ G6 { a with steps := IntKind.i64.wrap (a.steps + 1) } x = fun _ => 0 := by
     have h2:F0 a.c x.line=30 ∨ (x.kind=3/\x.mask=0):=by
      rcases h with h | h | h
      ·exact Or.inl (Ak6 (Or.inl h))
      ·exact Or.inl (Ak6 (Or.inr (by rw [hl]; exact h)))
      ·exact Or.inr h
     unfold Az Cx G6
     cases k1:decide (x.kind=1) with
     | true =>
       have k1:=otq k1
       have h3:F0 a.c x.line=30:=by rcases h2 with h2 | h2; exact h2; omega
       obtain ⟨e1,e2,e3⟩:=Akj (b:=a.c.le.c.back) h3
       simp only [cond_true]
       rw [e1,e2,e3]
       exact ⟨⟨_,rfl⟩,rfl,rfl⟩
     | false =>
       simp only [cond_false]
       cases k2:decide (x.kind=2) with
       | true =>
         have k2:=otq k2
         have h3:F0 a.c x.line=30:=by rcases h2 with h2 | h2; exact h2; omega
         obtain ⟨e1,e2⟩:=Yz (l:=arL x.data 64 0) (m:=18446744073709551615) (Or.inl h3)
         simp only [cond_true]
         unfold Hn
         rw [e1,e2]
         exact ⟨⟨_,rfl⟩,rfl,trivial⟩
       | false =>
         have h3:F0 a.c x.line=30 ∨ x.mask=0:=by rcases h2 with h2 | h2; exact Or.inl h2; exact Or.inr h2.2
         obtain ⟨e1,e2⟩:=Yz (l:=arL x.data 64 0) h3
         simp only [cond_false]
         rw [e1,e2]
         exact ⟨⟨_,rfl⟩,rfl,trivial⟩
    unfold Al D7 Eb
    rw [hr,fq (show ¬ x.kind=4 by omega),fq (show ¬ x.kind=5 by omega),fq (show ¬ x.kind=6 by omega),fq (show ¬ x.kind=7 by omega),fq (show ¬ x.kind=8 by omega)]
    simp only [cond_true,cond_false]
    rw [hm.2.1,hm.2.2]
    exact ⟨hm.1,Or.inr rfl,rfl⟩
theorem A2z {p:Nat->Bool} {n k:Nat} (h1:k<=n) (h2:∀ j,j < k->p j=false) (h3:k < n->p k=true):ff p n=k:=by
 rcases Nat.lt_trichotomy (ff p n) k with h | h | h
 ·have:=U0 (p:=p) (n:=n) (by omega)
  rw [h2 _ h] at this; cases this
 ·exact h
 ·have:=Qe (p:=p) h
  rw [h3 (by have:=Qd p n; omega)] at this; cases this
theorem Ru {α:Type} (d:α) (l:List α) (x:α):(l ++ [x]).getD l.length d=x:=by
 rw [List.getD_eq_getElem?_getD,List.getElem?_append_right (Nat.le_refl _),Nat.sub_self]; rfl
theorem Rt {α:Type} (d:α) (l:List α) (x:α) {i:Nat} (h:i < l.length):(l ++ [x]).getD i d=l.getD i d:=by
 rw [List.getD_eq_getElem?_getD,List.getD_eq_getElem?_getD,List.getElem?_append_left h]
theorem Aed {s:DramS} {i:Int} (h:s.g.atE i=0):In s i=0:=by
 have hw:(Eg s i).g=s.g:=(Xw s i).2
 have hx:s.g.atE (E8 s i)=0:=by
  unfold E8
  refine Ad (p:=fun x:Int=>s.g.atE x=0) h (Ad (p:=fun x:Int=>s.g.atE x=0) h ?_)
  generalize (⟨(s.co.getD 0 Fs).rank,(s.co.getD 0 Fs).bank,(s.co.getD 0 Fs).row,(s.co.getD 0 Fs).col⟩:Pl)=q
  unfold Gm.ixE Gm.ix
  cases hh:s.g.holds q with
  | false=>exact h
  | true=>exact Ma (K5 hh)
 unfold In Q8
 rw [h,hw,hx]
 exact Ad (p:=fun x:Int=>x=0) (Ad (p:=fun x:Int=>x=0) rfl rfl) rfl
theorem Ado {s:DevS} {i:Int} (h:s.d.g.atE i=0):s.l.length < (F8 s i).l.length:=by
 unfold F8
 rw [Aed h,show decide ((0:Int)=0)=true from rfl,cond_true]
 exact Ad (p:=fun t:DevS=>s.l.length < t.l.length) (by show _ < (s.l ++ [_]).length; rw [List.length_append]; exact Nat.lt_succ_self _) (by show _ < (s.l ++ [_]).length; rw [List.length_append]; exact Nat.lt_succ_self _)
theorem A3x {s:DevS} {i m:Int} {r:Nat->Nat} (h:s.d.g.atE i=0):s.l.length < (Df s i r m).l.length:=by
 have e:Eh s.d i r=0:=by unfold Eh; rw [h]; rfl
 unfold Df
 rw [e]
 show _ < (s.l ++ [_]).length
 rw [List.length_append]; exact Nat.lt_succ_self _
theorem Ahm {s:CtlS} {i:Int} {l:Nat->Nat} {b:Bool} (h:s.d.d.g.atE i=0):s.d.l.length < (As s i l b).d.l.length:=by
 unfold As
 exact Ad (p:=fun t:CtlS=>s.d.l.length < t.d.l.length) (A3x h) (A3x h)
theorem Z7 {s:CtlS} {i h r:Int} (he:s.d.d.g.atE i=0):s.d.l.length < (Aw s i h r).d.l.length:=Ado he
theorem Ad7 (s:CtlS) (i:Int) (l:Nat->Nat) (b:Bool):s.d.l.length<=(As s i l b).d.l.length:=(Q7 s i l b).len
structure CIn (s:CtlS):Prop where
 le:LIn s.le
 g:s.d.d.g=s.le.rep.m.l.g
theorem CIn.at {s:CtlS} (h:CIn s) {n:Int} (hn:0<=n/\n < IntKind.i64.wrap ((A0 s.le.rep.m.l) * s.le.rep.m.l.g.cols)):F0 s n=0/\s.d.d.g.atE (Ae s n)=0:=⟨Azk h.le hn,by rw [h.g]; exact Aw5 h.le hn⟩
theorem Akk {s:CtlS} (h:CIn s) {n:Int} {b:Bool} (hn:0<=n/\n < IntKind.i64.wrap ((A0 s.le.rep.m.l) * s.le.rep.m.l.g.cols)):s.d.l.length < (An s n b).d.l.length/\Bv s n b ≠ 30:=by
 obtain ⟨h0,h1⟩:=h.at hn
 let p:=fun t:CtlS=>s.d.l.length < t.d.l.length
 have ht:p (Aw s (Ae s n) (Ey s n) (Ez s n)):=Z7 h1
 constructor
 ·unfold An
  rw [h0,show decide ((((0:Nat)):Int)=0)=true from rfl,cond_true]
  exact Ad (p:=p) (Ad (p:=p) (Nat.lt_of_lt_of_le ht (Ad7 _ _ _ _)) ht) ht
 ·unfold Bv
  rw [h0,show decide ((((0:Nat)):Int)=0)=true from rfl,cond_true]
  unfold Iy
  exact Ad (p:=fun x:Nat=>x ≠ 30) (by decide) (Ad (p:=fun x:Nat=>x ≠ 30) (by decide) (by decide))
theorem Z1 {s:CtlS} (h:CIn s) {n:Int} {l:List Nat} {m:Nat} (hm:m ≠ 0) (hn:0<=n/\n < IntKind.i64.wrap ((A0 s.le.rep.m.l) * s.le.rep.m.l.g.cols)):s.d.l.length < (Ah s n l m).d.l.length/\Ar s n l m ≠ 30:=by
 obtain ⟨h0,h1⟩:=h.at hn
 let p:=fun t:CtlS=>s.d.l.length < t.d.l.length
 have ht:p (Aw s (Ae s n) (Ey s n) (Ez s n)):=Z7 h1
 constructor
 ·unfold Ah
  rw [h0,show decide ((((0:Nat)):Int)=0)=true from rfl,cond_true,fq (show ¬ ((m:Nat):Int)=0 by omega),cond_false]
  exact Ad (p:=p) (Ahm h1) (Ad (p:=p) (Nat.lt_of_lt_of_le ht (Ad7 _ _ _ _)) (Nat.lt_of_lt_of_le ht (Ad7 _ _ _ _)))
 ·unfold Ar
  rw [h0,show decide ((((0:Nat)):Int)=0)=true from rfl,cond_true,fq (show ¬ ((m:Nat):Int)=0 by omega),cond_false]
  refine Ad (p:=fun x:Nat=>x ≠ 30) (by decide) (Ad (p:=fun x:Nat=>x ≠ 30) (by decide) ?_)
  unfold Iy
  exact Ad (p:=fun x:Nat=>x ≠ 30) (by decide) (Ad (p:=fun x:Nat=>x ≠ 30) (by decide) (by decide))
theorem Anx {c:Cfg} (h:A8 c=true) (l:List Stp) (i:Nat):CIn (mrS (Ac c) l i).c:=by
 refine ⟨Ayc h l i,?_⟩
 have h1:=Ag5 (Ac c) l 0 i
 rw [Nat.zero_add] at h1
 rw [Ayd,h1.d.g]
 exact (Ab4 c).g
def Apg (s:MchS) (x:Stp):Srv:=⟨x,⟨D7 s x,Gy s x,Eb s x⟩,s.ideal x.line,((s.c.d.l.length:Nat):Int),(((Al s x).c.d.l.length:Nat):Int)⟩
def Amm (s:MchS) (x:Stp):Int->Nat->Nat:=bif decide (x.kind=2) then upZ s.ideal x.line (mgF (s.ideal x.line) x.data 18446744073709551615) else (bif decide (x.kind=3) then upZ s.ideal x.line (mgF (s.ideal x.line) x.data x.mask) else s.ideal)
theorem A5w {c:Cfg} {x:Stp} (h:Lr c x=true):Br x=true/\x.kind<=3/\(0<=x.line/\x.line < IntKind.i64.wrap ((A0 c.ly) * c.ly.g.cols))/\(x.kind=3->x.mask ≠ 0):=by
 unfold Lr at h
 obtain ⟨h1,h⟩:=cT h
 obtain ⟨h2,h⟩:=cT h
 obtain ⟨h3,h⟩:=cT h
 obtain ⟨h4,h⟩:=cT h
 refine ⟨h1,otq h2,⟨otq h3,otq h4⟩,fun hk hm=>?_⟩
 rw [tq hk,hm] at h
 exact absurd h (by decide)
theorem Ur {x:Stp} (h:Br x=true):1<=x.kind/\x.kind<=8:=by
 unfold Br at h
 cases q:decide (x.kind=8) with
 | true=>have:=otq q; omega
 | false =>
   rw [q,cond_false] at h
   unfold Oo at h
   cases q1:decide (x.kind < 1) with
   | true=>rw [q1] at h; cases h
   | false =>
     cases q2:decide (8 < x.kind) with
     | true=>rw [q1,q2] at h; cases h
     | false=>have:=ofq q1; have:=ofq q2; omega
theorem Afs {s:MchS} {x:Stp} (hr:Br x=true) (hk:x.kind<=3):Al s x=Az { s with steps:=IntKind.i64.wrap (s.steps + 1) } x/\D7 s x=((Cx { s with steps:=IntKind.i64.wrap (s.steps + 1) } x:Nat):Int)/\Gy s x=0/\Eb s x=G6 { s with steps:=IntKind.i64.wrap (s.steps + 1) } x:=by
 unfold Al D7 Gy Eb
 rw [hr,fq (show ¬ x.kind=4 by omega),fq (show ¬ x.kind=5 by omega),fq (show ¬ x.kind=6 by omega),fq (show ¬ x.kind=7 by omega),fq (show ¬ x.kind=8 by omega)]
 exact ⟨rfl,rfl,rfl,rfl⟩
theorem Afu {c:Cfg} {s:MchS} {x:Stp} (hc:CIn s.c) (hl:s.c.le.rep.m.l=c.ly) (h:Lr c x=true):(Al s x).srv=s.srv ++ [Apg s x]/\(Al s x).ideal=Amm s x/\s.c.d.l.length < (Al s x).c.d.l.length:=by
 obtain ⟨hr,hk,hn,hm⟩:=A5w h
 rw [← hl] at hn
 have k1:=Ur hr
 obtain ⟨e1,e2,e3,e4⟩:=Afs (s:=s) hr hk
 unfold Apg Amm
 rw [e1,e2,e3,e4]
 unfold Az Cx G6
 rcases (by omega:x.kind=1 ∨ x.kind=2 ∨ x.kind=3) with q | q | q
 ·obtain ⟨a,b⟩:=Akk hc (b:=s.c.le.c.back) hn
  rw [tq q,fq (show ¬ x.kind=2 by omega),fq (show ¬ x.kind=3 by omega),fq (show ¬ ((Bv s.c x.line s.c.le.c.back:Nat):Int)=30 by omega)]
  exact ⟨rfl,rfl,a⟩
 ·obtain ⟨a,b⟩:=Z1 hc (l:=arL x.data 64 0) (m:=18446744073709551615) (by decide) hn
  rw [fq (show ¬ x.kind=1 by omega),tq q,fq (show ¬ ((Ar s.c x.line (arL x.data 64 0) 18446744073709551615:Nat):Int)=30 by omega)]
  exact ⟨rfl,rfl,a⟩
 ·obtain ⟨a,b⟩:=Z1 hc (l:=arL x.data 64 0) (hm q) hn
  rw [fq (show ¬ x.kind=1 by omega),fq (show ¬ x.kind=2 by omega),tq q,fq (show ¬ ((Ar s.c x.line (arL x.data 64 0) x.mask:Nat):Int)=30 by omega)]
  exact ⟨rfl,rfl,a⟩
theorem A5v {c:Cfg} {x:Stp} (h:Lr c x=false):Apn c x ∨ (Br x=true/\4<=x.kind/\x.kind<=8):=by
 cases h0:Br x with
 | false=>exact Or.inl (Or.inl h0)
 | true =>
   have hk:=Ur h0
   rcases Int.lt_or_le 3 x.kind with h1 | h1
   ·exact Or.inr ⟨rfl,by omega,hk.2⟩
   ·refine Or.inl (Or.inr ⟨h1,?_⟩)
    rcases Int.lt_or_le x.line 0 with h2 | h2
    ·exact Or.inl h2
    rcases Int.lt_or_le x.line (IntKind.i64.wrap ((A0 c.ly) * c.ly.g.cols)) with h3 | h3
    ·unfold Lr at h
     rw [h0,tq h1,tq h2,tq h3] at h
     simp only [cond_true] at h
     cases h4:decide (x.kind=3) with
     | false=>rw [h4] at h; cases h
     | true =>
       rw [h4,cond_true] at h
       have h5:decide (((x.mask:Nat):Int)=0)=true:=by cases q:decide (((x.mask:Nat):Int)=0); rw [q] at h; cases h; rfl
       have h5:=otq h5
       exact Or.inr (Or.inr ⟨otq h4,by omega⟩)
    ·exact Or.inr (Or.inl h3)
theorem A9b {c:Cfg} {s:MchS} {x:Stp} (hl:s.c.le.rep.m.l=c.ly) (h:Lr c x=false):(Al s x).srv=s.srv/\(Al s x).ideal=s.ideal:=by
 rcases A5v h with h | ⟨hr,h1,h2⟩
 ·obtain ⟨k,e⟩:=(A43 hl h).1
  rw [e]; exact ⟨rfl,rfl⟩
 ·let p:=fun t:MchS=>t.srv=s.srv/\t.ideal=s.ideal
  unfold Al
  rw [hr,cond_true]
  have hi:p (Bn { s with steps:=IntKind.i64.wrap (s.steps + 1) } x.f):=by unfold Bn; exact Ad (p:=p) ⟨rfl,rfl⟩ ⟨rfl,rfl⟩
  rcases (by omega:x.kind=4 ∨ x.kind=5 ∨ x.kind=6 ∨ x.kind=7 ∨ x.kind=8) with q | q | q | q | q
  ·rw [tq q]; exact ⟨rfl,rfl⟩
  ·rw [fq (show ¬ x.kind=4 by omega),tq q]; exact ⟨rfl,rfl⟩
  ·rw [fq (show ¬ x.kind=4 by omega),fq (show ¬ x.kind=5 by omega),tq q]; exact ⟨rfl,rfl⟩
  ·rw [fq (show ¬ x.kind=4 by omega),fq (show ¬ x.kind=5 by omega),fq (show ¬ x.kind=6 by omega),tq q]; exact ⟨rfl,rfl⟩
  ·rw [fq (show ¬ x.kind=4 by omega),fq (show ¬ x.kind=5 by omega),fq (show ¬ x.kind=6 by omega),fq (show ¬ x.kind=7 by omega),tq q]; exact hi
theorem Ayb {a a' o:Nat->Nat} {m j:Nat} (h:a j=a' j):mgF a o m j=mgF a' o m j:=by unfold mgF; rw [h]
