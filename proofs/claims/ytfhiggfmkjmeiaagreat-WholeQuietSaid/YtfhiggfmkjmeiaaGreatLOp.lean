import Derived.Test.YtfhiggfmkjmeiaaGreatLSv
import Derived.Test.YtfhiggfmkjmeiaaGreatLEl
import Derived.Test.YtfhiggfmkjmeiaaGreatLRu
import Derived.Test.YtfhiggfmkjmeiaaGreatFJue
set_option linter.all false
namespace Go.Proofs.YtfhiggfmkjmeiaaGreat
open Go Go.RowKit
theorem B1m {g:Gm} {i:Int} (h:g.atE i=0):g.atB i=true:=by
 unfold Gm.atE at h
 cases q:g.atB i with
 | true=>rfl
 | false=>rw [q] at h; exact absurd h (by decide)
theorem Au2 {s:DramS} {i:Int} (h:s.g.atE i=0):s.g.atE (E8 s i)=0:=by
 unfold E8
 refine Ad (p:=fun x:Int=>s.g.atE x=0) h (Ad (p:=fun x:Int=>s.g.atE x=0) h ?_)
 generalize (⟨(s.co.getD 0 Fs).rank,(s.co.getD 0 Fs).bank,(s.co.getD 0 Fs).row,(s.co.getD 0 Fs).col⟩:Pl)=q
 unfold Gm.ixE Gm.ix
 cases hh:s.g.holds q with
 | false=>exact h
 | true=>exact Ma (K5 hh)
def rdA (s:DevS) (i:Int):Acc:=⟨false,i,B4 s.d i,D4 s.d i,((Ai s.d.mode (Cs s.d i) (s.gh (B4 s.d i)):Nat):Int),bif D4 s.d i then false else decide (s.mks (B4 s.d i)=1)⟩
def wrA (s:DevS) (i:Int) (r:Nat->Nat):Acc:=⟨true,i,Fv s.d i r,Fw s.d i r,0,false⟩
theorem A71 {s:DevS} {i:Int} (h:s.d.g.atE i=0):F8 s i=⟨Bz s.d i,s.gh,s.mks,s.l ++ [rdA s i]⟩/\Ab s i=Cs s.d i:=by
 unfold F8 Ab rdA
 rw [Aed h,(Li s.d i).1]
 cases D4 s.d i <;> exact ⟨rfl,rfl⟩
theorem Adr {s:DevS} {i m:Int} {r:Nat->Nat} (h:s.d.g.atE i=0):Df s i r m=⟨E9 s.d i r,upZ s.gh i r,upZ s.mks i m,s.l ++ [wrA s i r]⟩:=by
 have e:Eh s.d i r=0:=by unfold Eh; rw [h]; rfl
 unfold Df wrA
 rw [e]; rfl
def Iu (a:Acc):Prop:=a.drop=true ∨ a.went ≠ a.index
theorem A6w {a:Acc}:Fe a=true ↔ Iu a:=by
 unfold Fe Iu
 cases a.drop with
 | true=>exact ⟨fun _=>Or.inl rfl,fun _=>rfl⟩
 | false =>
   simp only [cond_false]
   constructor
   ·intro h; right; intro e; rw [tq e] at h; cases h
   ·intro h
    rcases h with h | h
    ·cases h
    ·rw [fq h]; rfl
theorem Atv {a:Acc}:Fe a=false ↔ ¬ Iu a:=by
 rw [← A6w]; cases Fe a <;> simp
def Se (a:Acc):Int:=if a.mark=true then a.exp + 1 else a.exp
def AccIn (l:List Acc):Prop:=∀ i,0<=(l.getD i Mj).exp/\(l.getD i Mj).exp<=100
theorem AccIn.app {l:List Acc} {a:Acc} (h:AccIn l) (ha:0<=a.exp/\a.exp<=100):AccIn (l ++ [a]):=fun i=>by
 rcases Nat.lt_trichotomy i l.length with q | q | q
 ·rw [Rt _ _ _ q]; exact h i
 ·subst q; rw [Ru]; exact ha
 ·rw [List.getD_eq_getElem?_getD,List.getElem?_eq_none (by rw [List.length_append]; exact q)]; exact ⟨Int.le_refl _,by decide⟩
theorem Amq {l:Lk} {m:Int} {a:Acc} (ha:0<=a.exp/\a.exp<=100) (k:Int):(L9 l m a).exp<=k ↔ l.exp<=k/\(¬ Iu a->Se a<=k):=by
 have key:(L9 l m a).exp=if Fe a=true then l.exp else (if Se a > l.exp then Se a else l.exp):=by
  unfold L9 Se
  cases Fe a with
  | true =>
    simp only [cond_true,if_true]
    cases l.drop <;> cases a.write <;> cases a.drop <;> cases Fy m a.index a.went <;> rfl
  | false =>
    simp only [cond_false,Bool.false_eq_true,if_false]
    cases a.mark with
    | true=>simp only [cond_true,if_true]; rw [Ca (by omega)]
    | false=>rfl
 rw [key]
 by_cases h:Fe a=true
 ·rw [if_pos h]; exact ⟨fun x=>⟨x,fun y=>absurd (A6w.1 h) y⟩,fun x=>x.1⟩
 ·rw [if_neg h]
  have hs:¬ Iu a:=fun x=>h (A6w.2 x)
  constructor
  ·intro x
   split at x
   ·exact ⟨by omega,fun _=>x⟩
   ·exact ⟨x,fun _=>by omega⟩
  ·rintro ⟨x,y⟩
   have:=y hs
   split <;> omega
theorem Amp {l:Lk} {m:Int} {a:Acc}:(L9 l m a).astray=false ↔ l.astray=false/\¬ Iu a:=by
 rw [← Atv]
 unfold L9
 cases Fe a with
 | true =>
   simp only [cond_true]
   cases l.drop <;> cases a.write <;> cases a.drop <;> cases Fy m a.index a.went <;> simp
 | false=>cases a.mark <;> simp
theorem A6o {m:Int} {l:List Acc} (hl:AccIn l) {a:Nat} {k:Int} (hk:0<=k):∀ {n:Nat},(T2 m l a n).exp<=k ↔ ∀ i,i < n->¬ Iu (l.getD (a + i) Mj)->Se (l.getD (a + i) Mj)<=k
 | 0=>⟨fun _ i h=>absurd h (Nat.not_lt_zero i),fun _=>hk⟩
 | n + 1=>by
   rw [T2,Amq (hl _),A6o hl hk (n:=n)]
   constructor
   ·intro h i hi
    by_cases e:i=n
    ·rw [e]; exact h.2
    ·exact h.1 i (by omega)
   ·intro h; exact ⟨fun i hi=>h i (by omega),h n (by omega)⟩
theorem A6n {m:Int} {l:List Acc} {a:Nat}:∀ {n:Nat},(T2 m l a n).astray=false ↔ ∀ i,i < n->¬ Iu (l.getD (a + i) Mj)
 | 0=>⟨fun _ i h=>absurd h (Nat.not_lt_zero i),fun _=>rfl⟩
 | n + 1=>by
   rw [T2,Amp,A6n (n:=n)]
   constructor
   ·intro h i hi
    by_cases e:i=n
    ·rw [e]; exact h.2
    ·exact h.1 i (by omega)
   ·intro h; exact ⟨fun i hi=>h i (by omega),h n (by omega)⟩
def WA (m:Int) (a:Acc):Prop:=a.write=false->(¬ Iu a->Se a<=1 + m)/\(Iu a->a.drop=false/\a.exp<=0/\Fy m a.index a.went=true)
theorem As5 {m:Int} {r q:Nat->Nat} (hr:∀ j,r j < 256) (hq:∀ j,q j < 256):Ai m r q<=100:=by
 unfold Ai
 refine Ad (p:=fun x:Nat=>x<=100) ?_ ?_
 ·exact K9.2 fun i _=>Nat.le_trans (Aba (Au hr _ _) (Au hq _ _) 9) (by decide)
 ·exact Ka.2 fun i _=>Nat.le_trans (Adl _ _ 36) (by decide)
theorem Auj {m:Int} (hm:m=1 ∨ m=2) (r:Nat->Nat) (n:Int):Bt m r n<=3:=by
 rcases hm with rfl | rfl
 ·rw [(md1 r r n false).2.2.1]
  refine jkB.2 fun i _=>?_
  unfold C7
  split
  ·omega
  ·split
   ·omega
   ·split <;> omega
 ·rw [(md2 r r n false).2.2.1]
  refine jkC.2 fun i _=>?_
  unfold chK
  split
  ·omega
  ·split
   ·omega
   ·split <;> omega
theorem Apy {k:Nat} (f:Int) (h:k<=3):Iy ((k:Nat):Int) f=if k<=1 then 0 else if k=2 then 41 else 40:=by
 unfold Iy
 rcases (by omega:k=0 ∨ k=1 ∨ k=2 ∨ k=3) with rfl | rfl | rfl | rfl <;> rfl
theorem Aqn {m:Int} (hm:m=1 ∨ m=2) {a b:Int} (h:Fy m a b=true):apt m a b:=by
 unfold Fy at h
 rcases hm with rfl | rfl
 ·left
  refine ⟨rfl,fun e=>?_⟩
  rw [tq (show (1:Int)=1 from rfl),cond_true,tq (by rw [e])] at h
  cases h
 ·right
  refine ⟨rfl,?_⟩
  rw [fq (show ¬ (2:Int)=1 by decide),cond_false] at h
  have hne:¬ eqA (nf (byF a)) (nf (byF b)) 3 0=true:=fun e=>by rw [e] at h; cases h
  rcases Classical.em (∃ j,j < 3/\byF a j ≠ byF b j) with x | x
  ·exact x
  ·refine absurd (P0.2 fun j _ hj=>?_) hne
   show ((byF a j:Nat):Int)=((byF b j:Nat):Int)
   rcases Classical.em (byF a j=byF b j) with y | y
   ·rw [y]
   ·exact absurd ⟨j,by omega,y⟩ x
structure GW (c:Cfg) (s:CtlS):Prop where
 ri:RI s.le.rep
 cf:s.le.c=c
 ly:s.le.rep.m.l=c.ly
 g:s.d.d.g=c.ly.g
 md:s.d.d.mode=c.mode
 gh:∀ i,c.ly.g.atB i=true->∃ l:Nat->Nat,(∀ j,l j < 256)/\s.d.gh i=Bm c.mode l i (decide (s.d.mks i=1))
theorem GW.cat {c:Cfg} {s:CtlS} (h:GW c s) {n:Int} (hn:Lns c.ly n):F0 s n=0/\Ae s n=RT s.le.rep n/\c.ly.g.atB (RT s.le.rep n)=true:=by
 have w:=h.ri.w
 have hn':Lns s.le.rep.m.l n:=by rw [h.ly]; exact hn
 have e:Ei s.le.rep.j s.le.rep.m n=0:=A00 w.ok.m w.mi.mp.lv w.ok.g hn'
 obtain ⟨a,b⟩:=Te w hn'
 refine ⟨by unfold F0; rw [e]; rfl,by unfold Ae; rw [e]; rfl,?_⟩
 rw [a]
 rw [h.ly] at b
 exact K5 b
theorem GW.verdict {c:Cfg} {s:CtlS} (hc:A8 c=true) (h:GW c s) (dk:DevOk s.d) {i:Int} (hi:c.ly.g.atB i=true) :
   (2<=Bt c.mode (Ab s.d i) i->Iu (rdA s.d i) ∨ 2<=Se (rdA s.d i) ∨ s.d.mks i=1) /\
   (Bt c.mode (Ab s.d i) i<=1->WA c.mode (rdA s.d i)->¬ Iu (rdA s.d i)/\Se (rdA s.d i)<=1/\s.d.mks i ≠ 1/\∀ l:Nat->Nat,(∀ j,l j < 256)->s.d.gh i=Bm c.mode l i false->∀ j,j < 64->Ek c.mode (Ab s.d i) i j=l j):=by
 have hm:=(Ho hc).2.1
 have hat:s.d.d.g.atE i=0:=by rw [h.g]; exact Ma hi
 have hr:=fun j=>Iv (s:=s.d) (i:=i) dk j
 obtain ⟨_,e0⟩:=A71 hat
 obtain ⟨l,hl,hg⟩:=h.gh i hi
 have ns:¬ Iu (rdA s.d i)->D4 s.d.d i=false/\B4 s.d.d i=i:=fun x=>by
  constructor
  ·cases q:D4 s.d.d i with
   | false=>rfl
   | true=>exact absurd (Or.inl q) x
  ·rcases Classical.em (B4 s.d.d i=i) with q | q
   ·exact q
   ·exact absurd (Or.inr q) x
 have ex:¬ Iu (rdA s.d i)->(rdA s.d i).exp=((Ai c.mode (Ab s.d i) (s.d.gh i):Nat):Int)/\(rdA s.d i).mark=decide (s.d.mks i=1):=fun x=>by
  obtain ⟨a,b⟩:=ns x
  unfold rdA
  rw [a,b,e0,h.md]; exact ⟨rfl,rfl⟩
 constructor
 ·intro hk
  rcases Classical.em (Iu (rdA s.d i)) with x | x
  ·exact Or.inl x
  ·obtain ⟨e1,e2⟩:=ex x
   rcases Classical.em (s.d.mks i=1) with y | y
   ·exact Or.inr (Or.inr y)
   ·right; left
    rw [fq y] at e2 hg
    unfold Se
    rw [e2,if_neg (by decide),e1]
    rcases Nat.lt_or_ge 1 (Ai c.mode (Ab s.d i) (s.d.gh i)) with z | z
    ·omega
    ·rw [hg] at z
     have:=(Ab8 hl hr i hm z).1
     omega
 ·intro hk hw
  obtain ⟨w1,w2⟩:=hw rfl
  have x:¬ Iu (rdA s.d i):=fun x=>by
   obtain ⟨a1,a2,a3⟩:=w2 x
   have d0:D4 s.d.d i=false:=a1
   have ewent:B4 s.d.d i=E8 s.d.d i:=by unfold B4; rw [hat]; rfl
   have hwi:c.ly.g.atB (B4 s.d.d i)=true:=by
    rw [ewent,← h.g]; exact B1m (Au2 hat)
   obtain ⟨l',hl',hg'⟩:=h.gh _ hwi
   have ez:(rdA s.d i).exp=((Ai c.mode (Ab s.d i) (s.d.gh (B4 s.d.d i)):Nat):Int):=by unfold rdA; rw [e0,h.md]
   have:=Ab7 hl' hr i hm (B4 s.d.d i) (decide (s.d.mks (B4 s.d.d i)=1)) (Or.inr (Or.inr ⟨Aqn hm a3,by rw [← hg']; omega⟩))
   omega
  obtain ⟨e1,e2⟩:=ex x
  have w3:=w1 x
  have y:s.d.mks i ≠ 1:=fun y=>by
   rw [tq y] at e2 hg
   unfold Se at w3
   rw [e2,if_pos rfl,e1,hg] at w3
   have:=Ab7 hl hr i hm i true (Or.inr (Or.inl ⟨rfl,rfl,by omega⟩))
   omega
  rw [fq y] at e2 hg
  have w4:Se (rdA s.d i)=((Ai c.mode (Ab s.d i) (s.d.gh i):Nat):Int):=by
   unfold Se; rw [e2,if_neg (by decide),e1]
  have z:Ai c.mode (Ab s.d i) (s.d.gh i)<=1:=by
   rcases Nat.lt_or_ge 1 (Ai c.mode (Ab s.d i) (s.d.gh i)) with z | z
   ·rw [w4] at w3
    rw [hg] at z w3
    have:=Ab7 hl hr i hm i false (Or.inl ⟨rfl,rfl,z,w3⟩)
    omega
   ·exact z
  refine ⟨x,by omega,y,fun l2 hl2 hg2=>?_⟩
  rw [hg2] at z
  exact (Ab8 hl2 hr i hm z).2.1
theorem Aii (s:LedS) (x:Nt):(C8 s x).c=s.c:=O8 s x
theorem GW.take {c:Cfg} {s:CtlS} (h:GW c s) {i:Int} (hi:c.ly.g.atB i=true) (a b:Int):GW c (Aw s i a b)/\StH s.le.rep (Aw s i a b).le.rep/\(Aw s i a b).d=⟨Bz s.d.d i,s.d.gh,s.d.mks,s.d.l ++ [rdA s.d i]⟩/\(Aw s i a b).cur=s.cur:=by
 have hat:s.d.d.g.atE i=0:=by rw [h.g]; exact Ma hi
 obtain ⟨e,_⟩:=A71 hat
 have hd:(Aw s i a b).d=⟨Bz s.d.d i,s.d.gh,s.d.mks,s.d.l ++ [rdA s.d i]⟩:=e
 obtain ⟨q1,q2⟩:=Aux h.ri (x:=⟨1,((Bt s.le.c.mode (Ab s.d i) i:Nat):Int),((G9 s.le.c.mode (Ab s.d i) i:Nat):Int),i,a,b⟩) (show (1:Int) ≠ 3 by decide)
 refine ⟨⟨q1,(Aii _ _).trans h.cf,q2.l.trans h.ly,?_,?_,?_⟩,q2,hd,rfl⟩
 ·rw [hd]; exact (Li s.d.d i).2.trans h.g
 ·rw [hd]; exact (Li s.d.d i).1.trans h.md
 ·rw [hd]; exact h.gh
theorem GW.put {c:Cfg} {s:CtlS} (h:GW c s) {i:Int} (hi:c.ly.g.atB i=true) {l:Nat->Nat} (hl:∀ j,l j < 256) (b:Bool):GW c (As s i l b)/\(As s i l b).le=s.le/\(As s i l b).d=⟨E9 s.d.d i (Bm c.mode l i b),upZ s.d.gh i (Bm c.mode l i b),upZ s.d.mks i (if b=true then 1 else 0),s.d.l ++ [wrA s.d i (Bm c.mode l i b)]⟩/\(As s i l b).cur=s.cur:=by
 have hat:s.d.d.g.atE i=0:=by rw [h.g]; exact Ma hi
 have hd:(As s i l b).d=⟨E9 s.d.d i (Bm c.mode l i b),upZ s.d.gh i (Bm c.mode l i b),upZ s.d.mks i (if b=true then 1 else 0),s.d.l ++ [wrA s.d i (Bm c.mode l i b)]⟩:=by
  unfold As
  rw [h.cf]
  cases b with
  | true=>exact Adr hat
  | false=>exact Adr hat
 have hle:(As s i l b).le=s.le:=by unfold As; cases b <;> rfl
 have hcu:(As s i l b).cur=s.cur:=by unfold As; cases b <;> rfl
 refine ⟨⟨by rw [hle]; exact h.ri,by rw [hle]; exact h.cf,by rw [hle]; exact h.ly,?_,?_,fun k hk=>?_⟩,hle,hd,hcu⟩
 ·rw [hd]; exact (O0 s.d.d i _).2.trans h.g
 ·rw [hd]; exact (O0 s.d.d i _).1.trans h.md
 ·rw [hd]
  show ∃ l':Nat->Nat,_/\upZ s.d.gh i (Bm c.mode l i b) k=Bm c.mode l' k (decide (upZ s.d.mks i (if b=true then 1 else 0) k=1))
  unfold upZ
  by_cases e:k=i
  ·subst e
   rw [if_pos rfl,if_pos rfl]
   refine ⟨l,hl,?_⟩
   cases b <;> rfl
  ·rw [if_neg e,if_neg e]; exact h.gh k hk
def tE (k:Nat):Nat:=if k<=1 then 0 else if k=2 then 41 else 40
theorem Ajg {k:Nat}:tE k=0 ↔ k<=1:=by
 unfold tE
 by_cases h:k<=1
 ·rw [if_pos h]; exact ⟨fun _=>h,fun _=>rfl⟩
 ·rw [if_neg h]
  refine ⟨fun e=>?_,fun e=>absurd e h⟩
  split at e <;> cases e
def vK (c:Cfg) (s:CtlS) (i:Int):Nat:=Bt c.mode (Ab s.d i) i
def vD (c:Cfg) (s:CtlS) (i:Int):Nat->Nat:=Ek c.mode (Ab s.d i) i
section ops
variable {c:Cfg} {s:CtlS} (hc:A8 c=true) (h:GW c s)
include hc h
theorem A4p {n:Int} (hn:Lns c.ly n) (b:Bool):∃ a1 a2:Int,
    (An s n b=bif decide (vK c s (RT s.le.rep n)=1) then (bif b then As (Aw s (RT s.le.rep n) a1 a2) (RT s.le.rep n) (vD c s (RT s.le.rep n)) false else Aw s (RT s.le.rep n) a1 a2) else Aw s (RT s.le.rep n) a1 a2) /\
    Cl s n b=vD c s (RT s.le.rep n)/\Bv s n b=tE (vK c s (RT s.le.rep n)):=by
 obtain ⟨e0,e1,_⟩:=h.cat hn
 refine ⟨Ey s n,Ez s n,?_⟩
 unfold An Cl Bv vK vD
 rw [e0,e1,h.cf,Apy _ (Auj (Ho hc).2.1 _ _)]
 have e2:decide ((((Bt c.mode (Ab s.d (RT s.le.rep n)) (RT s.le.rep n):Nat)):Int)=1)=decide (Bt c.mode (Ab s.d (RT s.le.rep n)) (RT s.le.rep n)=1):=by
  by_cases q:Bt c.mode (Ab s.d (RT s.le.rep n)) (RT s.le.rep n)=1
  ·rw [q]; rfl
  ·rw [fq q,fq (by omega)]
 rw [e2]
 exact ⟨rfl,rfl,rfl⟩
theorem Vl {n:Int} (hn:Lns c.ly n) (l:List Nat) {m:Nat} (hm:m ≠ 0):∃ a1 a2:Int,
    (Ah s n l m=if wt m=64 then As s (RT s.le.rep n) (Uc l) false else if vK c s (RT s.le.rep n)<=1 then As (Aw s (RT s.le.rep n) a1 a2) (RT s.le.rep n) (mgF (vD c s (RT s.le.rep n)) (Uc l) m) false else As (Aw s (RT s.le.rep n) a1 a2) (RT s.le.rep n) (fun _=>0) true) /\
    Ar s n l m=if wt m=64 then 0 else tE (vK c s (RT s.le.rep n)):=by
 obtain ⟨e0,e1,_⟩:=h.cat hn
 refine ⟨Ey s n,Ez s n,?_⟩
 unfold Ah Ar
 rw [e0,e1,h.cf,Apy _ (Auj (Ho hc).2.1 _ _),fq (show ¬ ((m:Nat):Int)=0 by omega)]
 rw [show decide ((((0:Nat)):Int)=0)=true from rfl]
 simp only [cond_true,cond_false]
 by_cases q:wt m=64
 ·rw [tq (show ((wt m:Nat):Int)=64 by omega),if_pos q,if_pos q]; exact ⟨rfl,rfl⟩
 ·rw [fq (show ¬ ((wt m:Nat):Int)=64 by omega),if_neg q,if_neg q]
  have ht:(if Bt c.mode (Ab s.d (RT s.le.rep n)) (RT s.le.rep n)<=1 then 0 else if Bt c.mode (Ab s.d (RT s.le.rep n)) (RT s.le.rep n)=2 then 41 else 40:Nat)=tE (vK c s (RT s.le.rep n)):=rfl
  rw [ht]
  by_cases k:vK c s (RT s.le.rep n)<=1
  ·rw [Ajg.2 k,if_pos k]; exact ⟨rfl,rfl⟩
  ·have k2:tE (vK c s (RT s.le.rep n)) ≠ 0:=fun e=>k (Ajg.1 e)
   rw [fq (show ¬ ((tE (vK c s (RT s.le.rep n)):Nat):Int)=0 by omega),if_neg k]; exact ⟨rfl,rfl⟩
theorem A4h (hk:s.le.rep.j.kind=0):Db s=s/\Kr s=51:=by
 have e:G1 s.le.rep=51:=by unfold G1; rw [tq hk]; rfl
 unfold Db Kr
 rw [e]; exact ⟨rfl,rfl⟩
def cpS (c:Cfg) (s:CtlS) (a1 a2:Int):CtlS:=bif Gp s.le.rep.m (R9 s.le.rep) then As (Aw s (A5 s.le.rep) a1 a2) (Ax s.le.rep) (vD c s (A5 s.le.rep)) (decide (2<=vK c s (A5 s.le.rep))) else As s (Ax s.le.rep) (fun _=>0) false
theorem Ae1 (hk:s.le.rep.j.kind ≠ 0):∃ a1 a2:Int,Db s=Dm (cpS c s a1 a2) ⟨3,0,0,0,0,0⟩/\Kr s=0:=by
 obtain ⟨_,_,e,_,_⟩:=S0 h.ri hk
 refine ⟨Fk s (A5 s.le.rep),Hp s (A5 s.le.rep),?_⟩
 unfold Db Kr
 rw [e]
 refine ⟨?_,rfl⟩
 show Dm (Gf s) _=_
 unfold Gf cpS vD vK
 rw [h.cf]
 have e2:decide (2<=(((Bt c.mode (Ab s.d (A5 s.le.rep)) (A5 s.le.rep)):Nat):Int))=decide (2<=Bt c.mode (Ab s.d (A5 s.le.rep)) (A5 s.le.rep)):=by
  by_cases q:2<=Bt c.mode (Ab s.d (A5 s.le.rep)) (A5 s.le.rep)
  ·rw [tq q,tq (by omega)]
  ·rw [fq q,fq (by omega)]
 rw [e2]; rfl
end ops
theorem Ajq {s:RepS} (hk:s.j.kind ≠ 0) (a:Ak):(Bf s a).j=s.j/\(Bf s a).m=s.m:=by
 let p:=fun t:RepS=>t.j=s.j/\t.m=s.m
 unfold Bf
 rw [fq hk]
 exact Ad (p:=p) ⟨rfl,rfl⟩ ⟨rfl,rfl⟩
theorem Ac7 {s:LedS} (hk:s.rep.j.kind ≠ 0) (x:Nt):(Ds s x).rep.j=s.rep.j/\(Ds s x).rep.m=s.rep.m:=by
 let p:=fun t:LedS=>t.rep.j=s.rep.j/\t.rep.m=s.rep.m
 have hc:∀ (t:LedS) (k:Int) (l:List Ev) (i:Nat),p t->p (Gk t k l i):=fun t k l i h=>by show _/\_; rw [M5]; exact h
 have ha:∀ (t:LedS) (a:Ak),p t->(Bf t.rep a).j=s.rep.j/\(Bf t.rep a).m=s.rep.m:=fun t a h=>by
  obtain ⟨a1,a2⟩:=Ajq (s:=t.rep) (by rw [h.1]; exact hk) a
  exact ⟨a1.trans h.1,a2.trans h.2⟩
 have h0:p s:=⟨rfl,rfl⟩
 have j1:p (B9 s x):=by unfold B9; exact Ad (p:=p) (hc _ _ _ _ (ha s _ h0)) h0
 have j2:p (Fz s x):=by unfold Fz; exact Ad (p:=p) (hc _ _ _ _ (ha _ _ j1)) j1
 have j3:p (Ba s x):=by unfold Ba; exact Ad (p:=p) (hc _ _ _ _ (ha s _ h0)) h0
 have j4:p (G0 s x):=by unfold G0; exact Ad (p:=p) (hc _ _ _ _ (ha _ _ j3)) j3
 unfold Ds
 exact Ad (p:=p) h0 (Ad (p:=p) j2 (Ad (p:=p) h0 j4))
theorem A3t {s:CtlS} (hk:s.le.rep.j.kind ≠ 0) (i a b:Int):(Aw s i a b).le.rep.j=s.le.rep.j/\(Aw s i a b).le.rep.m=s.le.rep.m:=Ac7 hk _
theorem A3d {s t:RepS} (hj:t.j=s.j) (hm:t.m=s.m):A5 t=A5 s/\Ax t=Ax s/\∀ n,RT t n=RT s n:=by
 unfold A5 Ax RT; rw [hj,hm]; exact ⟨rfl,rfl,fun _=>rfl⟩
theorem GW.move {c:Cfg} {s:CtlS} (h:GW c s) (hk:s.le.rep.j.kind ≠ 0):GW c (Dm s ⟨3,0,0,0,0,0⟩)/\(Dm s ⟨3,0,0,0,0,0⟩).d=s.d/\(Dm s ⟨3,0,0,0,0,0⟩).cur=s.cur /\
    ∀ n,Lns c.ly n->RT (Dm s ⟨3,0,0,0,0,0⟩).le.rep n=(if RT s.le.rep n=A5 s.le.rep then Ax s.le.rep else RT s.le.rep n)/\RT s.le.rep n ≠ Ax s.le.rep:=by
 obtain ⟨a,b,d⟩:=Aov h.ri hk
 have e:(Dm s ⟨3,0,0,0,0,0⟩).le.rep=Du s.le.rep:=B06 rfl
 refine ⟨⟨by rw [e]; exact a,(O8 _ _).trans h.cf,by rw [e]; exact b.trans h.ly,h.g,h.md,h.gh⟩,rfl,rfl,fun n hn=>?_⟩
 rw [e]
 exact d n (by rw [h.ly]; exact hn)
theorem GW.note {c:Cfg} {s:CtlS} (h:GW c s) {x:Nt} (hx:x.kind ≠ 3):GW c (Dm s x)/\StH s.le.rep (Dm s x).le.rep:=by
 obtain ⟨q1,q2⟩:=Aux h.ri hx
 exact ⟨⟨q1,(O8 _ _).trans h.cf,q2.l.trans h.ly,h.g,h.md,h.gh⟩,q2⟩
theorem GW.rt {c:Cfg} {s t:CtlS} (h:GW c s) (k:GW c t) (e:StH s.le.rep t.le.rep) {n:Int} (hn:Lns c.ly n):RT t.le.rep n=RT s.le.rep n:=Au7 h.ri.w k.ri.w e (by rw [h.ly]; exact hn)
theorem GW.inj {c:Cfg} {s:CtlS} (h:GW c s) {n m:Int} (hn:Lns c.ly n) (hm:Lns c.ly m) (e:RT s.le.rep n=RT s.le.rep m):n=m:=Avt h.ri.w (by rw [h.ly]; exact hn) (by rw [h.ly]; exact hm) e
theorem GW.next {c:Cfg} {s:CtlS} (h:GW c s) (hk:s.le.rep.j.kind ≠ 0):c.ly.g.atB (A5 s.le.rep)=true/\c.ly.g.atB (Ax s.le.rep)=true:=by
 obtain ⟨a,b,_,d,e⟩:=S0 h.ri hk
 rw [h.ly] at d e
 rw [a,b]
 exact ⟨K5 d,K5 e⟩
theorem GW.inject {c:Cfg} {s:CtlS} (h:GW c s) (f:Flt):GW c { s with d:=Ig s.d f }:=by
 obtain ⟨a,b⟩:=Vq s.d.d f
 exact ⟨h.ri,h.cf,h.ly,b.trans h.g,a.trans h.md,h.gh⟩
theorem Z8 {c:Cfg} (hc:A8 c=true) {k:Int} (hk:Lns c.ly k):Lns c.ly ((IntKind.i64.wrap (k + 1)).tmod (IntKind.i64.wrap ((A0 c.ly) * c.ly.g.cols))):=by
 have hl:=C0 (Ho hc).1
 unfold Lns at hk ⊢
 rw [Ca (x:=k + 1) (by omega),Int.tmod_eq_emod_of_nonneg (by omega)]
 exact Fi (by omega)
theorem A5y (s:MchS) (x:Stp):(Az s x).c=bif decide (x.kind=1) then An s.c x.line s.c.le.c.back else (bif decide (x.kind=2) then Ah s.c x.line (arL x.data 64 0) 18446744073709551615 else Ah s.c x.line (arL x.data 64 0) x.mask):=by
 unfold Az
 cases decide (x.kind=1) with
 | true=>simp only [cond_true]; exact Ad (p:=fun t:MchS=>t.c=An s.c x.line s.c.le.c.back) rfl rfl
 | false =>
   cases decide (x.kind=2) with
   | true=>simp only [cond_true,cond_false]; exact Ad (p:=fun t:MchS=>t.c=Ah s.c x.line (arL x.data 64 0) 18446744073709551615) rfl rfl
   | false=>simp only [cond_false]; exact Ad (p:=fun t:MchS=>t.c=Ah s.c x.line (arL x.data 64 0) x.mask) rfl rfl
theorem lnA {f:Nat->Nat} {j:Nat} (hj:j < 64):Uc (arL f 64 0) j=f j:=by
 show (arL f 64 0).getD j 0=_
 rw [Nm,if_pos hj,Nat.zero_add]
theorem Anl (s:MchS) {x:Stp} (hr:Br x=true):(x.kind=4->(Al s x).c=D8 s.c)/\(x.kind=5->(Al s x).c=Db s.c)/\(x.kind=6->(Al s x).c=Dl s.c)/\(x.kind=7->(Al s x).c=Yy s.c)/\(x.kind=8->(Al s x).c={ s.c with d:=Ig s.c.d x.f }):=by
 unfold Al
 rw [hr,cond_true]
 refine ⟨fun q=>?_,fun q=>?_,fun q=>?_,fun q=>?_,fun q=>?_⟩
 ·rw [tq q]; rfl
 ·rw [fq (show ¬ x.kind=4 by omega),tq q]; rfl
 ·rw [fq (show ¬ x.kind=4 by omega),fq (show ¬ x.kind=5 by omega),tq q]; rfl
 ·rw [fq (show ¬ x.kind=4 by omega),fq (show ¬ x.kind=5 by omega),fq (show ¬ x.kind=6 by omega),tq q]; rfl
 ·rw [fq (show ¬ x.kind=4 by omega),fq (show ¬ x.kind=5 by omega),fq (show ¬ x.kind=6 by omega),fq (show ¬ x.kind=7 by omega),tq q]
  unfold Bn
  simp only [cond_true,cond_false]
  exact Ad (p:=fun t:MchS=>t.c={ s.c with d:=Ig s.c.d x.f }) rfl rfl
