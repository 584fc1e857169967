import Derived.Test.YtfhiggfmkjmeiaaGreatLSv
import Derived.Test.YtfhiggfmkjmeiaaGreatLEl
import Derived.Test.YtfhiggfmkjmeiaaGreatLRu
import Derived.Test.YtfhiggfmkjmeiaaGreatFJue
set_option linter.unusedVariables false
set_option linter.unusedSimpArgs false
set_option linter.unusedSectionVars false
namespace Go.Proofs.YtfhiggfmkjmeiaaGreat
open Go Go.RowKit
theorem at_b {g:Gm} {i:Int} (h:g.atE i=0):g.atB i=true:=by
 unfold Gm.atE at h
 cases q:g.atB i with
 | true=>rfl
 | false=>rw [q] at h; exact absurd h (by decide)
theorem went_at {s:DramS} {i:Int} (h:s.g.atE i=0):s.g.atE (dWent_v0 s i)=0:=by
 unfold dWent_v0
 refine bifG (p:=fun x:Int=>s.g.atE x=0) h (bifG (p:=fun x:Int=>s.g.atE x=0) h ?_)
 generalize (⟨(s.co.getD 0 flt0).rank,(s.co.getD 0 flt0).bank,(s.co.getD 0 flt0).row,(s.co.getD 0 flt0).col⟩:Pl)=q
 unfold Gm.ixE Gm.ix
 cases hh:s.g.holds q with
 | false=>exact h
 | true=>exact atE_0 (atB_ix hh)
def rdA (s:DevS) (i:Int):Acc:=⟨false,i,dRead_v1 s.d i,dRead_v2 s.d i,((exposure_v0 s.d.mode (dRead_v0 s.d i) (s.gh (dRead_v1 s.d i)):Nat):Int),bif dRead_v2 s.d i then false else decide (s.mks (dRead_v1 s.d i)=1)⟩
def wrA (s:DevS) (i:Int) (r:Nat->Nat):Acc:=⟨true,i,dWrite_v0 s.d i r,dWrite_v1 s.d i r,0,false⟩
theorem vRead_a {s:DevS} {i:Int} (h:s.d.g.atE i=0):vRead_s s i=⟨dRead_s s.d i,s.gh,s.mks,s.l ++ [rdA s i]⟩∧vRead_v0 s i=dRead_v0 s.d i:=by
 unfold vRead_s vRead_v0 rdA
 rw [dRead_0 h,(dRead_x s.d i).1]
 cases dRead_v2 s.d i <;> exact ⟨rfl,rfl⟩
theorem vput_a {s:DevS} {i m:Int} {r:Nat->Nat} (h:s.d.g.atE i=0):vput_s s i r m=⟨dWrite_s s.d i r,upZ s.gh i r,upZ s.mks i m,s.l ++ [wrA s i r]⟩:=by
 have e:dWrite_v2 s.d i r=0:=by unfold dWrite_v2; rw [h]; rfl
 unfold vput_s wrA
 rw [e]; rfl
def stray (a:Acc):Prop:=a.drop=true ∨ a.went ≠ a.index
theorem stray_t {a:Acc}:jstray_v0 a=true ↔ stray a:=by
 unfold jstray_v0 stray
 cases a.drop with
 | true=>exact ⟨fun _=>Or.inl rfl,fun _=>rfl⟩
 | false =>
   simp only [cond_false]
   constructor
   ·intro h; right; intro e; rw [decide_eq_true e] at h; cases h
   ·intro h
    rcases h with h | h
    ·cases h
    ·rw [decide_eq_false h]; rfl
def aExp (a:Acc):Int:=if a.mark=true then a.exp + 1 else a.exp
def AccIn (l:List Acc):Prop:=∀ i,0<=(l.getD i eAcc0).exp∧(l.getD i eAcc0).exp<=100
theorem AccIn.app {l:List Acc} {a:Acc} (h:AccIn l) (ha:0<=a.exp∧a.exp<=100):AccIn (l ++ [a]):=fun i=>by
 rcases Nat.lt_trichotomy i l.length with q | q | q
 ·rw [getD_app0 _ _ _ q]; exact h i
 ·subst q; rw [getD_app1]; exact ha
 ·rw [List.getD_eq_getElem?_getD,List.getElem?_eq_none (by rw [List.length_append]; exact q)]; exact ⟨Int.le_refl _,by decide⟩
theorem jadd_exp {l:Lk} {m:Int} {a:Acc} (ha:0<=a.exp∧a.exp<=100) (k:Int):(jadd_r l m a).exp<=k ↔ l.exp<=k∧(¬ stray a->aExp a<=k):=by
 have key:(jadd_r l m a).exp=if jstray_v0 a=true then l.exp else (if aExp a > l.exp then aExp a else l.exp):=by
  unfold jadd_r aExp
  cases jstray_v0 a with
  | true =>
    simp only [cond_true,if_true]
    cases l.drop <;> cases a.write <;> cases a.drop <;> cases japart_v0 m a.index a.went <;> rfl
  | false =>
    simp only [cond_false,Bool.false_eq_true,if_false]
    cases a.mark with
    | true=>simp only [cond_true,if_true]; rw [wrapN (by omega)]
    | false=>rfl
 rw [key]
 by_cases h:jstray_v0 a=true
 ·rw [if_pos h]; exact ⟨fun x=>⟨x,fun y=>absurd (stray_t.1 h) y⟩,fun x=>x.1⟩
 ·rw [if_neg h]
  have hs:¬ stray a:=fun x=>h (stray_t.2 x)
  constructor
  ·intro x
   split at x
   ·exact ⟨by omega,fun _=>x⟩
   ·exact ⟨x,fun _=>by omega⟩
  ·rintro ⟨x,y⟩
   have:=y hs
   split <;> omega
theorem jadd_drop {l:Lk} {m:Int} {a:Acc}:(jadd_r l m a).drop=false ↔ l.drop=false∧(stray a->a.drop=false∧a.exp<=0):=by
 have e:stray a ↔ jstray_v0 a=true:=stray_t.symm
 rw [e]
 unfold jadd_r
 cases jstray_v0 a with
 | true =>
   simp only [cond_true]
   cases l.drop <;> cases a.write <;> cases a.drop <;> cases japart_v0 m a.index a.went <;> simp <;> omega
 | false=>cases a.mark <;> simp
theorem jadd_tell {l:Lk} {m:Int} {a:Acc} (hw:a.write=false):(jadd_r l m a).tell=true ↔ l.tell=true∧(stray a->a.drop=false->japart_v0 m a.index a.went=true):=by
 have e:stray a ↔ jstray_v0 a=true:=stray_t.symm
 rw [e]
 unfold jadd_r
 rw [hw]
 cases jstray_v0 a with
 | true =>
   simp only [cond_true]
   cases l.drop <;> cases a.drop <;> cases japart_v0 m a.index a.went <;> simp
 | false=>cases a.mark <;> simp
theorem see_exp {m:Int} {l:List Acc} (hl:AccIn l) {a:Nat} {k:Int} (hk:0<=k):∀ {n:Nat},(jsee m l a n).exp<=k ↔ ∀ i,i < n->¬ stray (l.getD (a + i) eAcc0)->aExp (l.getD (a + i) eAcc0)<=k
 | 0=>⟨fun _ i h=>absurd h (Nat.not_lt_zero i),fun _=>hk⟩
 | n + 1=>by
   rw [jsee,jadd_exp (hl _),see_exp hl hk (n:=n)]
   constructor
   ·intro h i hi
    by_cases e:i=n
    ·rw [e]; exact h.2
    ·exact h.1 i (by omega)
   ·intro h; exact ⟨fun i hi=>h i (by omega),h n (by omega)⟩
def WA (m:Int) (a:Acc):Prop:=a.write=false->(¬ stray a->aExp a<=1 + m)∧(stray a->a.drop=false∧a.exp<=0∧japart_v0 m a.index a.went=true)
theorem rd_see {m:Int} {l:List Acc} (hl:AccIn l) {k:Int} (hk:0<=k):∀ {n:Nat},((jrd m l n).exp<=k∧(jrd m l n).drop=false∧(jrd m l n).tell=true)->∀ i,i < n->(l.getD i eAcc0).write=false->(¬ stray (l.getD i eAcc0)->aExp (l.getD i eAcc0)<=k)∧(stray (l.getD i eAcc0)->(l.getD i eAcc0).drop=false∧(l.getD i eAcc0).exp<=0∧japart_v0 m (l.getD i eAcc0).index (l.getD i eAcc0).went=true)
 | 0,_,i,h,_=>absurd h (Nat.not_lt_zero i)
 | n + 1, h, i, hi, hw => by
   rw [jrd] at h
   cases q:(l.getD n eAcc0).write with
   | true =>
     rw [q,cond_true] at h
     have:i ≠ n:=fun e=>by rw [e,q] at hw; cases hw
     exact rd_see hl hk h i (by omega) hw
   | false =>
     rw [q,cond_false,jadd_exp (hl n),jadd_drop,jadd_tell q] at h
     obtain ⟨⟨h1,h2⟩,⟨h3,h4⟩,⟨h5,h6⟩⟩:=h
     by_cases e:i=n
     ·subst e
      exact ⟨h2,fun x=>⟨(h4 x).1,(h4 x).2,h6 x (h4 x).1⟩⟩
     ·exact rd_see hl hk ⟨h1,h3,h5⟩ i (by omega) hw
theorem expo_le {m:Int} {r q:Nat->Nat} (hr:∀ j,r j < 256) (hq:∀ j,q j < 256):exposure_v0 m r q<=100:=by
 unfold exposure_v0
 refine bifG (p:=fun x:Nat=>x<=100) ?_ ?_
 ·exact ex1_le.2 fun i _=>Nat.le_trans (dfF_le (wordR_B8 hr _ _) (wordR_B8 hq _ _) 9) (by decide)
 ·exact ex2_le.2 fun i _=>Nat.le_trans (unF_le _ _ 36) (by decide)
theorem dec_3 {m:Int} (hm:m=1 ∨ m=2) (r:Nat->Nat) (n:Int):dec_v1 m r n<=3:=by
 rcases hm with rfl | rfl
 ·rw [(md1 r r n false).2.2.1]
  refine jkB.2 fun i _=>?_
  unfold bitK
  split
  ·omega
  ·split
   ·omega
   ·split <;> omega
 ·rw [(md2 r r n false).2.2.1]
  refine jkC.2 fun i _=>?_
  unfold chK
  split
  ·omega
  ·split
   ·omega
   ·split <;> omega
theorem dec_z {m:Int} (hm:m=1 ∨ m=2) {r:Nat->Nat} {n:Int} (h:2<=dec_v1 m r n):dec_v0 m r n=fun _=>0:=by
 rcases hm with rfl | rfl
 ·rw [(md1 r r n false).2.2.1] at h
  rw [(md1 r r n false).2.1]
  unfold dlB; rw [decide_eq_true (by omega)]; rfl
 ·rw [(md2 r r n false).2.2.1] at h
  rw [(md2 r r n false).2.1]
  unfold dlC; rw [decide_eq_true (by omega)]; rfl
theorem told_2 {k:Nat} (f:Int) (h:k<=3):told_v0 ((k:Nat):Int) f=if k<=1 then 0 else if k=2 then 41 else 40:=by
 unfold told_v0
 rcases (by omega:k=0 ∨ k=1 ∨ k=2 ∨ k=3) with rfl | rfl | rfl | rfl <;> rfl
theorem apart_t {m:Int} (hm:m=1 ∨ m=2) {a b:Int} (h:japart_v0 m a b=true):apt m a b:=by
 unfold japart_v0 at h
 rcases hm with rfl | rfl
 ·left
  refine ⟨rfl,fun e=>?_⟩
  rw [decide_eq_true (show (1:Int)=1 from rfl),cond_true,decide_eq_true (by rw [e])] at h
  cases h
 ·right
  refine ⟨rfl,?_⟩
  rw [decide_eq_false (show ¬ (2:Int)=1 by decide),cond_false] at h
  have hne:¬ eqA (nf (byF a)) (nf (byF b)) 3 0=true:=fun e=>by rw [e] at h; cases h
  rcases Classical.em (∃ j,j < 3∧byF a j ≠ byF b j) with x | x
  ·exact x
  ·refine absurd (eqA_iff.2 fun j _ hj=>?_) hne
   show ((byF a j:Nat):Int)=((byF b j:Nat):Int)
   rcases Classical.em (byF a j=byF b j) with y | y
   ·rw [y]
   ·exact absurd ⟨j,by omega,y⟩ x
structure GW (c:Cfg) (s:CtlS):Prop where
 ri:RI s.le.rep
 cf:s.le.c=c
 ly:s.le.rep.m.l=c.ly
 g:s.d.d.g=c.ly.g
 md:s.d.d.mode=c.mode
 gh:∀ i,c.ly.g.atB i=true->∃ l:Nat->Nat,(∀ j,l j < 256)∧s.d.gh i=enc_v0 c.mode l i (decide (s.d.mks i=1))
theorem GW.cat {c:Cfg} {s:CtlS} (h:GW c s) {n:Int} (hn:Lns c.ly n):cat_v3 s n=0∧cat_v0 s n=RT s.le.rep n∧c.ly.g.atB (RT s.le.rep n)=true:=by
 have w:=h.ri.w
 have hn':Lns s.le.rep.m.l n:=by rw [h.ly]; exact hn
 have e:jroute_v1 s.le.rep.j s.le.rep.m n=0:=jroute_0 w.ok.m w.mi.mp.lv w.ok.g hn'
 obtain ⟨a,b⟩:=RT_eq w hn'
 refine ⟨by unfold cat_v3; rw [e]; rfl,by unfold cat_v0; rw [e]; rfl,?_⟩
 rw [a]
 rw [h.ly] at b
 exact atB_ix b
theorem GW.verdict {c:Cfg} {s:CtlS} (hc:cfgRight_v0 c=true) (h:GW c s) (dk:DevOk s.d) {i:Int} (hi:c.ly.g.atB i=true) :
   (2<=dec_v1 c.mode (vRead_v0 s.d i) i->stray (rdA s.d i) ∨ 2<=aExp (rdA s.d i) ∨ s.d.mks i=1) ∧
   (dec_v1 c.mode (vRead_v0 s.d i) i<=1->WA c.mode (rdA s.d i)->¬ stray (rdA s.d i)∧aExp (rdA s.d i)<=1∧s.d.mks i ≠ 1∧∀ l:Nat->Nat,(∀ j,l j < 256)->s.d.gh i=enc_v0 c.mode l i false->∀ j,j < 64->dec_v0 c.mode (vRead_v0 s.d i) i j=l j):=by
 have hm:=(cfg_t hc).2.1
 have hat:s.d.d.g.atE i=0:=by rw [h.g]; exact atE_0 hi
 have hr:=fun j=>vRead_lt (s:=s.d) (i:=i) dk j
 obtain ⟨_,e0⟩:=vRead_a hat
 obtain ⟨l,hl,hg⟩:=h.gh i hi
 have ns:¬ stray (rdA s.d i)->dRead_v2 s.d.d i=false∧dRead_v1 s.d.d i=i:=fun x=>by
  constructor
  ·cases q:dRead_v2 s.d.d i with
   | false=>rfl
   | true=>exact absurd (Or.inl q) x
  ·rcases Classical.em (dRead_v1 s.d.d i=i) with q | q
   ·exact q
   ·exact absurd (Or.inr q) x
 have ex:¬ stray (rdA s.d i)->(rdA s.d i).exp=((exposure_v0 c.mode (vRead_v0 s.d i) (s.d.gh i):Nat):Int)∧(rdA s.d i).mark=decide (s.d.mks i=1):=fun x=>by
  obtain ⟨a,b⟩:=ns x
  unfold rdA
  rw [a,b,e0,h.md]; exact ⟨rfl,rfl⟩
 constructor
 ·intro hk
  rcases Classical.em (stray (rdA s.d i)) with x | x
  ·exact Or.inl x
  ·obtain ⟨e1,e2⟩:=ex x
   rcases Classical.em (s.d.mks i=1) with y | y
   ·exact Or.inr (Or.inr y)
   ·right; left
    rw [decide_eq_false y] at e2 hg
    unfold aExp
    rw [e2,if_neg (by decide),e1]
    rcases Nat.lt_or_ge 1 (exposure_v0 c.mode (vRead_v0 s.d i) (s.d.gh i)) with z | z
    ·omega
    ·rw [hg] at z
     have:=(dec_le hl hr i hm z).1
     omega
 ·intro hk hw
  obtain ⟨w1,w2⟩:=hw rfl
  have x:¬ stray (rdA s.d i):=fun x=>by
   obtain ⟨a1,a2,a3⟩:=w2 x
   have d0:dRead_v2 s.d.d i=false:=a1
   have ewent:dRead_v1 s.d.d i=dWent_v0 s.d.d i:=by unfold dRead_v1; rw [hat]; rfl
   have hwi:c.ly.g.atB (dRead_v1 s.d.d i)=true:=by
    rw [ewent,← h.g]; exact at_b (went_at hat)
   obtain ⟨l',hl',hg'⟩:=h.gh _ hwi
   have ez:(rdA s.d i).exp=((exposure_v0 c.mode (vRead_v0 s.d i) (s.d.gh (dRead_v1 s.d.d i)):Nat):Int):=by unfold rdA; rw [e0,h.md]
   have:=dec_ge hl' hr i hm (dRead_v1 s.d.d i) (decide (s.d.mks (dRead_v1 s.d.d i)=1)) (Or.inr (Or.inr ⟨apart_t hm a3,by rw [← hg']; omega⟩))
   omega
  obtain ⟨e1,e2⟩:=ex x
  have w3:=w1 x
  have y:s.d.mks i ≠ 1:=fun y=>by
   rw [decide_eq_true y] at e2 hg
   unfold aExp at w3
   rw [e2,if_pos rfl,e1,hg] at w3
   have:=dec_ge hl hr i hm i true (Or.inr (Or.inl ⟨rfl,rfl,by omega⟩))
   omega
  rw [decide_eq_false y] at e2 hg
  have w4:aExp (rdA s.d i)=((exposure_v0 c.mode (vRead_v0 s.d i) (s.d.gh i):Nat):Int):=by
   unfold aExp; rw [e2,if_neg (by decide),e1]
  have z:exposure_v0 c.mode (vRead_v0 s.d i) (s.d.gh i)<=1:=by
   rcases Nat.lt_or_ge 1 (exposure_v0 c.mode (vRead_v0 s.d i) (s.d.gh i)) with z | z
   ·rw [w4] at w3
    rw [hg] at z w3
    have:=dec_ge hl hr i hm i false (Or.inl ⟨rfl,rfl,z,w3⟩)
    omega
   ·exact z
  refine ⟨x,by omega,y,fun l2 hl2 hg2=>?_⟩
  rw [hg2] at z
  exact (dec_le hl2 hr i hm z).2.1
theorem lapply_le (s:LedS) (x:Nt):(lapply_s s x).c=s.c:=lapply_c s x
theorem GW.take {c:Cfg} {s:CtlS} (h:GW c s) {i:Int} (hi:c.ly.g.atB i=true) (a b:Int):GW c (ctake_s s i a b)∧StH s.le.rep (ctake_s s i a b).le.rep∧(ctake_s s i a b).d=⟨dRead_s s.d.d i,s.d.gh,s.d.mks,s.d.l ++ [rdA s.d i]⟩∧(ctake_s s i a b).cur=s.cur:=by
 have hat:s.d.d.g.atE i=0:=by rw [h.g]; exact atE_0 hi
 obtain ⟨e,_⟩:=vRead_a hat
 have hd:(ctake_s s i a b).d=⟨dRead_s s.d.d i,s.d.gh,s.d.mks,s.d.l ++ [rdA s.d i]⟩:=e
 obtain ⟨q1,q2⟩:=lap_h h.ri (x:=⟨1,((dec_v1 s.le.c.mode (vRead_v0 s.d i) i:Nat):Int),((dec_v2 s.le.c.mode (vRead_v0 s.d i) i:Nat):Int),i,a,b⟩) (show (1:Int) ≠ 3 by decide)
 refine ⟨⟨q1,(lapply_le _ _).trans h.cf,q2.l.trans h.ly,?_,?_,?_⟩,q2,hd,rfl⟩
 ·rw [hd]; exact (dRead_x s.d.d i).2.trans h.g
 ·rw [hd]; exact (dRead_x s.d.d i).1.trans h.md
 ·rw [hd]; exact h.gh
theorem GW.put {c:Cfg} {s:CtlS} (h:GW c s) {i:Int} (hi:c.ly.g.atB i=true) {l:Nat->Nat} (hl:∀ j,l j < 256) (b:Bool):GW c (cput_s s i l b)∧(cput_s s i l b).le=s.le∧(cput_s s i l b).d=⟨dWrite_s s.d.d i (enc_v0 c.mode l i b),upZ s.d.gh i (enc_v0 c.mode l i b),upZ s.d.mks i (if b=true then 1 else 0),s.d.l ++ [wrA s.d i (enc_v0 c.mode l i b)]⟩∧(cput_s s i l b).cur=s.cur:=by
 have hat:s.d.d.g.atE i=0:=by rw [h.g]; exact atE_0 hi
 have hd:(cput_s s i l b).d=⟨dWrite_s s.d.d i (enc_v0 c.mode l i b),upZ s.d.gh i (enc_v0 c.mode l i b),upZ s.d.mks i (if b=true then 1 else 0),s.d.l ++ [wrA s.d i (enc_v0 c.mode l i b)]⟩:=by
  unfold cput_s
  rw [h.cf]
  cases b with
  | true=>exact vput_a hat
  | false=>exact vput_a hat
 have hle:(cput_s s i l b).le=s.le:=by unfold cput_s; cases b <;> rfl
 have hcu:(cput_s s i l b).cur=s.cur:=by unfold cput_s; cases b <;> rfl
 refine ⟨⟨by rw [hle]; exact h.ri,by rw [hle]; exact h.cf,by rw [hle]; exact h.ly,?_,?_,fun k hk=>?_⟩,hle,hd,hcu⟩
 ·rw [hd]; exact (dWrite_x s.d.d i _).2.trans h.g
 ·rw [hd]; exact (dWrite_x s.d.d i _).1.trans h.md
 ·rw [hd]
  show ∃ l':Nat->Nat,_∧upZ s.d.gh i (enc_v0 c.mode l i b) k=enc_v0 c.mode l' k (decide (upZ s.d.mks i (if b=true then 1 else 0) k=1))
  unfold upZ
  by_cases e:k=i
  ·subst e
   rw [if_pos rfl,if_pos rfl]
   refine ⟨l,hl,?_⟩
   cases b <;> rfl
  ·rw [if_neg e,if_neg e]; exact h.gh k hk
def tE (k:Nat):Nat:=if k<=1 then 0 else if k=2 then 41 else 40
theorem tE_0 {k:Nat}:tE k=0 ↔ k<=1:=by
 unfold tE
 by_cases h:k<=1
 ·rw [if_pos h]; exact ⟨fun _=>h,fun _=>rfl⟩
 ·rw [if_neg h]
  refine ⟨fun e=>?_,fun e=>absurd e h⟩
  split at e <;> cases e
def vK (c:Cfg) (s:CtlS) (i:Int):Nat:=dec_v1 c.mode (vRead_v0 s.d i) i
def vD (c:Cfg) (s:CtlS) (i:Int):Nat->Nat:=dec_v0 c.mode (vRead_v0 s.d i) i
section ops
variable {c:Cfg} {s:CtlS} (hc:cfgRight_v0 c=true) (h:GW c s)
include hc h
theorem cread_k {n:Int} (hn:Lns c.ly n) (b:Bool):∃ a1 a2:Int,
    (cread_s s n b=bif decide (vK c s (RT s.le.rep n)=1) then (bif b then cput_s (ctake_s s (RT s.le.rep n) a1 a2) (RT s.le.rep n) (vD c s (RT s.le.rep n)) false else ctake_s s (RT s.le.rep n) a1 a2) else ctake_s s (RT s.le.rep n) a1 a2) ∧
    cread_v0 s n b=vD c s (RT s.le.rep n)∧cread_v1 s n b=tE (vK c s (RT s.le.rep n)):=by
 obtain ⟨e0,e1,_⟩:=h.cat hn
 refine ⟨cat_v1 s n,cat_v2 s n,?_⟩
 unfold cread_s cread_v0 cread_v1 vK vD
 rw [e0,e1,h.cf,told_2 _ (dec_3 (cfg_t hc).2.1 _ _)]
 have e2:decide ((((dec_v1 c.mode (vRead_v0 s.d (RT s.le.rep n)) (RT s.le.rep n):Nat)):Int)=1)=decide (dec_v1 c.mode (vRead_v0 s.d (RT s.le.rep n)) (RT s.le.rep n)=1):=by
  by_cases q:dec_v1 c.mode (vRead_v0 s.d (RT s.le.rep n)) (RT s.le.rep n)=1
  ·rw [q]; rfl
  ·rw [decide_eq_false q,decide_eq_false (by omega)]
 rw [e2]
 exact ⟨rfl,rfl,rfl⟩
theorem cMasked_k {n:Int} (hn:Lns c.ly n) (l:List Nat) {m:Nat} (hm:m ≠ 0):∃ a1 a2:Int,
    (cMasked_s s n l m=if wt m=64 then cput_s s (RT s.le.rep n) (lnOf l) false else if vK c s (RT s.le.rep n)<=1 then cput_s (ctake_s s (RT s.le.rep n) a1 a2) (RT s.le.rep n) (mgF (vD c s (RT s.le.rep n)) (lnOf l) m) false else cput_s (ctake_s s (RT s.le.rep n) a1 a2) (RT s.le.rep n) (fun _=>0) true) ∧
    cMasked_v0 s n l m=if wt m=64 then 0 else tE (vK c s (RT s.le.rep n)):=by
 obtain ⟨e0,e1,_⟩:=h.cat hn
 refine ⟨cat_v1 s n,cat_v2 s n,?_⟩
 unfold cMasked_s cMasked_v0
 rw [e0,e1,h.cf,told_2 _ (dec_3 (cfg_t hc).2.1 _ _),decide_eq_false (show ¬ ((m:Nat):Int)=0 by omega)]
 rw [show decide ((((0:Nat)):Int)=0)=true from rfl]
 simp only [cond_true,cond_false]
 by_cases q:wt m=64
 ·rw [decide_eq_true (show ((wt m:Nat):Int)=64 by omega),if_pos q,if_pos q]; exact ⟨rfl,rfl⟩
 ·rw [decide_eq_false (show ¬ ((wt m:Nat):Int)=64 by omega),if_neg q,if_neg q]
  have ht:(if dec_v1 c.mode (vRead_v0 s.d (RT s.le.rep n)) (RT s.le.rep n)<=1 then 0 else if dec_v1 c.mode (vRead_v0 s.d (RT s.le.rep n)) (RT s.le.rep n)=2 then 41 else 40:Nat)=tE (vK c s (RT s.le.rep n)):=rfl
  rw [ht]
  by_cases k:vK c s (RT s.le.rep n)<=1
  ·rw [tE_0.2 k,if_pos k]; exact ⟨rfl,rfl⟩
  ·have k2:tE (vK c s (RT s.le.rep n)) ≠ 0:=fun e=>k (tE_0.1 e)
   rw [decide_eq_false (show ¬ ((tE (vK c s (RT s.le.rep n)):Nat):Int)=0 by omega),if_neg k]; exact ⟨rfl,rfl⟩
theorem ccopy_0 (hk:s.le.rep.j.kind=0):cCopy_s s=s∧cCopy_v0 s=51:=by
 have e:rpNext_v2 s.le.rep=51:=by unfold rpNext_v2; rw [decide_eq_true hk]; rfl
 unfold cCopy_s cCopy_v0
 rw [e]; exact ⟨rfl,rfl⟩
def cpS (c:Cfg) (s:CtlS) (a1 a2:Int):CtlS:=bif mUsed_v0 s.le.rep.m (srcH s.le.rep) then cput_s (ctake_s s (rpNext_v0 s.le.rep) a1 a2) (rpNext_v1 s.le.rep) (vD c s (rpNext_v0 s.le.rep)) (decide (2<=vK c s (rpNext_v0 s.le.rep))) else cput_s s (rpNext_v1 s.le.rep) (fun _=>0) false
theorem ccopy_k (hk:s.le.rep.j.kind ≠ 0):∃ a1 a2:Int,cCopy_s s=cnote_s (cpS c s a1 a2) ⟨3,0,0,0,0,0⟩∧cCopy_v0 s=0:=by
 obtain ⟨_,_,e,_,_⟩:=next_eq h.ri hk
 refine ⟨csource_v0 s (rpNext_v0 s.le.rep),csource_v1 s (rpNext_v0 s.le.rep),?_⟩
 unfold cCopy_s cCopy_v0
 rw [e]
 refine ⟨?_,rfl⟩
 show cnote_s (ccopy_j1 s) _=_
 unfold ccopy_j1 cpS vD vK
 rw [h.cf]
 have e2:decide (2<=(((dec_v1 c.mode (vRead_v0 s.d (rpNext_v0 s.le.rep)) (rpNext_v0 s.le.rep)):Nat):Int))=decide (2<=dec_v1 c.mode (vRead_v0 s.d (rpNext_v0 s.le.rep)) (rpNext_v0 s.le.rep)):=by
  by_cases q:2<=dec_v1 c.mode (vRead_v0 s.d (rpNext_v0 s.le.rep)) (rpNext_v0 s.le.rep)
  ·rw [decide_eq_true q,decide_eq_true (by omega)]
  ·rw [decide_eq_false q,decide_eq_false (by omega)]
 rw [e2]; rfl
end ops
theorem ask_busy {s:RepS} (hk:s.j.kind ≠ 0) (a:Ak):(rpAsk_s s a).j=s.j∧(rpAsk_s s a).m=s.m:=by
 let p:=fun t:RepS=>t.j=s.j∧t.m=s.m
 unfold rpAsk_s
 rw [decide_eq_false hk]
 exact bifG (p:=p) ⟨rfl,rfl⟩ ⟨rfl,rfl⟩
theorem judge_busy {s:LedS} (hk:s.rep.j.kind ≠ 0) (x:Nt):(ljudge_s s x).rep.j=s.rep.j∧(ljudge_s s x).rep.m=s.rep.m:=by
 let p:=fun t:LedS=>t.rep.j=s.rep.j∧t.rep.m=s.rep.m
 have hc:∀ (t:LedS) (k:Int) (l:List Ev) (i:Nat),p t->p (lcame t k l i):=fun t k l i h=>by show _∧_; rw [lcame_rep]; exact h
 have ha:∀ (t:LedS) (a:Ak),p t->(rpAsk_s t.rep a).j=s.rep.j∧(rpAsk_s t.rep a).m=s.rep.m:=fun t a h=>by
  obtain ⟨a1,a2⟩:=ask_busy (s:=t.rep) (by rw [h.1]; exact hk) a
  exact ⟨a1.trans h.1,a2.trans h.2⟩
 have h0:p s:=⟨rfl,rfl⟩
 have j1:p (ljudge_j1 s x):=by unfold ljudge_j1; exact bifG (p:=p) (hc _ _ _ _ (ha s _ h0)) h0
 have j2:p (ljudge_j2 s x):=by unfold ljudge_j2; exact bifG (p:=p) (hc _ _ _ _ (ha _ _ j1)) j1
 have j3:p (ljudge_j3 s x):=by unfold ljudge_j3; exact bifG (p:=p) (hc _ _ _ _ (ha s _ h0)) h0
 have j4:p (ljudge_j4 s x):=by unfold ljudge_j4; exact bifG (p:=p) (hc _ _ _ _ (ha _ _ j3)) j3
 unfold ljudge_s
 exact bifG (p:=p) h0 (bifG (p:=p) j2 (bifG (p:=p) h0 j4))
theorem take_busy {s:CtlS} (hk:s.le.rep.j.kind ≠ 0) (i a b:Int):(ctake_s s i a b).le.rep.j=s.le.rep.j∧(ctake_s s i a b).le.rep.m=s.le.rep.m:=judge_busy hk _
theorem next_same {s t:RepS} (hj:t.j=s.j) (hm:t.m=s.m):rpNext_v0 t=rpNext_v0 s∧rpNext_v1 t=rpNext_v1 s∧∀ n,RT t n=RT s n:=by
 unfold rpNext_v0 rpNext_v1 RT; rw [hj,hm]; exact ⟨rfl,rfl,fun _=>rfl⟩
theorem GW.move {c:Cfg} {s:CtlS} (h:GW c s) (hk:s.le.rep.j.kind ≠ 0):GW c (cnote_s s ⟨3,0,0,0,0,0⟩)∧(cnote_s s ⟨3,0,0,0,0,0⟩).d=s.d∧(cnote_s s ⟨3,0,0,0,0,0⟩).cur=s.cur ∧
    ∀ n,Lns c.ly n->RT (cnote_s s ⟨3,0,0,0,0,0⟩).le.rep n=(if RT s.le.rep n=rpNext_v0 s.le.rep then rpNext_v1 s.le.rep else RT s.le.rep n)∧RT s.le.rep n ≠ rpNext_v1 s.le.rep:=by
 obtain ⟨a,b,d⟩:=rpStep_h h.ri hk
 have e:(cnote_s s ⟨3,0,0,0,0,0⟩).le.rep=rpStep_s s.le.rep:=lap_3 rfl
 refine ⟨⟨by rw [e]; exact a,(lapply_c _ _).trans h.cf,by rw [e]; exact b.trans h.ly,h.g,h.md,h.gh⟩,rfl,rfl,fun n hn=>?_⟩
 rw [e]
 exact d n (by rw [h.ly]; exact hn)
theorem GW.note {c:Cfg} {s:CtlS} (h:GW c s) {x:Nt} (hx:x.kind ≠ 3):GW c (cnote_s s x)∧StH s.le.rep (cnote_s s x).le.rep:=by
 obtain ⟨q1,q2⟩:=lap_h h.ri hx
 exact ⟨⟨q1,(lapply_c _ _).trans h.cf,q2.l.trans h.ly,h.g,h.md,h.gh⟩,q2⟩
theorem GW.rt {c:Cfg} {s t:CtlS} (h:GW c s) (k:GW c t) (e:StH s.le.rep t.le.rep) {n:Int} (hn:Lns c.ly n):RT t.le.rep n=RT s.le.rep n:=RT_hs h.ri.w k.ri.w e (by rw [h.ly]; exact hn)
theorem GW.inj {c:Cfg} {s:CtlS} (h:GW c s) {n m:Int} (hn:Lns c.ly n) (hm:Lns c.ly m) (e:RT s.le.rep n=RT s.le.rep m):n=m:=RT_inj h.ri.w (by rw [h.ly]; exact hn) (by rw [h.ly]; exact hm) e
theorem GW.next {c:Cfg} {s:CtlS} (h:GW c s) (hk:s.le.rep.j.kind ≠ 0):c.ly.g.atB (rpNext_v0 s.le.rep)=true∧c.ly.g.atB (rpNext_v1 s.le.rep)=true:=by
 obtain ⟨a,b,_,d,e⟩:=next_eq h.ri hk
 rw [h.ly] at d e
 rw [a,b]
 exact ⟨atB_ix d,atB_ix e⟩
theorem GW.inject {c:Cfg} {s:CtlS} (h:GW c s) (f:Flt):GW c { s with d:=vInject_s s.d f }:=by
 obtain ⟨a,b⟩:=dInject_x s.d.d f
 exact ⟨h.ri,h.cf,h.ly,b.trans h.g,a.trans h.md,h.gh⟩
theorem cur_next {c:Cfg} (hc:cfgRight_v0 c=true) {k:Int} (hk:Lns c.ly k):Lns c.ly ((IntKind.i64.wrap (k + 1)).tmod (IntKind.i64.wrap ((lySeen_v0 c.ly) * c.ly.g.cols))):=by
 have hl:=ly_rt (cfg_t hc).1
 unfold Lns at hk ⊢
 rw [wrapN (x:=k + 1) (by omega),Int.tmod_eq_emod_of_nonneg (by omega)]
 exact modB (by omega)
theorem mReq_c (s:MchS) (x:Stp):(mRequest_s s x).c=bif decide (x.kind=1) then cread_s s.c x.line s.c.le.c.back else (bif decide (x.kind=2) then cMasked_s s.c x.line (arL x.data 64 0) 18446744073709551615 else cMasked_s s.c x.line (arL x.data 64 0) x.mask):=by
 unfold mRequest_s
 cases decide (x.kind=1) with
 | true=>simp only [cond_true]; exact bifG (p:=fun t:MchS=>t.c=cread_s s.c x.line s.c.le.c.back) rfl rfl
 | false =>
   cases decide (x.kind=2) with
   | true=>simp only [cond_true,cond_false]; exact bifG (p:=fun t:MchS=>t.c=cMasked_s s.c x.line (arL x.data 64 0) 18446744073709551615) rfl rfl
   | false=>simp only [cond_false]; exact bifG (p:=fun t:MchS=>t.c=cMasked_s s.c x.line (arL x.data 64 0) x.mask) rfl rfl
theorem lnA {f:Nat->Nat} {j:Nat} (hj:j < 64):lnOf (arL f 64 0) j=f j:=by
 show (arL f 64 0).getD j 0=_
 rw [arL_at,if_pos hj,Nat.zero_add]
theorem mDo_k (s:MchS) {x:Stp} (hr:stpRight x=true):(x.kind=4->(mDo_s s x).c=cScrub_s s.c)∧(x.kind=5->(mDo_s s x).c=cCopy_s s.c)∧(x.kind=6->(mDo_s s x).c=cTick_s s.c)∧(x.kind=7->(mDo_s s x).c=cClear_s s.c)∧(x.kind=8->(mDo_s s x).c={ s.c with d:=vInject_s s.c.d x.f }):=by
 unfold mDo_s
 rw [hr,cond_true]
 refine ⟨fun q=>?_,fun q=>?_,fun q=>?_,fun q=>?_,fun q=>?_⟩
 ·rw [decide_eq_true q]; rfl
 ·rw [decide_eq_false (show ¬ x.kind=4 by omega),decide_eq_true q]; rfl
 ·rw [decide_eq_false (show ¬ x.kind=4 by omega),decide_eq_false (show ¬ x.kind=5 by omega),decide_eq_true q]; rfl
 ·rw [decide_eq_false (show ¬ x.kind=4 by omega),decide_eq_false (show ¬ x.kind=5 by omega),decide_eq_false (show ¬ x.kind=6 by omega),decide_eq_true q]; rfl
 ·rw [decide_eq_false (show ¬ x.kind=4 by omega),decide_eq_false (show ¬ x.kind=5 by omega),decide_eq_false (show ¬ x.kind=6 by omega),decide_eq_false (show ¬ x.kind=7 by omega),decide_eq_true q]
  unfold mInject_s
  simp only [cond_true,cond_false]
  exact bifG (p:=fun t:MchS=>t.c={ s.c with d:=vInject_s s.c.d x.f }) rfl rfl
end Go.Proofs.YtfhiggfmkjmeiaaGreat
