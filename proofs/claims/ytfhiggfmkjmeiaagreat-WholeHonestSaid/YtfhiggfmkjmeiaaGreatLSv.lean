import Derived.Test.YtfhiggfmkjmeiaaGreatLNj
import Derived.Test.YtfhiggfmkjmeiaaGreatFR24
import Derived.Test.YtfhiggfmkjmeiaaGreatJRun
set_option linter.unusedVariables false
set_option linter.unusedSimpArgs false
set_option linter.unusedSectionVars false
namespace Go.Proofs.YtfhiggfmkjmeiaaGreat
open Go Go.RowKit
def SE (a b:MchS):Prop:=∃ k,b={ a with steps:=k }
theorem SE.refl (a:MchS):SE a a:=⟨a.steps,rfl⟩
theorem SE.c {a b:MchS} (h:SE a b):b.c=a.c:=by obtain ⟨x,rfl⟩:=h; rfl
def stpBad (c:Cfg) (x:Stp):Prop:=stpRight x=false ∨ (x.kind<=3∧(x.line < 0 ∨ IntKind.i64.wrap ((lySeen_v0 c.ly) * c.ly.g.cols)<=x.line ∨ (x.kind=3∧x.mask=0)))
theorem cread_30 {s:CtlS} {i:Int} {b:Bool} (h:cat_v3 s i=30):cread_s s i b=s∧cread_v1 s i b=30∧cread_v0 s i b=fun _=>0:=by
 unfold cread_s cread_v1 cread_v0
 rw [h]; exact ⟨rfl,rfl,rfl⟩
theorem cMasked_30 {s:CtlS} {i:Int} {l:List Nat} {m:Nat} (h:cat_v3 s i=30 ∨ m=0):cMasked_s s i l m=s∧cMasked_v0 s i l m=30:=by
 unfold cMasked_s cMasked_v0
 rcases h with h | rfl
 ·rw [h]; exact ⟨rfl,rfl⟩
 ·rw [show decide ((((0:Nat)):Int)=0)=true from rfl]
  simp only [cond_true]
  exact ⟨bifG (p:=fun t:CtlS=>t=s) rfl rfl,bifG (p:=fun t:Nat=>t=30) rfl rfl⟩
theorem bad_do {c:Cfg} {a:MchS} {x:Stp} (hl:a.c.le.rep.m.l=c.ly) (h:stpBad c x):SE a (mDo_s a x)∧(mDo_v0 a x=60 ∨ mDo_v0 a x=30)∧mDo_v2 a x=fun _=>0:=by
 cases hr:stpRight x with
 | false =>
   unfold mDo_s mDo_v0 mDo_v2
   rw [hr]; exact ⟨SE.refl a,Or.inl rfl,rfl⟩
 | true =>
   rcases h with h | ⟨hk,h⟩
   ·rw [h] at hr; cases hr
   ·have hm : SE a (mRequest_s { a with steps := IntKind.i64.wrap (a.steps + 1) } x) ∧ mRequest_v0 { a with steps := IntKind.i64.wrap (a.steps + 1) } x = 30 ∧ mRequest_v1 { a with steps := IntKind.i64.wrap (a.steps + 1) } x = fun _ => 0 := by
     have h2:cat_v3 a.c x.line=30 ∨ (x.kind=3∧x.mask=0):=by
      rcases h with h | h | h
      ·exact Or.inl (cat_30 (Or.inl h))
      ·exact Or.inl (cat_30 (Or.inr (by rw [hl]; exact h)))
      ·exact Or.inr h
     unfold mRequest_s mRequest_v0 mRequest_v1
     cases k1:decide (x.kind=1) with
     | true =>
       have k1:=of_decide_eq_true k1
       have h3:cat_v3 a.c x.line=30:=by rcases h2 with h2 | h2; exact h2; omega
       obtain ⟨e1,e2,e3⟩:=cread_30 (b:=a.c.le.c.back) h3
       simp only [cond_true]
       rw [e1,e2,e3]
       exact ⟨⟨_,rfl⟩,rfl,rfl⟩
     | false =>
       simp only [cond_false]
       cases k2:decide (x.kind=2) with
       | true =>
         have k2:=of_decide_eq_true k2
         have h3:cat_v3 a.c x.line=30:=by rcases h2 with h2 | h2; exact h2; omega
         obtain ⟨e1,e2⟩:=cMasked_30 (l:=arL x.data 64 0) (m:=18446744073709551615) (Or.inl h3)
         simp only [cond_true]
         unfold cWrite_s
         rw [e1,e2]
         exact ⟨⟨_,rfl⟩,rfl,trivial⟩
       | false =>
         have h3:cat_v3 a.c x.line=30 ∨ x.mask=0:=by rcases h2 with h2 | h2; exact Or.inl h2; exact Or.inr h2.2
         obtain ⟨e1,e2⟩:=cMasked_30 (l:=arL x.data 64 0) h3
         simp only [cond_false]
         rw [e1,e2]
         exact ⟨⟨_,rfl⟩,rfl,trivial⟩
    unfold mDo_s mDo_v0 mDo_v2
    rw [hr,decide_eq_false (show ¬ x.kind=4 by omega),decide_eq_false (show ¬ x.kind=5 by omega),decide_eq_false (show ¬ x.kind=6 by omega),decide_eq_false (show ¬ x.kind=7 by omega),decide_eq_false (show ¬ x.kind=8 by omega)]
    simp only [cond_true,cond_false]
    rw [hm.2.1,hm.2.2]
    exact ⟨hm.1,Or.inr rfl,rfl⟩
theorem ff_unique {p:Nat->Bool} {n k:Nat} (h1:k<=n) (h2:∀ j,j < k->p j=false) (h3:k < n->p k=true):ff p n=k:=by
 rcases Nat.lt_trichotomy (ff p n) k with h | h | h
 ·have:=ff_at (p:=p) (n:=n) (by omega)
  rw [h2 _ h] at this; cases this
 ·exact h
 ·have:=ff_lt (p:=p) h
  rw [h3 (by have:=ff_le p n; omega)] at this; cases this
theorem getD_app1 {α:Type} (d:α) (l:List α) (x:α):(l ++ [x]).getD l.length d=x:=by
 rw [List.getD_eq_getElem?_getD,List.getElem?_append_right (Nat.le_refl _),Nat.sub_self]; rfl
theorem getD_app0 {α:Type} (d:α) (l:List α) (x:α) {i:Nat} (h:i < l.length):(l ++ [x]).getD i d=l.getD i d:=by
 rw [List.getD_eq_getElem?_getD,List.getD_eq_getElem?_getD,List.getElem?_append_left h]
theorem dRead_0 {s:DramS} {i:Int} (h:s.g.atE i=0):dRead_v3 s i=0:=by
 have hw:(dWent_s s i).g=s.g:=(dWent_x s i).2
 have hx:s.g.atE (dWent_v0 s i)=0:=by
  unfold dWent_v0
  refine bifG (p:=fun x:Int=>s.g.atE x=0) h (bifG (p:=fun x:Int=>s.g.atE x=0) h ?_)
  generalize (⟨(s.co.getD 0 flt0).rank,(s.co.getD 0 flt0).bank,(s.co.getD 0 flt0).row,(s.co.getD 0 flt0).col⟩:Pl)=q
  unfold Gm.ixE Gm.ix
  cases hh:s.g.holds q with
  | false=>exact h
  | true=>exact atE_0 (atB_ix hh)
 unfold dRead_v3 dLook_v1
 rw [h,hw,hx]
 exact bifG (p:=fun x:Int=>x=0) (bifG (p:=fun x:Int=>x=0) rfl rfl) rfl
theorem vRead_more {s:DevS} {i:Int} (h:s.d.g.atE i=0):s.l.length < (vRead_s s i).l.length:=by
 unfold vRead_s
 rw [dRead_0 h,show decide ((0:Int)=0)=true from rfl,cond_true]
 exact bifG (p:=fun t:DevS=>s.l.length < t.l.length) (by show _ < (s.l ++ [_]).length; rw [List.length_append]; exact Nat.lt_succ_self _) (by show _ < (s.l ++ [_]).length; rw [List.length_append]; exact Nat.lt_succ_self _)
theorem vput_more {s:DevS} {i m:Int} {r:Nat->Nat} (h:s.d.g.atE i=0):s.l.length < (vput_s s i r m).l.length:=by
 have e:dWrite_v2 s.d i r=0:=by unfold dWrite_v2; rw [h]; rfl
 unfold vput_s
 rw [e]
 show _ < (s.l ++ [_]).length
 rw [List.length_append]; exact Nat.lt_succ_self _
theorem cput_more {s:CtlS} {i:Int} {l:Nat->Nat} {b:Bool} (h:s.d.d.g.atE i=0):s.d.l.length < (cput_s s i l b).d.l.length:=by
 unfold cput_s
 exact bifG (p:=fun t:CtlS=>s.d.l.length < t.d.l.length) (vput_more h) (vput_more h)
theorem ctake_more {s:CtlS} {i h r:Int} (he:s.d.d.g.atE i=0):s.d.l.length < (ctake_s s i h r).d.l.length:=vRead_more he
theorem put_le (s:CtlS) (i:Int) (l:Nat->Nat) (b:Bool):s.d.l.length<=(cput_s s i l b).d.l.length:=(cput_x s i l b).len
structure CIn (s:CtlS):Prop where
 le:LIn s.le
 g:s.d.d.g=s.le.rep.m.l.g
theorem CIn.at {s:CtlS} (h:CIn s) {n:Int} (hn:0<=n∧n < IntKind.i64.wrap ((lySeen_v0 s.le.rep.m.l) * s.le.rep.m.l.g.cols)):cat_v3 s n=0∧s.d.d.g.atE (cat_v0 s n)=0:=⟨cat_0 h.le hn,by rw [h.g]; exact cat_at h.le hn⟩
theorem cread_in {s:CtlS} (h:CIn s) {n:Int} {b:Bool} (hn:0<=n∧n < IntKind.i64.wrap ((lySeen_v0 s.le.rep.m.l) * s.le.rep.m.l.g.cols)):s.d.l.length < (cread_s s n b).d.l.length∧cread_v1 s n b ≠ 30:=by
 obtain ⟨h0,h1⟩:=h.at hn
 let p:=fun t:CtlS=>s.d.l.length < t.d.l.length
 have ht:p (ctake_s s (cat_v0 s n) (cat_v1 s n) (cat_v2 s n)):=ctake_more h1
 constructor
 ·unfold cread_s
  rw [h0,show decide ((((0:Nat)):Int)=0)=true from rfl,cond_true]
  exact bifG (p:=p) (bifG (p:=p) (Nat.lt_of_lt_of_le ht (put_le _ _ _ _)) ht) ht
 ·unfold cread_v1
  rw [h0,show decide ((((0:Nat)):Int)=0)=true from rfl,cond_true]
  unfold told_v0
  exact bifG (p:=fun x:Nat=>x ≠ 30) (by decide) (bifG (p:=fun x:Nat=>x ≠ 30) (by decide) (by decide))
theorem cMasked_in {s:CtlS} (h:CIn s) {n:Int} {l:List Nat} {m:Nat} (hm:m ≠ 0) (hn:0<=n∧n < IntKind.i64.wrap ((lySeen_v0 s.le.rep.m.l) * s.le.rep.m.l.g.cols)):s.d.l.length < (cMasked_s s n l m).d.l.length∧cMasked_v0 s n l m ≠ 30:=by
 obtain ⟨h0,h1⟩:=h.at hn
 let p:=fun t:CtlS=>s.d.l.length < t.d.l.length
 have ht:p (ctake_s s (cat_v0 s n) (cat_v1 s n) (cat_v2 s n)):=ctake_more h1
 constructor
 ·unfold cMasked_s
  rw [h0,show decide ((((0:Nat)):Int)=0)=true from rfl,cond_true,decide_eq_false (show ¬ ((m:Nat):Int)=0 by omega),cond_false]
  exact bifG (p:=p) (cput_more h1) (bifG (p:=p) (Nat.lt_of_lt_of_le ht (put_le _ _ _ _)) (Nat.lt_of_lt_of_le ht (put_le _ _ _ _)))
 ·unfold cMasked_v0
  rw [h0,show decide ((((0:Nat)):Int)=0)=true from rfl,cond_true,decide_eq_false (show ¬ ((m:Nat):Int)=0 by omega),cond_false]
  refine bifG (p:=fun x:Nat=>x ≠ 30) (by decide) (bifG (p:=fun x:Nat=>x ≠ 30) (by decide) ?_)
  unfold told_v0
  exact bifG (p:=fun x:Nat=>x ≠ 30) (by decide) (bifG (p:=fun x:Nat=>x ≠ 30) (by decide) (by decide))
theorem mrS_ci {c:Cfg} (h:cfgRight_v0 c=true) (l:List Stp) (i:Nat):CIn (mrS (mNewM_s c) l i).c:=by
 refine ⟨mrS_in h l i,?_⟩
 have h1:=mrS_x (mNewM_s c) l 0 i
 rw [Nat.zero_add] at h1
 rw [mrS_ly,h1.d.g]
 exact (ctlN_x c).g
def srvOf (s:MchS) (x:Stp):Srv:=⟨x,⟨mDo_v0 s x,mDo_v1 s x,mDo_v2 s x⟩,s.ideal x.line,((s.c.d.l.length:Nat):Int),(((mDo_s s x).c.d.l.length:Nat):Int)⟩
def idOf (s:MchS) (x:Stp):Int->Nat->Nat:=bif decide (x.kind=2) then upZ s.ideal x.line (mgF (s.ideal x.line) x.data 18446744073709551615) else (bif decide (x.kind=3) then upZ s.ideal x.line (mgF (s.ideal x.line) x.data x.mask) else s.ideal)
theorem lreq_t {c:Cfg} {x:Stp} (h:lreq_v0 c x=true):stpRight x=true∧x.kind<=3∧(0<=x.line∧x.line < IntKind.i64.wrap ((lySeen_v0 c.ly) * c.ly.g.cols))∧(x.kind=3->x.mask ≠ 0):=by
 unfold lreq_v0 at h
 obtain ⟨h1,h⟩:=cT h
 obtain ⟨h2,h⟩:=cT h
 obtain ⟨h3,h⟩:=cT h
 obtain ⟨h4,h⟩:=cT h
 refine ⟨h1,of_decide_eq_true h2,⟨of_decide_eq_true h3,of_decide_eq_true h4⟩,fun hk hm=>?_⟩
 rw [decide_eq_true hk,hm] at h
 exact absurd h (by decide)
theorem right_k {x:Stp} (h:stpRight x=true):1<=x.kind∧x.kind<=8:=by
 unfold stpRight at h
 cases q:decide (x.kind=8) with
 | true=>have:=of_decide_eq_true q; omega
 | false =>
   rw [q,cond_false] at h
   unfold sright_v0 at h
   cases q1:decide (x.kind < 1) with
   | true=>rw [q1] at h; cases h
   | false =>
     cases q2:decide (8 < x.kind) with
     | true=>rw [q1,q2] at h; cases h
     | false=>have:=of_decide_eq_false q1; have:=of_decide_eq_false q2; omega
theorem mDo_1 {s:MchS} {x:Stp} (hr:stpRight x=true) (hk:x.kind<=3):mDo_s s x=mRequest_s { s with steps:=IntKind.i64.wrap (s.steps + 1) } x∧mDo_v0 s x=((mRequest_v0 { s with steps:=IntKind.i64.wrap (s.steps + 1) } x:Nat):Int)∧mDo_v1 s x=0∧mDo_v2 s x=mRequest_v1 { s with steps:=IntKind.i64.wrap (s.steps + 1) } x:=by
 unfold mDo_s mDo_v0 mDo_v1 mDo_v2
 rw [hr,decide_eq_false (show ¬ x.kind=4 by omega),decide_eq_false (show ¬ x.kind=5 by omega),decide_eq_false (show ¬ x.kind=6 by omega),decide_eq_false (show ¬ x.kind=7 by omega),decide_eq_false (show ¬ x.kind=8 by omega)]
 exact ⟨rfl,rfl,rfl,rfl⟩
theorem mDo_req {c:Cfg} {s:MchS} {x:Stp} (hc:CIn s.c) (hl:s.c.le.rep.m.l=c.ly) (h:lreq_v0 c x=true):(mDo_s s x).srv=s.srv ++ [srvOf s x]∧(mDo_s s x).ideal=idOf s x∧s.c.d.l.length < (mDo_s s x).c.d.l.length:=by
 obtain ⟨hr,hk,hn,hm⟩:=lreq_t h
 rw [← hl] at hn
 have k1:=right_k hr
 obtain ⟨e1,e2,e3,e4⟩:=mDo_1 (s:=s) hr hk
 unfold srvOf idOf
 rw [e1,e2,e3,e4]
 unfold mRequest_s mRequest_v0 mRequest_v1
 rcases (by omega:x.kind=1 ∨ x.kind=2 ∨ x.kind=3) with q | q | q
 ·obtain ⟨a,b⟩:=cread_in hc (b:=s.c.le.c.back) hn
  rw [decide_eq_true q,decide_eq_false (show ¬ x.kind=2 by omega),decide_eq_false (show ¬ x.kind=3 by omega),decide_eq_false (show ¬ ((cread_v1 s.c x.line s.c.le.c.back:Nat):Int)=30 by omega)]
  exact ⟨rfl,rfl,a⟩
 ·obtain ⟨a,b⟩:=cMasked_in hc (l:=arL x.data 64 0) (m:=18446744073709551615) (by decide) hn
  rw [decide_eq_false (show ¬ x.kind=1 by omega),decide_eq_true q,decide_eq_false (show ¬ ((cMasked_v0 s.c x.line (arL x.data 64 0) 18446744073709551615:Nat):Int)=30 by omega)]
  exact ⟨rfl,rfl,a⟩
 ·obtain ⟨a,b⟩:=cMasked_in hc (l:=arL x.data 64 0) (hm q) hn
  rw [decide_eq_false (show ¬ x.kind=1 by omega),decide_eq_false (show ¬ x.kind=2 by omega),decide_eq_true q,decide_eq_false (show ¬ ((cMasked_v0 s.c x.line (arL x.data 64 0) x.mask:Nat):Int)=30 by omega)]
  exact ⟨rfl,rfl,a⟩
theorem lreq_f {c:Cfg} {x:Stp} (h:lreq_v0 c x=false):stpBad c x ∨ (stpRight x=true∧4<=x.kind∧x.kind<=8):=by
 cases h0:stpRight x with
 | false=>exact Or.inl (Or.inl h0)
 | true =>
   have hk:=right_k h0
   rcases Int.lt_or_le 3 x.kind with h1 | h1
   ·exact Or.inr ⟨rfl,by omega,hk.2⟩
   ·refine Or.inl (Or.inr ⟨h1,?_⟩)
    rcases Int.lt_or_le x.line 0 with h2 | h2
    ·exact Or.inl h2
    rcases Int.lt_or_le x.line (IntKind.i64.wrap ((lySeen_v0 c.ly) * c.ly.g.cols)) with h3 | h3
    ·unfold lreq_v0 at h
     rw [h0,decide_eq_true h1,decide_eq_true h2,decide_eq_true h3] at h
     simp only [cond_true] at h
     cases h4:decide (x.kind=3) with
     | false=>rw [h4] at h; cases h
     | true =>
       rw [h4,cond_true] at h
       have h5:decide (((x.mask:Nat):Int)=0)=true:=by cases q:decide (((x.mask:Nat):Int)=0); rw [q] at h; cases h; rfl
       have h5:=of_decide_eq_true h5
       exact Or.inr (Or.inr ⟨of_decide_eq_true h4,by omega⟩)
    ·exact Or.inr (Or.inl h3)
theorem mDo_nreq {c:Cfg} {s:MchS} {x:Stp} (hl:s.c.le.rep.m.l=c.ly) (h:lreq_v0 c x=false):(mDo_s s x).srv=s.srv∧(mDo_s s x).ideal=s.ideal:=by
 rcases lreq_f h with h | ⟨hr,h1,h2⟩
 ·obtain ⟨k,e⟩:=(bad_do hl h).1
  rw [e]; exact ⟨rfl,rfl⟩
 ·let p:=fun t:MchS=>t.srv=s.srv∧t.ideal=s.ideal
  unfold mDo_s
  rw [hr,cond_true]
  have hi:p (mInject_s { s with steps:=IntKind.i64.wrap (s.steps + 1) } x.f):=by unfold mInject_s; exact bifG (p:=p) ⟨rfl,rfl⟩ ⟨rfl,rfl⟩
  rcases (by omega:x.kind=4 ∨ x.kind=5 ∨ x.kind=6 ∨ x.kind=7 ∨ x.kind=8) with q | q | q | q | q
  ·rw [decide_eq_true q]; exact ⟨rfl,rfl⟩
  ·rw [decide_eq_false (show ¬ x.kind=4 by omega),decide_eq_true q]; exact ⟨rfl,rfl⟩
  ·rw [decide_eq_false (show ¬ x.kind=4 by omega),decide_eq_false (show ¬ x.kind=5 by omega),decide_eq_true q]; exact ⟨rfl,rfl⟩
  ·rw [decide_eq_false (show ¬ x.kind=4 by omega),decide_eq_false (show ¬ x.kind=5 by omega),decide_eq_false (show ¬ x.kind=6 by omega),decide_eq_true q]; exact ⟨rfl,rfl⟩
  ·rw [decide_eq_false (show ¬ x.kind=4 by omega),decide_eq_false (show ¬ x.kind=5 by omega),decide_eq_false (show ¬ x.kind=6 by omega),decide_eq_false (show ¬ x.kind=7 by omega),decide_eq_true q]; exact hi
theorem mg_ext {a a' o:Nat->Nat} {m j:Nat} (h:a j=a' j):mgF a o m j=mgF a' o m j:=by unfold mgF; rw [h]
end Go.Proofs.YtfhiggfmkjmeiaaGreat
