import Derived.Test.YtoflmffbkdekcaaGreatLRt
import Derived.Test.YtoflmffbkdekcaaGreatFL24
namespace Go.Proofs.YtoflmffbkdekcaaGreat
open Go Go.RowKit
set_option linter.unusedVariables false
set_option linter.unusedSimpArgs false
def SE (a b:MchS):Prop:=∃ k,b={ a with steps:=k }
theorem SE.refl (a:MchS):SE a a:=⟨a.steps,rfl⟩
theorem SE.trans {a b c:MchS} (h:SE a b) (k:SE b c):SE a c:=by
  obtain ⟨x,rfl⟩:=h
  obtain ⟨y,rfl⟩:=k
  exact ⟨y,rfl⟩
theorem SE.symm {a b:MchS} (h:SE a b):SE b a:=by
  obtain ⟨x,rfl⟩:=h
  exact ⟨a.steps,rfl⟩
theorem SE.bif {q:Bool} {a b a' b':MchS} (h:SE a a') (k:SE b b'):SE (bif q then a else b) (bif q then a' else b'):=by cases q <;> assumption
theorem SE.c {a b:MchS} (h:SE a b):b.c=a.c:=by obtain ⟨x,rfl⟩:=h; rfl
theorem mInject_e (a:MchS) (k:Int) (f:Flt):SE (mInject_s a f) (mInject_s { a with steps:=k } f):=by
  unfold mInject_s
  exact SE.bif ⟨k,rfl⟩ ⟨k,rfl⟩
theorem mRequest_e (a:MchS) (k:Int) (x:Stp):SE (mRequest_s a x) (mRequest_s { a with steps:=k } x):=by
  unfold mRequest_s
  exact SE.bif (SE.bif ⟨k,rfl⟩ ⟨k,rfl⟩) (SE.bif (SE.bif ⟨k,rfl⟩ ⟨k,rfl⟩) (SE.bif ⟨k,rfl⟩ ⟨k,rfl⟩))
theorem mDo_e {a b:MchS} (h:SE a b) (x:Stp):SE (mDo_s a x) (mDo_s b x):=by
  obtain ⟨k,rfl⟩:=h
  have hi:SE (mInject_s { a with steps:=IntKind.i64.wrap (a.steps + 1) } x.f) (mInject_s { a with steps:=IntKind.i64.wrap (k + 1) } x.f):=(mInject_e a _ x.f).symm.trans (mInject_e a _ x.f)
  have hr:SE (mRequest_s { a with steps:=IntKind.i64.wrap (a.steps + 1) } x) (mRequest_s { a with steps:=IntKind.i64.wrap (k + 1) } x):=(mRequest_e a _ x).symm.trans (mRequest_e a _ x)
  unfold mDo_s
  exact SE.bif (SE.bif ⟨IntKind.i64.wrap (k + 1),rfl⟩ (SE.bif ⟨IntKind.i64.wrap (k + 1),rfl⟩ (SE.bif ⟨IntKind.i64.wrap (k + 1),rfl⟩ (SE.bif ⟨IntKind.i64.wrap (k + 1),rfl⟩ (SE.bif hi hr))))) ⟨k,rfl⟩
theorem mDo_ea {a b:MchS} (h:SE a b) (x:Stp):mDo_v0 b x=mDo_v0 a x∧mDo_v1 b x=mDo_v1 a x∧mDo_v2 b x=mDo_v2 a x:=by
  obtain ⟨k,rfl⟩:=h
  exact ⟨rfl,rfl,rfl⟩
theorem SE.ok {n:Nat} {a b:MchS} (h:SE a b) (ok:MchOk n a):MchOk n b:=by
  obtain ⟨k,rfl⟩:=h
  exact ⟨ok.c,ok.id,ok.il,ok.sl,ok.ly⟩
def stpBad (c:Cfg) (x:Stp):Prop:=stpRight x=false ∨ (x.kind≤3∧(x.line < 0 ∨ IntKind.i64.wrap ((lySeen_v0 c.ly) * c.ly.g.cols)≤x.line ∨ (x.kind=3∧x.mask=0)))
theorem cread_30 {s:CtlS} {i:Int} {b:Bool} (h:cat_v3 s i=30):cread_s s i b=s∧cread_v1 s i b=30∧cread_v0 s i b=fun _=>0:=by
  unfold cread_s cread_v1 cread_v0
  rw [h]; exact ⟨rfl,rfl,rfl⟩
theorem cMasked_30 {s:CtlS} {i:Int} {l:List Nat} {m:Nat} (h:cat_v3 s i=30 ∨ m=0):cMasked_s s i l m=s∧cMasked_v0 s i l m=30:=by
  unfold cMasked_s cMasked_v0
  rcases h with h | rfl
  · rw [h]; exact ⟨rfl,rfl⟩
  · rw [show decide ((((0:Nat)):Int)=0)=true from rfl]
    simp only [cond_true]
    exact ⟨bifG (p:=fun t:CtlS=>t=s) rfl rfl,bifG (p:=fun t:Nat=>t=30) rfl rfl⟩
theorem bad_do {c : Cfg} {a : MchS} {x : Stp} (hl : a.c.le.rep.m.l = c.ly) (h : stpBad c x) : SE a (mDo_s a x) ∧ (mDo_v0 a x = 60 ∨ mDo_v0 a x = 30) ∧ mDo_v2 a x = fun _ => 0 := by
  cases hr:stpRight x with
  | false =>
    unfold mDo_s mDo_v0 mDo_v2
    rw [hr]; exact ⟨SE.refl a,Or.inl rfl,rfl⟩
  | true =>
    rcases h with h | ⟨hk,h⟩
    · rw [h] at hr; cases hr
    · have hm:SE a (mRequest_s { a with steps:=IntKind.i64.wrap (a.steps + 1) } x)∧mRequest_v0 { a with steps:=IntKind.i64.wrap (a.steps + 1) } x=30∧mRequest_v1 { a with steps:=IntKind.i64.wrap (a.steps + 1) } x=fun _=>0:=by
        have h2:cat_v3 a.c x.line=30 ∨ (x.kind=3∧x.mask=0):=by
          rcases h with h | h | h
          · exact Or.inl (cat_30 (Or.inl h))
          · exact Or.inl (cat_30 (Or.inr (by rw [hl]; exact h)))
          · exact Or.inr h
        unfold mRequest_s mRequest_v0 mRequest_v1
        cases k1:decide (x.kind=1) with
        | true =>
          have k1:=of_decide_eq_true k1
          have h3:cat_v3 a.c x.line=30:=by rcases h2 with h2 | h2; exact h2; omega
          obtain ⟨e1,e2,e3⟩:=cread_30 (b:=a.c.le.c.back) h3
          simp only [cond_true]
          rw [e1,e2,e3]
          exact ⟨⟨_,rfl⟩,rfl,rfl⟩
        | false =>
          simp only [cond_false]
          cases k2:decide (x.kind=2) with
          | true =>
            have k2:=of_decide_eq_true k2
            have h3:cat_v3 a.c x.line=30:=by rcases h2 with h2 | h2; exact h2; omega
            obtain ⟨e1,e2⟩:=cMasked_30 (l:=arL x.data 64 0) (m:=18446744073709551615) (Or.inl h3)
            simp only [cond_true]
            unfold cWrite_s
            rw [e1,e2]
            exact ⟨⟨_,rfl⟩,rfl,trivial⟩
          | false =>
            have h3:cat_v3 a.c x.line=30 ∨ x.mask=0:=by rcases h2 with h2 | h2; exact Or.inl h2; exact Or.inr h2.2
            obtain ⟨e1,e2⟩:=cMasked_30 (l:=arL x.data 64 0) h3
            simp only [cond_false]
            rw [e1,e2]
            exact ⟨⟨_,rfl⟩,rfl,trivial⟩
      unfold mDo_s mDo_v0 mDo_v2
      rw [hr,decide_eq_false (show ¬ x.kind=4 by omega),decide_eq_false (show ¬ x.kind=5 by omega),decide_eq_false (show ¬ x.kind=6 by omega),decide_eq_false (show ¬ x.kind=7 by omega),decide_eq_false (show ¬ x.kind=8 by omega)]
      simp only [cond_true,cond_false]
      rw [hm.2.1,hm.2.2]
      exact ⟨hm.1,Or.inr rfl,rfl⟩
def badB (c:Cfg) (x:Stp):Bool:=bif (stpRight x) then (bif (decide (x.kind≤3)) then (bif (decide (x.line < 0)) then true else (bif (decide (IntKind.i64.wrap ((lySeen_v0 c.ly) * c.ly.g.cols)≤x.line)) then true else (bif (decide (x.kind=3)) then (decide (((x.mask:Nat):Int)=0)) else false))) else false) else true
theorem badB_t {c : Cfg} {x : Stp} (h : badB c x = true) : stpBad c x := by
  unfold badB at h
  cases h0:stpRight x with
  | false=>exact Or.inl h0
  | true =>
    rw [h0] at h
    simp only [cond_true] at h
    cases h1:decide (x.kind≤3) with
    | false=>rw [h1] at h; cases h
    | true =>
      rw [h1] at h
      simp only [cond_true] at h
      refine Or.inr ⟨of_decide_eq_true h1,?_⟩
      cases h2:decide (x.line < 0) with
      | true=>exact Or.inl (of_decide_eq_true h2)
      | false =>
        rw [h2] at h
        simp only [cond_false] at h
        cases h3:decide (IntKind.i64.wrap ((lySeen_v0 c.ly) * c.ly.g.cols)≤x.line) with
        | true=>exact Or.inr (Or.inl (of_decide_eq_true h3))
        | false =>
          rw [h3] at h
          simp only [cond_false] at h
          cases h4:decide (x.kind=3) with
          | false=>rw [h4] at h; cases h
          | true =>
            rw [h4] at h
            have h5:=of_decide_eq_true (p:=((x.mask:Nat):Int)=0) h
            exact Or.inr (Or.inr ⟨of_decide_eq_true h4,by omega⟩)
def rqB (c:Cfg) (l:List Stp):Nat→MchS
  | 0=>mNewM_s c
  | i + 1=>bif badB c (l.getD i eStp0) then rqB c l i else mDo_s (rqB c l i) (l.getD i eStp0)
theorem rqB_se (c:Cfg) (l:List Stp):∀ i,SE (mrS (mNewM_s c) l i) (rqB c l i)
  | 0=>SE.refl _
  | i + 1=>by
    have ih:=rqB_se c l i
    rw [rqB,mrS]
    cases h:badB c (l.getD i eStp0) with
    | true=>exact (bad_do (mrS_ly c l i) (badB_t h)).1.symm.trans ih
    | false=>exact mDo_e ih _
theorem rqB_c (c:Cfg) (l:List Stp) (i:Nat):(rqB c l i).c=(mrS (mNewM_s c) l i).c:=(rqB_se c l i).c
theorem rqB_ok {c:Cfg} {l:List Stp} (h:cfgRight_v0 c=true) (hs:∀ x ∈ l,StpOk x) (hl:l.length≤1000) {i:Nat} (hi:i≤l.length):MchOk 8400000 (rqB c l i):=(rqB_se c l i).ok ((mrS_ok (mNewM_ok h) hs hi).mono (by omega))
theorem mrS_okN {c:Cfg} {l:List Stp} (h:cfgRight_v0 c=true) (hs:∀ x ∈ l,StpOk x) (hl:l.length≤1000) {i:Nat} (hi:i≤l.length):MchOk 8400000 (mrS (mNewM_s c) l i):=(mrS_ok (mNewM_ok h) hs hi).mono (by omega)
theorem rq_bad {c:Cfg} {l:List Stp} {i:Nat} (h:badB c (l.getD i eStp0)=true):(bif (decide ((mDo_v0 (mrS (mNewM_s c) l i) (l.getD i eStp0))=60)) then (!(eqA (nf (mDo_v2 (mrS (mNewM_s c) l i) (l.getD i eStp0))) (fun _=>0) 64 0)) else (bif (decide ((mDo_v0 (mrS (mNewM_s c) l i) (l.getD i eStp0))=30)) then (!(eqA (nf (mDo_v2 (mrS (mNewM_s c) l i) (l.getD i eStp0))) (fun _=>0) 64 0)) else true))=false:=by
  obtain ⟨_,h1,h2⟩:=bad_do (mrS_ly c l i) (badB_t h)
  have h3:eqA (nf (mDo_v2 (mrS (mNewM_s c) l i) (l.getD i eStp0))) (fun _=>0) 64 0=true:=by rw [h2]; exact eqA_iff.2 fun j _ _=>rfl
  rw [h3]
  rcases h1 with h1 | h1 <;> rw [h1] <;> rfl
theorem rq_same (c:Cfg) (l:List Stp) (i:Nat) (x:Stp):((decide ((mDo_v0 (rqB c l i) x)=(mDo_v0 (mrS (mNewM_s c) l i) x))) && ((decide ((mDo_v1 (rqB c l i) x)=(mDo_v1 (mrS (mNewM_s c) l i) x))) && ((eqA (nf (mDo_v2 (rqB c l i) x)) (nf (mDo_v2 (mrS (mNewM_s c) l i) x)) 64 0) && true)))=true:=by
  obtain ⟨h1,h2,h3⟩:=mDo_ea (rqB_se c l i) x
  rw [h1,h2,h3,show eqA (nf (mDo_v2 (mrS (mNewM_s c) l i) x)) (nf (mDo_v2 (mrS (mNewM_s c) l i) x)) 64 0=true from eqA_iff.2 fun _ _ _=>rfl,decide_eq_true rfl,decide_eq_true rfl]
  rfl
theorem out_hr (c:Cfg) (l:List Stp) (i:Nat):(mrS (mNewM_s c) l i).c.le.trk.ranks.length=(mrS (mNewM_s c) l i).c.le.c.ly.g.ranks.toNat:=by rw [mrS_cf]; exact mrS_rk c l i
theorem out_h1 {c:Cfg} (h:cfgRight_v0 c=true) (l:List Stp) (i:Nat):(mrS (mNewM_s c) l i).c.le.log.l.length≤100000:=(mrS_in h l i).1.log.le
theorem out_h2 {c:Cfg} (h:cfgRight_v0 c=true) (l:List Stp) (i:Nat):(mrS (mNewM_s c) l i).c.le.trk.pages.length≤100000:=by have:=(mrS_in h l i).1.trk.pg; omega
theorem out_h3 {c:Cfg} (h:cfgRight_v0 c=true) (l:List Stp) (i:Nat):(mrS (mNewM_s c) l i).c.le.c.ly.g.ranks≤100000:=by rw [mrS_cf]; have:=Gm.rt (ly_rt (cfg_t h).1).1; omega
theorem out_g2 {c:Cfg} (h:cfgRight_v0 c=true) (l:List Stp) (i:Nat):(mrS (mNewM_s c) l i).c.le.trk.ranks.length≤100000:=by have:=Gm.rt (ly_rt (cfg_t h).1).1; rw [mrS_rk]; omega
end Go.Proofs.YtoflmffbkdekcaaGreat
