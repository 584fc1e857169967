import Derived.Test.YtoflmffbkdekcaaGreatLRt
import Derived.Test.YtoflmffbkdekcaaGreatFL24
namespace Go.Proofs.YtoflmffbkdekcaaGreat
open Go Go.RowKit
set_option linter.unusedVariables false
set_option linter.unusedSimpArgs false
def SE (a b:MchS):Prop:=∃ k,b={ a with steps:=k }
theorem SE.refl (a:MchS):SE a a:=⟨a.steps,rfl⟩
def stpBad (c:Cfg) (x:Stp):Prop:=stpRight x=false ∨ (x.kind≤3∧(x.line < 0 ∨ IntKind.i64.wrap ((lySeen_v0 c.ly) * c.ly.g.cols)≤x.line ∨ (x.kind=3∧x.mask=0)))
theorem cread_30 {s:CtlS} {i:Int} {b:Bool} (h:cat_v3 s i=30):cread_s s i b=s∧cread_v1 s i b=30∧cread_v0 s i b=fun _=>0:=by
  unfold cread_s cread_v1 cread_v0
  rw [h]; exact ⟨rfl,rfl,rfl⟩
theorem cMasked_30 {s:CtlS} {i:Int} {l:List Nat} {m:Nat} (h:cat_v3 s i=30 ∨ m=0):cMasked_s s i l m=s∧cMasked_v0 s i l m=30:=by
  unfold cMasked_s cMasked_v0
  rcases h with h | rfl
  · rw [h]; exact ⟨rfl,rfl⟩
  · rw [show decide ((((0:Nat)):Int)=0)=true from rfl]
    simp only [cond_true]
    exact ⟨bifG (p:=fun t:CtlS=>t=s) rfl rfl,bifG (p:=fun t:Nat=>t=30) rfl rfl⟩
theorem bad_do {c : Cfg} {a : MchS} {x : Stp} (hl : a.c.le.rep.m.l = c.ly) (h : stpBad c x) : SE a (mDo_s a x) ∧ (mDo_v0 a x = 60 ∨ mDo_v0 a x = 30) ∧ mDo_v2 a x = fun _ => 0 := by
  cases hr:stpRight x with
  | false =>
    unfold mDo_s mDo_v0 mDo_v2
    rw [hr]; exact ⟨SE.refl a,Or.inl rfl,rfl⟩
  | true =>
    rcases h with h | ⟨hk,h⟩
    · rw [h] at hr; cases hr
    · have hm:SE a (mRequest_s { a with steps:=IntKind.i64.wrap (a.steps + 1) } x)∧mRequest_v0 { a with steps:=IntKind.i64.wrap (a.steps + 1) } x=30∧mRequest_v1 { a with steps:=IntKind.i64.wrap (a.steps + 1) } x=fun _=>0:=by
        have h2:cat_v3 a.c x.line=30 ∨ (x.kind=3∧x.mask=0):=by
          rcases h with h | h | h
          · exact Or.inl (cat_30 (Or.inl h))
          · exact Or.inl (cat_30 (Or.inr (by rw [hl]; exact h)))
          · exact Or.inr h
        unfold mRequest_s mRequest_v0 mRequest_v1
        cases k1:decide (x.kind=1) with
        | true =>
          have k1:=of_decide_eq_true k1
          have h3:cat_v3 a.c x.line=30:=by rcases h2 with h2 | h2; exact h2; omega
          obtain ⟨e1,e2,e3⟩:=cread_30 (b:=a.c.le.c.back) h3
          simp only [cond_true]
          rw [e1,e2,e3]
          exact ⟨⟨_,rfl⟩,rfl,rfl⟩
        | false =>
          simp only [cond_false]
          cases k2:decide (x.kind=2) with
          | true =>
            have k2:=of_decide_eq_true k2
            have h3:cat_v3 a.c x.line=30:=by rcases h2 with h2 | h2; exact h2; omega
            obtain ⟨e1,e2⟩:=cMasked_30 (l:=arL x.data 64 0) (m:=18446744073709551615) (Or.inl h3)
            simp only [cond_true]
            unfold cWrite_s
            rw [e1,e2]
            exact ⟨⟨_,rfl⟩,rfl,trivial⟩
          | false =>
            have h3:cat_v3 a.c x.line=30 ∨ x.mask=0:=by rcases h2 with h2 | h2; exact Or.inl h2; exact Or.inr h2.2
            obtain ⟨e1,e2⟩:=cMasked_30 (l:=arL x.data 64 0) h3
            simp only [cond_false]
            rw [e1,e2]
            exact ⟨⟨_,rfl⟩,rfl,trivial⟩
      unfold mDo_s mDo_v0 mDo_v2
      rw [hr,decide_eq_false (show ¬ x.kind=4 by omega),decide_eq_false (show ¬ x.kind=5 by omega),decide_eq_false (show ¬ x.kind=6 by omega),decide_eq_false (show ¬ x.kind=7 by omega),decide_eq_false (show ¬ x.kind=8 by omega)]
      simp only [cond_true,cond_false]
      rw [hm.2.1,hm.2.2]
      exact ⟨hm.1,Or.inr rfl,rfl⟩
theorem mrS_okN {c:Cfg} {l:List Stp} (h:cfgRight_v0 c=true) (hs:∀ x ∈ l,StpOk x) (hl:l.length≤1000) {i:Nat} (hi:i≤l.length):MchOk 8400000 (mrS (mNewM_s c) l i):=(mrS_ok (mNewM_ok h) hs hi).mono (by omega)
end Go.Proofs.YtoflmffbkdekcaaGreat
