import Derived.Test.YtfhiggfmkjmeiaaGreatFJue
import Derived.Test.YtfhiggfmkjmeiaaGreatFFlt
import Derived.Test.YtfhiggfmkjmeiaaGreatFRun
set_option linter.unusedVariables false
set_option linter.unusedSimpArgs false
set_option linter.unusedSectionVars false
namespace Go.Proofs.YtfhiggfmkjmeiaaGreat
open Go Go.RowKit
theorem bifP {α:Type} {p:α->Prop} {c:Bool} {a b:α} (ha:p a) (hb:p b):p (bif c then a else b):=by cases c <;> assumption
structure DExt (a b:DevS):Prop where
 l:∃ x,b.l=a.l ++ x
 m:b.d.mode=a.d.mode
 g:b.d.g=a.d.g
theorem DExt.refl (a:DevS):DExt a a:=⟨⟨[],(List.append_nil _).symm⟩,rfl,rfl⟩
theorem DExt.trans {a b c:DevS} (h:DExt a b) (k:DExt b c):DExt a c:=by
 obtain ⟨x,hx⟩:=h.l
 obtain ⟨y,hy⟩:=k.l
 exact ⟨⟨x ++ y,by rw [hy,hx,List.append_assoc]⟩,k.m.trans h.m,k.g.trans h.g⟩
theorem dWent_x (s:DramS) (i:Int):(dWent_s s i).mode=s.mode∧(dWent_s s i).g=s.g:=by unfold dWent_s; exact bifP (p:=fun t:DramS=>t.mode=s.mode∧t.g=s.g) ⟨rfl,rfl⟩ ⟨rfl,rfl⟩
theorem dWrite_x (s:DramS) (i:Int) (r:Nat->Nat):(dWrite_s s i r).mode=s.mode∧(dWrite_s s i r).g=s.g:=by
 unfold dWrite_s
 exact bifP (p:=fun t:DramS=>t.mode=s.mode∧t.g=s.g) (bifP (p:=fun t:DramS=>t.mode=s.mode∧t.g=s.g) (dWent_x s i) (dWent_x s i)) ⟨rfl,rfl⟩
theorem dRead_x (s:DramS) (i:Int):(dRead_s s i).mode=s.mode∧(dRead_s s i).g=s.g:=by
 unfold dRead_s
 exact bifP (p:=fun t:DramS=>t.mode=s.mode∧t.g=s.g) (dWent_x s i) ⟨rfl,rfl⟩
theorem dInject_x (s:DramS) (f:Flt):(dInject_s s f).mode=s.mode∧(dInject_s s f).g=s.g:=by
 have b:=fun {c:Bool} {x y:DramS} (h:x.mode=s.mode∧x.g=s.g) (k:y.mode=s.mode∧y.g=s.g)=>bifP (p:=fun t:DramS=>t.mode=s.mode∧t.g=s.g) (c:=c) h k
 unfold dInject_s dInjectN_s
 exact b (b ⟨rfl,rfl⟩ (b (b ⟨rfl,rfl⟩ ⟨rfl,rfl⟩) (b ⟨rfl,rfl⟩ ⟨rfl,rfl⟩))) ⟨rfl,rfl⟩
theorem vput_x (s:DevS) (i:Int) (r:Nat->Nat) (m:Int):DExt s (vput_s s i r m):=by
 unfold vput_s
 exact bifP ⟨⟨_,rfl⟩,(dWrite_x s.d i r).1,(dWrite_x s.d i r).2⟩ ⟨⟨[],(List.append_nil _).symm⟩,(dWrite_x s.d i r).1,(dWrite_x s.d i r).2⟩
theorem vRead_x (s:DevS) (i:Int):DExt s (vRead_s s i):=by
 unfold vRead_s
 exact bifP (bifP ⟨⟨_,rfl⟩,(dRead_x s.d i).1,(dRead_x s.d i).2⟩ ⟨⟨_,rfl⟩,(dRead_x s.d i).1,(dRead_x s.d i).2⟩) ⟨⟨[],(List.append_nil _).symm⟩,(dRead_x s.d i).1,(dRead_x s.d i).2⟩
theorem vInject_x (s:DevS) (f:Flt):DExt s (vInject_s s f):=⟨⟨[],(List.append_nil _).symm⟩,(dInject_x s.d f).1,(dInject_x s.d f).2⟩
theorem cput_x (s:CtlS) (i:Int) (l:Nat->Nat) (b:Bool):DExt s.d (cput_s s i l b).d:=by
 unfold cput_s
 exact bifP (p:=fun t:CtlS=>DExt s.d t.d) (vput_x _ _ _ _) (vput_x _ _ _ _)
theorem ctake_x (s:CtlS) (i h r:Int):DExt s.d (ctake_s s i h r).d:=vRead_x s.d i
theorem cread_x (s:CtlS) (i:Int) (b:Bool):DExt s.d (cread_s s i b).d:=by
 unfold cread_s
 have b1:=fun {c:Bool} {x y:CtlS} (h:DExt s.d x.d) (k:DExt s.d y.d)=>bifP (p:=fun t:CtlS=>DExt s.d t.d) (c:=c) h k
 exact b1 (b1 (b1 ((ctake_x _ _ _ _).trans (cput_x _ _ _ _)) (ctake_x _ _ _ _)) (ctake_x _ _ _ _)) (.refl _)
theorem cMasked_x (s:CtlS) (i:Int) (l:List Nat) (m:Nat):DExt s.d (cMasked_s s i l m).d:=by
 unfold cMasked_s
 have b1:=fun {c:Bool} {x y:CtlS} (h:DExt s.d x.d) (k:DExt s.d y.d)=>bifP (p:=fun t:CtlS=>DExt s.d t.d) (c:=c) h k
 exact b1 (b1 (.refl _) (b1 (cput_x _ _ _ _) (b1 ((ctake_x _ _ _ _).trans (cput_x _ _ _ _)) ((ctake_x _ _ _ _).trans (cput_x _ _ _ _))))) (.refl _)
theorem cWrite_x (s:CtlS) (i:Int) (l:List Nat):DExt s.d (cWrite_s s i l).d:=cMasked_x _ _ _ _
theorem cScrub_x (s:CtlS):DExt s.d (cScrub_s s).d:=by
 have h:=cread_x { s with cur:=(IntKind.i64.wrap (s.cur + 1)).tmod (IntKind.i64.wrap ((lySeen_v0 s.le.c.ly) * s.le.c.ly.g.cols)) } s.cur true
 exact h
theorem ccopy_x (s:CtlS):DExt s.d (ccopy_j1 s).d:=by
 unfold ccopy_j1
 exact bifP (p:=fun t:CtlS=>DExt s.d t.d) ((ctake_x _ _ _ _).trans (cput_x _ _ _ _)) (cput_x _ _ _ _)
theorem cCopy_x (s:CtlS):DExt s.d (cCopy_s s).d:=by
 unfold cCopy_s
 exact bifP (p:=fun t:CtlS=>DExt s.d t.d) (ccopy_x s) (.refl _)
theorem cTick_x (s:CtlS):DExt s.d (cTick_s s).d:=by
 unfold cTick_s
 exact bifP (p:=fun t:CtlS=>DExt s.d t.d) (.refl _) (.refl _)
structure MExt (s t:MchS):Prop where
 d:DExt s.c.d t.c.d
 inj:∃ y,t.inj=s.inj ++ y
 srv:∃ z,t.srv=s.srv ++ z
theorem exNil {α:Type} (l:List α):∃ x,l=l ++ x:=⟨[],(List.append_nil _).symm⟩
theorem MExt.refl (a:MchS):MExt a a:=⟨.refl _,exNil _,exNil _⟩
theorem exTrans {α:Type} {a b c:List α} (h:∃ x,b=a ++ x) (k:∃ x,c=b ++ x):∃ x,c=a ++ x:=by
 obtain ⟨x,rfl⟩:=h
 obtain ⟨y,rfl⟩:=k
 exact ⟨x ++ y,List.append_assoc _ _ _⟩
theorem MExt.trans {a b c:MchS} (h:MExt a b) (k:MExt b c):MExt a c:=⟨h.d.trans k.d,exTrans h.inj k.inj,exTrans h.srv k.srv⟩
theorem mInject_x (s:MchS) (f:Flt):MExt s (mInject_s s f):=by
 unfold mInject_s
 exact bifP ⟨vInject_x _ _,⟨_,rfl⟩,exNil _⟩ ⟨vInject_x _ _,exNil _,exNil _⟩
theorem mRequest_x (s:MchS) (x:Stp):MExt s (mRequest_s s x):=by
 unfold mRequest_s
 exact bifP (bifP ⟨cread_x _ _ _,exNil _,exNil _⟩ ⟨cread_x _ _ _,exNil _,⟨_,rfl⟩⟩) (bifP (bifP ⟨cWrite_x _ _ _,exNil _,exNil _⟩ ⟨cWrite_x _ _ _,exNil _,⟨_,rfl⟩⟩) (bifP ⟨cMasked_x _ _ _ _,exNil _,exNil _⟩ ⟨cMasked_x _ _ _ _,exNil _,⟨_,rfl⟩⟩))
theorem mDo_x (s:MchS) (x:Stp):MExt s (mDo_s s x):=by
 have hi:MExt s (mInject_s { s with steps:=IntKind.i64.wrap (s.steps + 1) } x.f):=by
  have h:=mInject_x { s with steps:=IntKind.i64.wrap (s.steps + 1) } x.f
  exact ⟨h.d,h.inj,h.srv⟩
 have hr:MExt s (mRequest_s { s with steps:=IntKind.i64.wrap (s.steps + 1) } x):=by
  have h:=mRequest_x { s with steps:=IntKind.i64.wrap (s.steps + 1) } x
  exact ⟨h.d,h.inj,h.srv⟩
 unfold mDo_s
 exact bifP (bifP ⟨cScrub_x _,exNil _,exNil _⟩ (bifP ⟨cCopy_x _,exNil _,exNil _⟩ (bifP ⟨cTick_x _,exNil _,exNil _⟩ (bifP ⟨.refl _,exNil _,exNil _⟩ (bifP hi hr))))) (.refl _)
theorem mrS_x (s:MchS) (l:List Stp) (i:Nat):∀ k,MExt (mrS s l i) (mrS s l (i + k))
 | 0=>.refl _
 | k + 1=>(mrS_x s l i k).trans (mDo_x _ _)
theorem DExt.len {a b:DevS} (h:DExt a b):a.l.length<=b.l.length:=by
 obtain ⟨x,hx⟩:=h.l
 rw [hx,List.length_append]; omega
theorem ctlN_x (c:Cfg):DExt (ctl0 c).d (ctlN c).d:=by
 have h1:∀ s r b w k,DExt s.d (nwC s r b w k).d:=fun s r b w k=>by induction k with | zero=>exact .refl _ | succ k ih=>exact ih.trans (cput_x _ _ _ _)
 have h2:∀ s r b C w,DExt s.d (nwW s r b C w).d:=fun s r b C w=>by induction w with | zero=>exact .refl _ | succ w ih=>exact ih.trans (h1 _ _ _ _ _)
 have h3:∀ s r W C b,DExt s.d (nwB s r W C b).d:=fun s r W C b=>by induction b with | zero=>exact .refl _ | succ b ih=>exact ih.trans (h2 _ _ _ _ _)
 have h4:∀ s B W C r,DExt s.d (nwR s B W C r).d:=fun s B W C r=>by induction r with | zero=>exact .refl _ | succ r ih=>exact ih.trans (h3 _ _ _ _ _)
 exact h4 _ _ _ _ _
end Go.Proofs.YtfhiggfmkjmeiaaGreat
