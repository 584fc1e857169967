import Derived.Test.YtoflmffbkdekcaaGreatFL25
namespace Go.Proofs.YtoflmffbkdekcaaGreat
open Go Go.RowKit
set_option linter.unusedVariables false
set_option linter.unusedSimpArgs false
def aN (a:Acc):Int:=bif a.mark then IntKind.i64.wrap (a.exp + 1) else a.exp
def mx (x y:Int):Int:=if y > x then y else x
def lkJ (p q:Lk):Lk:=⟨mx p.exp q.exp,p.astray || q.astray,p.drop || q.drop,p.tell && q.tell⟩
def aL (m:Int) (a:Acc):Lk:=bif jstray_v0 a then ⟨0,true,a.drop || decide (0 < a.exp),a.write || (a.drop || japart_v0 m a.index a.went)⟩ else ⟨aN a,false,false,true⟩
def lk0:Lk:=⟨0,false,false,true⟩
theorem mx_l (x y:Int):x≤mx x y:=by unfold mx; split <;> omega
theorem mx_0 {x:Int} (h:0≤x):mx x 0=x:=by unfold mx; rw [if_neg (by omega)]
theorem mx_assoc (x y z:Int):mx (mx x y) z=mx x (mx y z):=by unfold mx; split <;> split <;> (try split) <;> omega
theorem jadd_eq {l:Lk} (h:0≤l.exp) (m:Int) (a:Acc):jadd_r l m a=lkJ l (aL m a):=by
  obtain ⟨e,s,d,t⟩:=l
  have h':mx e 0=e:=mx_0 h
  unfold jadd_r aL lkJ aN
  cases jstray_v0 a with
  | true =>
    cases d <;> cases a.drop <;> cases a.write <;> cases japart_v0 m a.index a.went <;> simp [h']
  | false=>cases a.mark <;> simp [mx]
theorem lkJ_assoc (p q r:Lk):lkJ (lkJ p q) r=lkJ p (lkJ q r):=by
  unfold lkJ; simp only [mx_assoc,Bool.or_assoc,Bool.and_assoc]
theorem lkJ_0 {p:Lk} (h:0≤p.exp):lkJ p lk0=p:=by
  obtain ⟨e,s,d,t⟩:=p
  unfold lkJ lk0; simp [mx_0 h]
theorem lkJ_nn {p q:Lk} (h:0≤p.exp):0≤(lkJ p q).exp:=Int.le_trans h (mx_l _ _)
theorem jadd_nn {l:Lk} (h:0≤l.exp) (m:Int) (a:Acc):0≤(jadd_r l m a).exp:=by rw [jadd_eq h]; exact lkJ_nn h
theorem jsee_nn (m:Int) (l:List Acc) (a:Nat):∀ n,0≤(jsee m l a n).exp
  | 0=>Int.le_refl _
  | n + 1=>jadd_nn (jsee_nn m l a n) _ _
theorem jsee_1 (m:Int) (l:List Acc) (a n:Nat):jsee m l a (n + 1)=lkJ (jsee m l a n) (aL m (l.getD (a + n) eAcc0)):=jadd_eq (jsee_nn m l a n) _ _
theorem jsee_app (m:Int) (l:List Acc) (a n:Nat):∀ k,jsee m l a (n + k)=lkJ (jsee m l a n) (jsee m l (a + n) k)
  | 0=>(lkJ_0 (jsee_nn m l a n)).symm
  | k + 1=>by rw [← Nat.add_assoc,jsee_1,jsee_1,jsee_app m l a n k,lkJ_assoc,Nat.add_assoc]
theorem jsee_same (m:Int) {l l':List Acc} {a:Nat}:∀ n,(∀ i,i < n→l.getD (a + i) eAcc0=l'.getD (a + i) eAcc0)→jsee m l a n=jsee m l' a n
  | 0,_=>rfl
  | n + 1,h=>by rw [jsee,jsee,jsee_same m n fun i hi=>h i (by omega),h n (by omega)]
theorem jAt_all (s:MchS):jAt_r s 0 ((s.c.d.l.length:Nat):Int)=jsee s.c.d.d.mode s.c.d.l 0 s.c.d.l.length:=by
  unfold jAt_r jcnt
  rw [show (0:Int).toNat=0 from rfl,show min s.c.d.l.length ((s.c.d.l.length:Nat):Int).toNat - 0=s.c.d.l.length by omega]
theorem ff_all {p:Nat→Bool} {n:Nat} (h:∀ i,i < n→p i=false):ff p n=n:=by
  rcases Nat.lt_or_ge (ff p n) n with h1 | h1
  · have h2:=ff_at (p:=p) h1
    rw [h _ h1] at h2; cases h2
  · exact Nat.le_antisymm (ff_le _ _) h1
theorem ff_end {p:Nat→Bool} {n:Nat} (h:(bif decide (((ff p n:Nat):Int) < ((n:Nat):Int)) then false else true)=true) {i:Nat} (hi:i < n):p i=false:=by
  have h1:n≤ff p n:=by
    rcases Nat.lt_or_ge (ff p n) n with h1 | h1
    · rw [decide_eq_true (show ((ff p n:Nat):Int) < ((n:Nat):Int) by omega)] at h; cases h
    · exact h1
  exact ff_lt (Nat.lt_of_lt_of_le hi h1)
theorem ff_say {p:Nat→Bool} {n:Nat} (h:∀ i,i < n→p i=false):(bif decide (((ff p n:Nat):Int) < ((n:Nat):Int)) then false else true)=true:=by
  rw [ff_all h,decide_eq_false (Int.lt_irrefl _)]; rfl
theorem calm_t {s:MchS} (h:jCalm_v0 s=true):(jAt_r s 0 ((s.c.d.l.length:Nat):Int)).astray=false∧(jAt_r s 0 ((s.c.d.l.length:Nat):Int)).exp≤1:=by
  unfold jCalm_v0 at h
  cases h1:(jAt_r s 0 ((s.c.d.l.length:Nat):Int)).astray with
  | true=>rw [h1] at h; cases h
  | false=>rw [h1] at h; exact ⟨rfl,of_decide_eq_true h⟩
end Go.Proofs.YtoflmffbkdekcaaGreat
namespace Go.Proofs.YtoflmffbkdekcaaGreat
open Go Go.RowKit
set_option linter.unusedVariables false
set_option linter.unusedSimpArgs false
theorem bifP {α:Type} {p:α→Prop} {c:Bool} {a b:α} (ha:p a) (hb:p b):p (bif c then a else b):=by cases c <;> assumption
structure DExt (a b:DevS):Prop where
  l:∃ x,b.l=a.l ++ x
  m:b.d.mode=a.d.mode
  g:b.d.g=a.d.g
theorem DExt.refl (a:DevS):DExt a a:=⟨⟨[],(List.append_nil _).symm⟩,rfl,rfl⟩
theorem DExt.trans {a b c:DevS} (h:DExt a b) (k:DExt b c):DExt a c:=by
  obtain ⟨x,hx⟩:=h.l
  obtain ⟨y,hy⟩:=k.l
  exact ⟨⟨x ++ y,by rw [hy,hx,List.append_assoc]⟩,k.m.trans h.m,k.g.trans h.g⟩
theorem dWent_x (s:DramS) (i:Int):(dWent_s s i).mode=s.mode∧(dWent_s s i).g=s.g:=by unfold dWent_s; exact bifP (p:=fun t:DramS=>t.mode=s.mode∧t.g=s.g) ⟨rfl,rfl⟩ ⟨rfl,rfl⟩
theorem dWrite_x (s:DramS) (i:Int) (r:Nat→Nat):(dWrite_s s i r).mode=s.mode∧(dWrite_s s i r).g=s.g:=by
  unfold dWrite_s
  exact bifP (p:=fun t:DramS=>t.mode=s.mode∧t.g=s.g) (bifP (p:=fun t:DramS=>t.mode=s.mode∧t.g=s.g) (dWent_x s i) (dWent_x s i)) ⟨rfl,rfl⟩
theorem dRead_x (s:DramS) (i:Int):(dRead_s s i).mode=s.mode∧(dRead_s s i).g=s.g:=by
  unfold dRead_s
  exact bifP (p:=fun t:DramS=>t.mode=s.mode∧t.g=s.g) (dWent_x s i) ⟨rfl,rfl⟩
theorem dInject_x (s:DramS) (f:Flt):(dInject_s s f).mode=s.mode∧(dInject_s s f).g=s.g:=by
  have b:=fun {c:Bool} {x y:DramS} (h:x.mode=s.mode∧x.g=s.g) (k:y.mode=s.mode∧y.g=s.g)=>bifP (p:=fun t:DramS=>t.mode=s.mode∧t.g=s.g) (c:=c) h k
  unfold dInject_s dInjectN_s
  exact b (b ⟨rfl,rfl⟩ (b (b ⟨rfl,rfl⟩ ⟨rfl,rfl⟩) (b ⟨rfl,rfl⟩ ⟨rfl,rfl⟩))) ⟨rfl,rfl⟩
theorem vput_x (s:DevS) (i:Int) (r:Nat→Nat) (m:Int):DExt s (vput_s s i r m):=by
  unfold vput_s
  exact bifP ⟨⟨_,rfl⟩,(dWrite_x s.d i r).1,(dWrite_x s.d i r).2⟩ ⟨⟨[],(List.append_nil _).symm⟩,(dWrite_x s.d i r).1,(dWrite_x s.d i r).2⟩
theorem vRead_x (s:DevS) (i:Int):DExt s (vRead_s s i):=by
  unfold vRead_s
  exact bifP (bifP ⟨⟨_,rfl⟩,(dRead_x s.d i).1,(dRead_x s.d i).2⟩ ⟨⟨_,rfl⟩,(dRead_x s.d i).1,(dRead_x s.d i).2⟩) ⟨⟨[],(List.append_nil _).symm⟩,(dRead_x s.d i).1,(dRead_x s.d i).2⟩
theorem vInject_x (s:DevS) (f:Flt):DExt s (vInject_s s f):=⟨⟨[],(List.append_nil _).symm⟩,(dInject_x s.d f).1,(dInject_x s.d f).2⟩
theorem cput_x (s:CtlS) (i:Int) (l:Nat→Nat) (b:Bool):DExt s.d (cput_s s i l b).d:=by
  unfold cput_s
  exact bifP (p:=fun t:CtlS=>DExt s.d t.d) (vput_x _ _ _ _) (vput_x _ _ _ _)
theorem ctake_x (s:CtlS) (i h r:Int):DExt s.d (ctake_s s i h r).d:=vRead_x s.d i
theorem cread_x (s:CtlS) (i:Int) (b:Bool):DExt s.d (cread_s s i b).d:=by
  unfold cread_s
  have b1:=fun {c:Bool} {x y:CtlS} (h:DExt s.d x.d) (k:DExt s.d y.d)=>bifP (p:=fun t:CtlS=>DExt s.d t.d) (c:=c) h k
  exact b1 (b1 (b1 ((ctake_x _ _ _ _).trans (cput_x _ _ _ _)) (ctake_x _ _ _ _)) (ctake_x _ _ _ _)) (.refl _)
theorem cMasked_x (s:CtlS) (i:Int) (l:List Nat) (m:Nat):DExt s.d (cMasked_s s i l m).d:=by
  unfold cMasked_s
  have b1:=fun {c:Bool} {x y:CtlS} (h:DExt s.d x.d) (k:DExt s.d y.d)=>bifP (p:=fun t:CtlS=>DExt s.d t.d) (c:=c) h k
  exact b1 (b1 (.refl _) (b1 (cput_x _ _ _ _) (b1 ((ctake_x _ _ _ _).trans (cput_x _ _ _ _)) ((ctake_x _ _ _ _).trans (cput_x _ _ _ _))))) (.refl _)
theorem cWrite_x (s:CtlS) (i:Int) (l:List Nat):DExt s.d (cWrite_s s i l).d:=cMasked_x _ _ _ _
theorem cScrub_x (s:CtlS):DExt s.d (cScrub_s s).d:=by
  have h:=cread_x { s with cur:=(IntKind.i64.wrap (s.cur + 1)).tmod (IntKind.i64.wrap ((lySeen_v0 s.le.c.ly) * s.le.c.ly.g.cols)) } s.cur true
  exact h
theorem ccopy_x (s:CtlS):DExt s.d (ccopy_j1 s).d:=by
  unfold ccopy_j1
  exact bifP (p:=fun t:CtlS=>DExt s.d t.d) ((ctake_x _ _ _ _).trans (cput_x _ _ _ _)) (cput_x _ _ _ _)
theorem cCopy_x (s:CtlS):DExt s.d (cCopy_s s).d:=by
  unfold cCopy_s
  exact bifP (p:=fun t:CtlS=>DExt s.d t.d) (ccopy_x s) (.refl _)
theorem cTick_x (s:CtlS):DExt s.d (cTick_s s).d:=by
  unfold cTick_s
  exact bifP (p:=fun t:CtlS=>DExt s.d t.d) (.refl _) (.refl _)
structure MExt (s t:MchS):Prop where
  d:DExt s.c.d t.c.d
  inj:∃ y,t.inj=s.inj ++ y
  srv:∃ z,t.srv=s.srv ++ z
theorem exNil {α:Type} (l:List α):∃ x,l=l ++ x:=⟨[],(List.append_nil _).symm⟩
theorem MExt.refl (a:MchS):MExt a a:=⟨.refl _,exNil _,exNil _⟩
theorem exTrans {α:Type} {a b c:List α} (h:∃ x,b=a ++ x) (k:∃ x,c=b ++ x):∃ x,c=a ++ x:=by
  obtain ⟨x,rfl⟩:=h
  obtain ⟨y,rfl⟩:=k
  exact ⟨x ++ y,List.append_assoc _ _ _⟩
theorem MExt.trans {a b c:MchS} (h:MExt a b) (k:MExt b c):MExt a c:=⟨h.d.trans k.d,exTrans h.inj k.inj,exTrans h.srv k.srv⟩
theorem mInject_x (s:MchS) (f:Flt):MExt s (mInject_s s f):=by
  unfold mInject_s
  exact bifP ⟨vInject_x _ _,⟨_,rfl⟩,exNil _⟩ ⟨vInject_x _ _,exNil _,exNil _⟩
theorem mRequest_x (s:MchS) (x:Stp):MExt s (mRequest_s s x):=by
  unfold mRequest_s
  exact bifP (bifP ⟨cread_x _ _ _,exNil _,exNil _⟩ ⟨cread_x _ _ _,exNil _,⟨_,rfl⟩⟩) (bifP (bifP ⟨cWrite_x _ _ _,exNil _,exNil _⟩ ⟨cWrite_x _ _ _,exNil _,⟨_,rfl⟩⟩) (bifP ⟨cMasked_x _ _ _ _,exNil _,exNil _⟩ ⟨cMasked_x _ _ _ _,exNil _,⟨_,rfl⟩⟩))
theorem mDo_x (s:MchS) (x:Stp):MExt s (mDo_s s x):=by
  have hi:MExt s (mInject_s { s with steps:=IntKind.i64.wrap (s.steps + 1) } x.f):=by
    have h:=mInject_x { s with steps:=IntKind.i64.wrap (s.steps + 1) } x.f
    exact ⟨h.d,h.inj,h.srv⟩
  have hr:MExt s (mRequest_s { s with steps:=IntKind.i64.wrap (s.steps + 1) } x):=by
    have h:=mRequest_x { s with steps:=IntKind.i64.wrap (s.steps + 1) } x
    exact ⟨h.d,h.inj,h.srv⟩
  unfold mDo_s
  exact bifP (bifP ⟨cScrub_x _,exNil _,exNil _⟩ (bifP ⟨cCopy_x _,exNil _,exNil _⟩ (bifP ⟨cTick_x _,exNil _,exNil _⟩ (bifP ⟨.refl _,exNil _,exNil _⟩ (bifP hi hr))))) (.refl _)
theorem mrS_x (s:MchS) (l:List Stp) (i:Nat):∀ k,MExt (mrS s l i) (mrS s l (i + k))
  | 0=>.refl _
  | k + 1=>(mrS_x s l i k).trans (mDo_x _ _)
theorem DExt.len {a b:DevS} (h:DExt a b):a.l.length≤b.l.length:=by
  obtain ⟨x,hx⟩:=h.l
  rw [hx,List.length_append]; omega
def SrvIn (s:MchS):Prop:=∀ x ∈ s.srv,0≤x.first∧x.first≤x.last∧x.last≤((s.c.d.l.length:Nat):Int)∧x.step.mask < 18446744073709551616
theorem SrvIn.ext {s t:MchS} (h:SrvIn s) (e:t.srv=s.srv) (d:DExt s.c.d t.c.d):SrvIn t:=fun x hx=>by
  rw [e] at hx
  obtain ⟨h1,h2,h3,h4⟩:=h x hx
  have:=d.len
  exact ⟨h1,h2,by omega,h4⟩
theorem SrvIn.add {s t:MchS} {y:Srv} (h:SrvIn s) (e:t.srv=s.srv ++ [y]) (d:DExt s.c.d t.c.d) (h1:y.first=((s.c.d.l.length:Nat):Int)) (h2:y.last=((t.c.d.l.length:Nat):Int)) (h3:y.step.mask < 18446744073709551616):SrvIn t:=fun x hx=>by
  have hd:=d.len
  rw [e] at hx
  rcases List.mem_append.1 hx with hx | hx
  · obtain ⟨k1,k2,k3,k4⟩:=h x hx
    exact ⟨k1,k2,by omega,k4⟩
  · rcases List.mem_singleton.1 hx with rfl
    exact ⟨by omega,by omega,by omega,h3⟩
theorem mRequest_srv {s:MchS} {x:Stp} (h:SrvIn s) (hx:StpOk x):SrvIn (mRequest_s s x):=by
  unfold mRequest_s
  exact bifP (bifP (h.ext rfl (cread_x _ _ _)) (h.add rfl (cread_x _ _ _) rfl rfl hx.m)) (bifP (bifP (h.ext rfl (cWrite_x _ _ _)) (h.add rfl (cWrite_x _ _ _) rfl rfl hx.m)) (bifP (h.ext rfl (cMasked_x _ _ _ _)) (h.add rfl (cMasked_x _ _ _ _) rfl rfl hx.m)))
theorem mDo_srv {s:MchS} {x:Stp} (h:SrvIn s) (hx:StpOk x):SrvIn (mDo_s s x):=by
  unfold mDo_s
  have hi:SrvIn (mInject_s { s with steps:=IntKind.i64.wrap (s.steps + 1) } x.f):=by
    unfold mInject_s
    exact bifP (h.ext rfl (vInject_x _ _)) (h.ext rfl (vInject_x _ _))
  have hr:SrvIn (mRequest_s { s with steps:=IntKind.i64.wrap (s.steps + 1) } x):=mRequest_srv (s:={ s with steps:=IntKind.i64.wrap (s.steps + 1) }) h hx
  exact bifP (bifP (h.ext rfl (cScrub_x _)) (bifP (h.ext rfl (cCopy_x _)) (bifP (h.ext rfl (cTick_x _)) (bifP (h.ext rfl (.refl _)) (bifP hi hr))))) h
theorem mrS_srv {s:MchS} {l:List Stp} (h:SrvIn s) (hl:∀ x ∈ l,StpOk x):∀ i,i≤l.length→SrvIn (mrS s l i)
  | 0,_=>h
  | i + 1,hi=>mDo_srv (mrS_srv h hl i (Nat.le_of_succ_le hi)) (stp_at hl hi)
theorem mNewM_srv (c:Cfg):SrvIn (mNewM_s c):=fun x hx=>by cases hx
theorem mPl_srv {c:Cfg} {l:List Stp} (hl:∀ x ∈ l,StpOk x):SrvIn (mPl c l):=mrS_srv (mNewM_srv c) hl _ (Nat.le_refl _)
theorem SrvIn.ms {s:MchS} (h:SrvIn s) (i:Nat):(s.srv.getD i eSrv0).step.mask < 18446744073709551616:=by
  rcases Nat.lt_or_ge i s.srv.length with hi | hi
  · exact (h _ (gDm eSrv0 hi)).2.2.2
  · rw [List.getD_eq_getElem?_getD,List.getElem?_eq_none hi]; decide
theorem ctlN_x (c:Cfg):DExt (ctl0 c).d (ctlN c).d:=by
  have h1:∀ s r b w k,DExt s.d (nwC s r b w k).d:=fun s r b w k=>by induction k with | zero=>exact .refl _ | succ k ih=>exact ih.trans (cput_x _ _ _ _)
  have h2:∀ s r b C w,DExt s.d (nwW s r b C w).d:=fun s r b C w=>by induction w with | zero=>exact .refl _ | succ w ih=>exact ih.trans (h1 _ _ _ _ _)
  have h3:∀ s r W C b,DExt s.d (nwB s r W C b).d:=fun s r W C b=>by induction b with | zero=>exact .refl _ | succ b ih=>exact ih.trans (h2 _ _ _ _ _)
  have h4:∀ s B W C r,DExt s.d (nwR s B W C r).d:=fun s B W C r=>by induction r with | zero=>exact .refl _ | succ r ih=>exact ih.trans (h3 _ _ _ _ _)
  exact h4 _ _ _ _ _
theorem mPl_x (c:Cfg) (l:List Stp):MExt (mNewM_s c) (mPl c l):=by
  have h:=mrS_x (mNewM_s c) l 0 l.length
  rw [Nat.zero_add] at h
  exact h
theorem mPl_md (c:Cfg) (l:List Stp):c.mode=(mPl c l).c.d.d.mode:=((mPl_x c l).d.m.trans (ctlN_x c).m).symm
end Go.Proofs.YtoflmffbkdekcaaGreat
namespace Go.Proofs.YtoflmffbkdekcaaGreat
open Go Go.RowKit
set_option linter.unusedVariables false
set_option linter.unusedSimpArgs false
set_option maxRecDepth 100000
theorem mPl_h {c:Cfg} {l:List Stp} {k:Int} (h:pl25 c l.length k=true) (hs:∀ x ∈ l,StpOk x) (hk:k≤1000):MchOk 8400000 (mPl c l):=mPl_ok (pl25_c h) hs (by have:=of_decide_eq_false (pl25_t h).2; omega)
end Go.Proofs.YtoflmffbkdekcaaGreat
