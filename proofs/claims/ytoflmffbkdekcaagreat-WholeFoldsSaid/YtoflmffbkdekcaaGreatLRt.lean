import Derived.Test.YtoflmffbkdekcaaGreatLGo
namespace Go.Proofs.YtoflmffbkdekcaaGreat
open Go Go.RowKit
set_option linter.unusedVariables false
set_option linter.unusedSimpArgs false
def LvIn (s:MapS):Prop:=∀ x ∈ s.lives,0≤x∧x < gpages_v0 s.l.g
def SpIn (s:MapS):Prop:=∀ x ∈ s.sp,x=-1 ∨ (s.l.g.ranks≤x∧x < s.l.g.ranks + s.l.g.spares)
structure MpIn (s:MapS):Prop where
  lv:LvIn s
  sp:SpIn s
def LvS (s t:MapS):Prop:=t.lives=s.lives∧t.l=s.l∧t.sp=s.sp
theorem LvS.refl (s:MapS):LvS s s:=⟨rfl,rfl,rfl⟩
theorem LvS.trans {a b c:MapS} (h:LvS a b) (k:LvS b c):LvS a c:=⟨k.1.trans h.1,k.2.1.trans h.2.1,k.2.2.trans h.2.2⟩
theorem MpIn.same {s t:MapS} (h:MpIn s) (k:LvS s t):MpIn t:=⟨by unfold LvIn; rw [k.1,k.2.1]; exact h.lv,by unfold SpIn; rw [k.2.1,k.2.2]; exact h.sp⟩
theorem retL_in {h t:Int} {l:List Int} {p:Int→Prop} (ht:p t) (hl:∀ x ∈ l,p x):∀ i,∀ x ∈ retL h t l i,p x
  | 0=>hl
  | i + 1 => by
    have ih:=retL_in (h:=h) ht hl i
    rw [retL]
    cases decide ((retL h t l i).getD i eI0=h)
    · exact ih
    · intro x hx
      rcases List.mem_or_eq_of_mem_set hx with hx | rfl
      · exact ih x hx
      · exact ht
theorem rbel_no {i n:Int} (h:i < 0 ∨ n≤i):rbel_v0 i n=false:=by
  unfold rbel_v0
  rcases h with h | h
  · rw [decide_eq_false (show ¬ 0≤i by omega)]; rfl
  · rw [decide_eq_false (show ¬ i < n by omega)]; cases decide (0≤i) <;> rfl
theorem mRetire_lv {s:MapS} {a t:Int} (ok:MapOk s) (h:MpIn s) (ht:0≤t∧t≤1048576):MpIn (mRetire_s s a t):=by
  have hl:=ly_rt ok.right
  unfold mRetire_s
  refine bifG (p:=MpIn) ?_ h
  cases q:rbel_v0 (IntKind.i64.wrap (t - (lySeen_v0 s.l))) s.pages with
  | false=>exact h
  | true =>
    have hb:=rbel_t q
    rw [wrap_ok (by omega) (by omega)] at hb
    have hp:=ok.pg
    have hx:LvIn { s with lives:=retL a t s.lives s.lives.length,dead:=s.dead.set a.toNat true }:=retL_in (p:=fun x=>0≤x∧x < gpages_v0 s.l.g) (show 0≤t∧t < gpages_v0 s.l.g by omega) h.lv _
    rw [cond_true]
    exact bifG (p:=MpIn) h (bifG (p:=MpIn) h (bifG (p:=MpIn) h ⟨hx,h.sp⟩))
theorem mReplace_lv {s:MapS} {a t:Int} (ok:MapOk s) (h:MpIn s) (ht:0≤t∧t≤1048576):MpIn (mReplace_s s a t):=by
  have hg:=Gm.rt (ly_rt ok.right).1
  unfold mReplace_s
  refine bifG (p:=MpIn) ?_ h
  cases q:rbel_v0 (IntKind.i64.wrap (t - s.l.g.ranks)) s.rks with
  | false=>exact h
  | true =>
    have hb:=rbel_t q
    rw [wrap_ok (by omega) (by omega)] at hb
    have hp:=ok.rk
    rw [cond_true]
    refine bifG (p:=MpIn) ⟨h.lv,fun x hx=>?_⟩ h
    rcases List.mem_or_eq_of_mem_set hx with hx | rfl
    · exact h.sp x hx
    · exact Or.inr ⟨by show s.l.g.ranks≤x; omega,by show x < s.l.g.ranks + s.l.g.spares; omega⟩
theorem rpStart_lv (s:RepS) (a:Ak):LvS s.m (rpStart_s s a).m:=by
  have h1:LvS s.m (mTakeSpare_s s.m):=by unfold mTakeSpare_s; exact bifG ⟨rfl,rfl,rfl⟩ (.refl _)
  have h2:LvS s.m (mTakePage_s s.m):=by unfold mTakePage_s; exact bifG ⟨rfl,rfl,rfl⟩ (.refl _)
  unfold rpStart_s
  exact bifG (p:=fun t:RepS=>LvS s.m t.m) (bifG (p:=fun t:RepS=>LvS s.m t.m) h1 h1) (bifG (p:=fun t:RepS=>LvS s.m t.m) h2 h2)
theorem rpAsk_lv (s:RepS) (a:Ak):LvS s.m (rpAsk_s s a).m:=by
  unfold rpAsk_s
  exact bifG (p:=fun t:RepS=>LvS s.m t.m) (.refl _) (bifG (p:=fun t:RepS=>LvS s.m t.m) (rpStart_lv _ _) (.refl _))
theorem finR_lv (x:RepS × List Ev):LvS x.1.m (finR x).1.m:=by
  unfold finR
  exact bifG (p:=fun t:RepS=>LvS x.1.m t.m) (.refl _) (rpStart_lv _ _)
theorem fin1_lv {s:RepS} (ok:RepOk s) (h:MpIn s.m):MpIn (fin1 s).m:=by
  unfold fin1
  exact bifG (p:=fun t:RepS=>MpIn t.m) (mRetire_lv ok.m h ok.g) (mReplace_lv ok.m h ok.g)
theorem finX_lv (s:RepS):∀ i,LvS (fin1 s).m (finX s i).1.m
  | 0=>.refl _
  | i + 1=>(finX_lv s i).trans (finR_lv _)
theorem rpFinish_lv {s:RepS} (ok:RepOk s) (h:MpIn s.m):MpIn (rpFinish_s s).m:=by
  have h1:=fin1_lv ok h
  unfold rpFinish_s
  exact bifG (p:=fun t:RepS=>MpIn t.m) (h1.same (finX_lv s _)) (h1.same (finX_lv s _))
theorem rpStep_lv {s:RepS} (ok:RepOk s) (h:MpIn s.m):MpIn (rpStep_s s).m:=by
  unfold rpStep_s
  exact bifG (p:=fun t:RepS=>MpIn t.m) h (bifG (p:=fun t:RepS=>MpIn t.m) (rpFinish_lv (s:={ s with j:={ s.j with next:=IntKind.i64.wrap (s.j.next + 1) } }) ⟨ok.m,ok.q,ok.g⟩ h) h)
theorem levent_rep (s:LedS) (k:Int) (v:Ev):(levent_s s k v).rep=s.rep:=by
  unfold levent_s
  exact bifG (p:=fun t:LedS=>t.rep=s.rep) (bifG (p:=fun t:LedS=>t.rep=s.rep) rfl rfl) rfl
theorem lcame_rep (s:LedS) (k:Int) (l:List Ev):∀ i,(lcame s k l i).rep=s.rep
  | 0=>rfl
  | i + 1=>(levent_rep _ _ _).trans (lcame_rep s k l i)
theorem ljudge_lv (s:LedS) (x:Nt):LvS s.rep.m (ljudge_s s x).rep.m:=by
  let p:=fun t:LedS=>LvS s.rep.m t.rep.m
  have hc:∀ (t:LedS) (k:Int) (l:List Ev) (i:Nat),p t→p (lcame t k l i):=fun t k l i h=>by show LvS _ _; rw [lcame_rep]; exact h
  have j1:p (ljudge_j1 s x):=by unfold ljudge_j1; exact bifG (p:=p) (hc _ _ _ _ (rpAsk_lv _ _)) (LvS.refl _)
  have j2:p (ljudge_j2 s x):=by unfold ljudge_j2; exact bifG (p:=p) (hc _ _ _ _ (LvS.trans j1 (rpAsk_lv _ _))) j1
  have j3:p (ljudge_j3 s x):=by unfold ljudge_j3; exact bifG (p:=p) (hc _ _ _ _ (rpAsk_lv _ _)) (LvS.refl _)
  have j4:p (ljudge_j4 s x):=by unfold ljudge_j4; exact bifG (p:=p) (hc _ _ _ _ (LvS.trans j3 (rpAsk_lv _ _))) j3
  unfold ljudge_s
  exact bifG (p:=p) (LvS.refl _) (bifG (p:=p) j2 (bifG (p:=p) (LvS.refl _) j4))
theorem lapply_lv {s:LedS} {x:Nt} (ok:LedOk s) (h:MpIn s.rep.m):MpIn (lapply_s s x).rep.m:=by
  let p:=fun t:LedS=>MpIn t.rep.m
  unfold lapply_s
  refine bifG (p:=p) (h.same (ljudge_lv s x)) (bifG (p:=p) h (bifG (p:=p) ?_ (bifG (p:=p) h h)))
  show MpIn (lcame _ _ _ _).rep.m
  rw [lcame_rep]
  exact rpStep_lv ok.rep h
def LIn (s:LedS):Prop:=LedOk s∧MpIn s.rep.m
theorem fold_in:∀ (y:List Nt) {s:LedS},LIn s→LIn (y.foldl lapply_s s)
  | [],_,h=>h
  | x :: y,_,h=>fold_in y ⟨lapply_ok h.1,lapply_lv h.1 h.2⟩
theorem liveL_in:∀ n,∀ x ∈ liveL n,0≤x∧x < ((n:Nat):Int)
  | 0,x,h=>by cases h
  | n + 1,x,h=>by
    rw [liveL] at h
    rcases List.mem_append.1 h with h | h
    · have:=liveL_in n x h; omega
    · rcases List.mem_singleton.1 h with rfl; omega
theorem spL_in:∀ n,∀ x ∈ spL n,x=-1
  | 0,x,h=>by cases h
  | n + 1,x,h=>by
    rw [spL] at h
    rcases List.mem_append.1 h with h | h
    · exact spL_in n x h
    · exact List.mem_singleton.1 h
theorem copen_in {c:Cfg} (h:cfgRight_v0 c=true):LIn (copen_s c):=by
  have hl:=ly_rt (cfg_t h).1
  refine ⟨copen_ok h,⟨fun x hx=>?_,fun x hx=>Or.inl (spL_in _ x hx)⟩⟩
  have:=liveL_in _ x hx
  show 0≤x∧x < gpages_v0 c.ly.g
  omega
theorem mrS_in {c:Cfg} (h:cfgRight_v0 c=true) (l:List Stp) (i:Nat):LIn (mrS (mNewM_s c) l i).c.le:=by rw [mrS_fold]; exact fold_in _ (copen_in h)
theorem cat_30 {s:CtlS} {n:Int} (hn:n < 0 ∨ IntKind.i64.wrap ((lySeen_v0 s.le.rep.m.l) * s.le.rep.m.l.g.cols)≤n):cat_v3 s n=30:=by
  have e:jroute_v1 s.le.rep.j s.le.rep.m n=12:=by
    unfold jroute_v1 mIndex_v3
    rw [rbel_no hn]; rfl
  unfold cat_v3
  rw [e]; rfl
end Go.Proofs.YtoflmffbkdekcaaGreat
