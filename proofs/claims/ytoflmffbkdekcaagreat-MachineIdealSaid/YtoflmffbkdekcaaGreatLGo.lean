import Derived.Test.YtoflmffbkdekcaaGreatFRun
namespace Go.Proofs.YtoflmffbkdekcaaGreat
open Go Go.RowKit
set_option linter.unusedVariables false
set_option linter.unusedSimpArgs false
theorem bifG {α:Type} {p:α→Prop} {c:Bool} {a b:α} (ha:p a) (hb:p b):p (bif c then a else b):=by cases c <;> assumption
structure LK (s t:LedS):Prop where
  c:t.c=s.c
  l:t.rep.m.l=s.rep.m.l
  k:t.trk.ranks.length=s.trk.ranks.length
  r:t.trk.r=s.trk.r
  o:t.log.room=s.log.room
theorem LK.refl (s:LedS):LK s s:=⟨rfl,rfl,rfl,rfl,rfl⟩
theorem LK.trans {a b c:LedS} (h:LK a b) (k:LK b c):LK a c:=⟨k.c.trans h.c,k.l.trans h.l,k.k.trans h.k,k.r.trans h.r,k.o.trans h.o⟩
theorem rpStart_l (s:RepS) (a:Ak):(rpStart_s s a).m.l=s.m.l:=by
  unfold rpStart_s
  exact bifG (p:=fun t:RepS=>t.m.l=s.m.l) (bifG (p:=fun t:RepS=>t.m.l=s.m.l) (mTakeSpare_l _) (mTakeSpare_l _)) (bifG (p:=fun t:RepS=>t.m.l=s.m.l) (mTakePage_l _) (mTakePage_l _))
theorem rpAsk_l (s:RepS) (a:Ak):(rpAsk_s s a).m.l=s.m.l:=by
  unfold rpAsk_s
  exact bifG (p:=fun t:RepS=>t.m.l=s.m.l) rfl (bifG (p:=fun t:RepS=>t.m.l=s.m.l) (rpStart_l _ _) rfl)
theorem finR_l (x:RepS × List Ev):(finR x).1.m.l=x.1.m.l:=by
  unfold finR
  exact bifG (p:=fun t:RepS=>t.m.l=x.1.m.l) rfl (rpStart_l _ _)
theorem fin1_l (s:RepS):(fin1 s).m.l=s.m.l:=by
  unfold fin1
  exact bifG (p:=fun t:RepS=>t.m.l=s.m.l) (mRetire_l _ _ _) (mReplace_l _ _ _)
theorem finX_l (s:RepS):∀ i,(finX s i).1.m.l=s.m.l
  | 0=>fin1_l s
  | i + 1=>(finR_l _).trans (finX_l s i)
theorem rpFinish_l (s:RepS):(rpFinish_s s).m.l=s.m.l:=by
  unfold rpFinish_s
  exact bifG (p:=fun t:RepS=>t.m.l=s.m.l) (finX_l s _) (finX_l s _)
theorem rpStep_l (s:RepS):(rpStep_s s).m.l=s.m.l:=by
  unfold rpStep_s
  exact bifG (p:=fun t:RepS=>t.m.l=s.m.l) rfl (bifG (p:=fun t:RepS=>t.m.l=s.m.l) (rpFinish_l _) rfl)
theorem kNote_k (s:TrkS) (k g n:Int):(kNote_s s k g n).ranks.length=s.ranks.length∧(kNote_s s k g n).r=s.r:=by
  unfold kNote_s
  exact bifG (p:=fun t:TrkS=>t.ranks.length=s.ranks.length∧t.r=s.r) (bifG (p:=fun t:TrkS=>t.ranks.length=s.ranks.length∧t.r=s.r) ⟨rfl,rfl⟩ ⟨List.length_set,rfl⟩) ⟨rfl,rfl⟩
theorem kReset_k (s:TrkS) (k:Int):(kReset_s s k).ranks.length=s.ranks.length∧(kReset_s s k).r=s.r:=by
  unfold kReset_s
  exact bifG (p:=fun t:TrkS=>t.ranks.length=s.ranks.length∧t.r=s.r) ⟨List.length_set,rfl⟩ ⟨rfl,rfl⟩
theorem lAdd_o (s:LogS) (x:Rec):(lAdd_s s x).room=s.room:=by
  unfold lAdd_s
  exact bifG (p:=fun t:LogS=>t.room=s.room) (bifG (p:=fun t:LogS=>t.room=s.room) (bifG (p:=fun t:LogS=>t.room=s.room) rfl rfl) rfl) rfl
theorem lwrite_k (s:LedS) (k i n:Int):LK s (lwrite_s s k i n):=⟨rfl,rfl,rfl,rfl,lAdd_o _ _⟩
theorem LK.trk {s t:LedS} (h:LK s t) {x:TrkS} (h1:x.ranks.length=t.trk.ranks.length) (h2:x.r=t.trk.r):LK s { t with trk:=x }:=⟨h.c,h.l,h1.trans h.k,h2.trans h.r,h.o⟩
theorem LK.rep {s t:LedS} (h:LK s t) {x:RepS} (h1:x.m.l=t.rep.m.l):LK s { t with rep:=x }:=⟨h.c,h1.trans h.l,h.k,h.r,h.o⟩
theorem levent_k (s:LedS) (k:Int) (v:Ev):LK s (levent_s s k v):=by
  unfold levent_s
  exact bifG (bifG ((lwrite_k _ _ _ _).trk rfl rfl) ((lwrite_k _ _ _ _).trk (kReset_k _ _).1 (kReset_k _ _).2)) (lwrite_k _ _ _ _)
theorem lcame_k (s:LedS) (k:Int) (l:List Ev):∀ i,LK s (lcame s k l i)
  | 0=>.refl s
  | i + 1=>(lcame_k s k l i).trans (levent_k _ _ _)
theorem ljudge_j1_k (s:LedS) (x:Nt):LK s (ljudge_j1 s x):=by
  unfold ljudge_j1
  exact bifG (((lwrite_k s 1 x.index x.vf).trk (kNote_k _ _ _ _).1 (kNote_k _ _ _ _).2 |>.rep (rpAsk_l _ _)).trans (lcame_k _ _ _ _)) ((lwrite_k _ _ _ _).trk (kNote_k _ _ _ _).1 (kNote_k _ _ _ _).2)
theorem ljudge_j2_k (s:LedS) (x:Nt):LK s (ljudge_j2 s x):=by
  unfold ljudge_j2
  exact bifG (((ljudge_j1_k s x).rep (rpAsk_l _ _)).trans (lcame_k _ _ _ _)) (ljudge_j1_k s x)
theorem ljudge_j3_k (s:LedS) (x:Nt):LK s (ljudge_j3 s x):=by
  unfold ljudge_j3
  exact bifG (((lwrite_k s 2 x.index 0).trk (kNote_k _ _ _ _).1 (kNote_k _ _ _ _).2 |>.rep (rpAsk_l _ _)).trans (lcame_k _ _ _ _)) ((lwrite_k _ _ _ _).trk (kNote_k _ _ _ _).1 (kNote_k _ _ _ _).2)
theorem ljudge_j4_k (s:LedS) (x:Nt):LK s (ljudge_j4 s x):=by
  unfold ljudge_j4
  exact bifG (((ljudge_j3_k s x).rep (rpAsk_l _ _)).trans (lcame_k _ _ _ _)) (ljudge_j3_k s x)
theorem ljudge_k (s:LedS) (x:Nt):LK s (ljudge_s s x):=by
  unfold ljudge_s
  exact bifG (.refl s) (bifG (ljudge_j2_k s x) (bifG (lwrite_k _ _ _ _) (ljudge_j4_k s x)))
theorem rkT_k (r:Rls) (l:List Bk) (i:Nat):(rkT r l i).length=l.length:=by
  first | exact rkT_len r l i | exact rkT_len _ _ _ | (induction i with | zero=>rfl | succ i ih=>rw [rkT,List.length_set]; exact ih)
theorem lapply_k (s:LedS) (x:Nt):LK s (lapply_s s x):=by
  unfold lapply_s
  exact bifG (ljudge_k s x) (bifG ⟨rfl,rfl,rkT_k _ _ _,rfl,rfl⟩ (bifG (((LK.refl s).rep (rpStep_l _)).trans (lcame_k _ _ _ _)) (bifG ⟨rfl,rfl,rfl,rfl,rfl⟩ (.refl s))))
theorem fold_k:∀ (y:List Nt) (s:LedS),LK s (y.foldl lapply_s s)
  | [],s=>.refl s
  | x :: y,s=>(lapply_k s x).trans (fold_k y _)
def CG (s t:CtlS):Prop:=∃ y,t.notes=s.notes ++ y∧t.le=y.foldl lapply_s s.le
theorem CG.refl (s:CtlS):CG s s:=⟨[],(List.append_nil _).symm,rfl⟩
theorem CG.same {s t:CtlS} (h1:t.notes=s.notes) (h2:t.le=s.le):CG s t:=⟨[],by rw [h1,List.append_nil],h2⟩
theorem CG.trans {a b c:CtlS} (h:CG a b) (k:CG b c):CG a c:=by
  obtain ⟨x,h1,h2⟩:=h
  obtain ⟨y,k1,k2⟩:=k
  exact ⟨x ++ y,by rw [k1,h1,List.append_assoc],by rw [k2,h2,List.foldl_append]⟩
theorem cput_g (s:CtlS) (i:Int) (l:Nat→Nat) (b:Bool):CG s (cput_s s i l b):=by
  unfold cput_s
  exact bifG (.same rfl rfl) (.same rfl rfl)
theorem cnote_g (s:CtlS) (x:Nt):CG s (cnote_s s x):=⟨[x],rfl,rfl⟩
theorem ctake_g (s:CtlS) (i h r:Int):CG s (ctake_s s i h r):=⟨[_],rfl,rfl⟩
theorem cread_g (s:CtlS) (i:Int) (b:Bool):CG s (cread_s s i b):=by
  unfold cread_s
  exact bifG (bifG (bifG ((ctake_g _ _ _ _).trans (cput_g _ _ _ _)) (ctake_g _ _ _ _)) (ctake_g _ _ _ _)) (.refl _)
theorem cMasked_g (s:CtlS) (i:Int) (l:List Nat) (m:Nat):CG s (cMasked_s s i l m):=by
  unfold cMasked_s
  exact bifG (bifG (.refl _) (bifG (cput_g _ _ _ _) (bifG ((ctake_g _ _ _ _).trans (cput_g _ _ _ _)) ((ctake_g _ _ _ _).trans (cput_g _ _ _ _))))) (.refl _)
theorem cWrite_g (s:CtlS) (i:Int) (l:List Nat):CG s (cWrite_s s i l):=cMasked_g _ _ _ _
theorem cScrub_g (s:CtlS):CG s (cScrub_s s):=by
  have h:=cread_g { s with cur:=(IntKind.i64.wrap (s.cur + 1)).tmod (IntKind.i64.wrap ((lySeen_v0 s.le.c.ly) * s.le.c.ly.g.cols)) } s.cur true
  exact h
theorem ccopy_g (s:CtlS):CG s (ccopy_j1 s):=by
  unfold ccopy_j1
  exact bifG ((ctake_g _ _ _ _).trans (cput_g _ _ _ _)) (cput_g _ _ _ _)
theorem cCopy_g (s:CtlS):CG s (cCopy_s s):=by
  unfold cCopy_s
  exact bifG ((ccopy_g s).trans (cnote_g _ _)) (.refl _)
theorem cTick_g (s:CtlS):CG s (cTick_s s):=by
  unfold cTick_s
  exact bifG (.refl _) (cnote_g _ _)
theorem mInject_g (s:MchS) (f:Flt):CG s.c (mInject_s s f).c:=by
  unfold mInject_s
  exact bifG (p:=fun t:MchS=>CG s.c t.c) (.same rfl rfl) (.same rfl rfl)
theorem mRequest_g (s:MchS) (x:Stp):CG s.c (mRequest_s s x).c:=by
  unfold mRequest_s
  have b:=fun {c:Bool} {x y:MchS} (h:CG s.c x.c) (k:CG s.c y.c)=>bifG (p:=fun t:MchS=>CG s.c t.c) (c:=c) h k
  exact b (b (cread_g _ _ _) (cread_g _ _ _)) (b (b (cWrite_g _ _ _) (cWrite_g _ _ _)) (b (cMasked_g _ _ _ _) (cMasked_g _ _ _ _)))
theorem mDo_g (s:MchS) (x:Stp):CG s.c (mDo_s s x).c:=by
  have hi:CG s.c (mInject_s { s with steps:=IntKind.i64.wrap (s.steps + 1) } x.f).c:=mInject_g { s with steps:=IntKind.i64.wrap (s.steps + 1) } x.f
  have hr:CG s.c (mRequest_s { s with steps:=IntKind.i64.wrap (s.steps + 1) } x).c:=mRequest_g { s with steps:=IntKind.i64.wrap (s.steps + 1) } x
  have b:=fun {c:Bool} {x y:MchS} (h:CG s.c x.c) (k:CG s.c y.c)=>bifG (p:=fun t:MchS=>CG s.c t.c) (c:=c) h k
  unfold mDo_s
  exact b (b (cScrub_g _) (b (cCopy_g _) (b (cTick_g _) (b (cnote_g _ _) (b hi hr))))) (.refl _)
theorem mrS_g (s:MchS) (l:List Stp):∀ i,CG s.c (mrS s l i).c
  | 0=>.refl _
  | i + 1=>(mrS_g s l i).trans (mDo_g _ _)
theorem cput_n (s:CtlS) (i:Int) (l:Nat→Nat) (b:Bool):(cput_s s i l b).notes=s.notes∧(cput_s s i l b).le=s.le:=by
  unfold cput_s
  exact bifG (p:=fun t:CtlS=>t.notes=s.notes∧t.le=s.le) ⟨rfl,rfl⟩ ⟨rfl,rfl⟩
theorem ctlN_n (c:Cfg):(ctlN c).notes=[]∧(ctlN c).le=copen_s c:=by
  let p:=fun (s t:CtlS)=>t.notes=s.notes∧t.le=s.le
  have tr:∀ {a b d},p a b→p b d→p a d:=fun h k=>⟨k.1.trans h.1,k.2.trans h.2⟩
  have h1:∀ s r b w k,p s (nwC s r b w k):=fun s r b w k=>by induction k with | zero=>exact ⟨rfl,rfl⟩ | succ k ih=>exact tr ih (cput_n _ _ _ _)
  have h2:∀ s r b C w,p s (nwW s r b C w):=fun s r b C w=>by induction w with | zero=>exact ⟨rfl,rfl⟩ | succ w ih=>exact tr ih (h1 _ _ _ _ _)
  have h3:∀ s r W C b,p s (nwB s r W C b):=fun s r W C b=>by induction b with | zero=>exact ⟨rfl,rfl⟩ | succ b ih=>exact tr ih (h2 _ _ _ _ _)
  have h4:∀ s B W C r,p s (nwR s B W C r):=fun s B W C r=>by induction r with | zero=>exact ⟨rfl,rfl⟩ | succ r ih=>exact tr ih (h3 _ _ _ _ _)
  exact h4 _ _ _ _ _
theorem mrS_fold (c:Cfg) (l:List Stp) (i:Nat):(mrS (mNewM_s c) l i).c.le=(mrS (mNewM_s c) l i).c.notes.foldl lapply_s (copen_s c):=by
  obtain ⟨y,h1,h2⟩:=mrS_g (mNewM_s c) l i
  have e1:(mNewM_s c).c.notes=[]:=(ctlN_n c).1
  have e2:(mNewM_s c).c.le=copen_s c:=(ctlN_n c).2
  rw [h1,h2,e1,e2,List.nil_append]
theorem mrS_k (c:Cfg) (l:List Stp) (i:Nat):LK (copen_s c) (mrS (mNewM_s c) l i).c.le:=by rw [mrS_fold]; exact fold_k _ _
theorem mrS_ly (c:Cfg) (l:List Stp) (i:Nat):(mrS (mNewM_s c) l i).c.le.rep.m.l=c.ly:=(mrS_k c l i).l
end Go.Proofs.YtoflmffbkdekcaaGreat
