import Derived.Test.YtfhiggfmkjmeiaaGreatFRun
set_option linter.unusedVariables false
set_option linter.unusedSimpArgs false
set_option linter.unusedSectionVars false
namespace Go.Proofs.YtfhiggfmkjmeiaaGreat
open Go Go.RowKit
theorem bifG {α:Type} {p:α->Prop} {c:Bool} {a b:α} (ha:p a) (hb:p b):p (bif c then a else b):=by cases c <;> assumption
structure LK (s t:LedS):Prop where
 c:t.c=s.c
 l:t.rep.m.l=s.rep.m.l
 k:t.trk.ranks.length=s.trk.ranks.length
 r:t.trk.r=s.trk.r
 o:t.log.room=s.log.room
theorem LK.refl (s:LedS):LK s s:=⟨rfl,rfl,rfl,rfl,rfl⟩
theorem LK.trans {a b c:LedS} (h:LK a b) (k:LK b c):LK a c:=⟨k.c.trans h.c,k.l.trans h.l,k.k.trans h.k,k.r.trans h.r,k.o.trans h.o⟩
theorem rpStart_l (s:RepS) (a:Ak):(rpStart_s s a).m.l=s.m.l:=by
 unfold rpStart_s
 exact bifG (p:=fun t:RepS=>t.m.l=s.m.l) (bifG (p:=fun t:RepS=>t.m.l=s.m.l) (mTakeSpare_l _) (mTakeSpare_l _)) (bifG (p:=fun t:RepS=>t.m.l=s.m.l) (mTakePage_l _) (mTakePage_l _))
theorem rpAsk_l (s:RepS) (a:Ak):(rpAsk_s s a).m.l=s.m.l:=by
 unfold rpAsk_s
 exact bifG (p:=fun t:RepS=>t.m.l=s.m.l) rfl (bifG (p:=fun t:RepS=>t.m.l=s.m.l) (rpStart_l _ _) rfl)
theorem finR_l (x:RepS × List Ev):(finR x).1.m.l=x.1.m.l:=by
 unfold finR
 exact bifG (p:=fun t:RepS=>t.m.l=x.1.m.l) rfl (rpStart_l _ _)
theorem fin1_l (s:RepS):(fin1 s).m.l=s.m.l:=by
 unfold fin1
 exact bifG (p:=fun t:RepS=>t.m.l=s.m.l) (mRetire_l _ _ _) (mReplace_l _ _ _)
theorem finX_l (s:RepS):∀ i,(finX s i).1.m.l=s.m.l
 | 0=>fin1_l s
 | i + 1=>(finR_l _).trans (finX_l s i)
theorem rpFinish_l (s:RepS):(rpFinish_s s).m.l=s.m.l:=by
 unfold rpFinish_s
 exact bifG (p:=fun t:RepS=>t.m.l=s.m.l) (finX_l s _) (finX_l s _)
theorem rpStep_l (s:RepS):(rpStep_s s).m.l=s.m.l:=by
 unfold rpStep_s
 exact bifG (p:=fun t:RepS=>t.m.l=s.m.l) rfl (bifG (p:=fun t:RepS=>t.m.l=s.m.l) (rpFinish_l _) rfl)
theorem kNote_k (s:TrkS) (k g n:Int):(kNote_s s k g n).ranks.length=s.ranks.length∧(kNote_s s k g n).r=s.r:=by
 unfold kNote_s
 exact bifG (p:=fun t:TrkS=>t.ranks.length=s.ranks.length∧t.r=s.r) (bifG (p:=fun t:TrkS=>t.ranks.length=s.ranks.length∧t.r=s.r) ⟨rfl,rfl⟩ ⟨List.length_set,rfl⟩) ⟨rfl,rfl⟩
theorem kReset_k (s:TrkS) (k:Int):(kReset_s s k).ranks.length=s.ranks.length∧(kReset_s s k).r=s.r:=by
 unfold kReset_s
 exact bifG (p:=fun t:TrkS=>t.ranks.length=s.ranks.length∧t.r=s.r) ⟨List.length_set,rfl⟩ ⟨rfl,rfl⟩
theorem lAdd_o (s:LogS) (x:Rec):(lAdd_s s x).room=s.room:=by
 unfold lAdd_s
 exact bifG (p:=fun t:LogS=>t.room=s.room) (bifG (p:=fun t:LogS=>t.room=s.room) (bifG (p:=fun t:LogS=>t.room=s.room) rfl rfl) rfl) rfl
theorem lwrite_k (s:LedS) (k i n:Int):LK s (lwrite_s s k i n):=⟨rfl,rfl,rfl,rfl,lAdd_o _ _⟩
theorem LK.trk {s t:LedS} (h:LK s t) {x:TrkS} (h1:x.ranks.length=t.trk.ranks.length) (h2:x.r=t.trk.r):LK s { t with trk:=x }:=⟨h.c,h.l,h1.trans h.k,h2.trans h.r,h.o⟩
theorem LK.rep {s t:LedS} (h:LK s t) {x:RepS} (h1:x.m.l=t.rep.m.l):LK s { t with rep:=x }:=⟨h.c,h1.trans h.l,h.k,h.r,h.o⟩
theorem levent_k (s:LedS) (k:Int) (v:Ev):LK s (levent_s s k v):=by
 unfold levent_s
 exact bifG (bifG ((lwrite_k _ _ _ _).trk rfl rfl) ((lwrite_k _ _ _ _).trk (kReset_k _ _).1 (kReset_k _ _).2)) (lwrite_k _ _ _ _)
theorem lcame_k (s:LedS) (k:Int) (l:List Ev):∀ i,LK s (lcame s k l i)
 | 0=>.refl s
 | i + 1=>(lcame_k s k l i).trans (levent_k _ _ _)
theorem ljudge_j1_k (s:LedS) (x:Nt):LK s (ljudge_j1 s x):=by
 unfold ljudge_j1
 exact bifG (((lwrite_k s 1 x.index x.vf).trk (kNote_k _ _ _ _).1 (kNote_k _ _ _ _).2 |>.rep (rpAsk_l _ _)).trans (lcame_k _ _ _ _)) ((lwrite_k _ _ _ _).trk (kNote_k _ _ _ _).1 (kNote_k _ _ _ _).2)
theorem ljudge_j2_k (s:LedS) (x:Nt):LK s (ljudge_j2 s x):=by
 unfold ljudge_j2
 exact bifG (((ljudge_j1_k s x).rep (rpAsk_l _ _)).trans (lcame_k _ _ _ _)) (ljudge_j1_k s x)
theorem ljudge_j3_k (s:LedS) (x:Nt):LK s (ljudge_j3 s x):=by
 unfold ljudge_j3
 exact bifG (((lwrite_k s 2 x.index 0).trk (kNote_k _ _ _ _).1 (kNote_k _ _ _ _).2 |>.rep (rpAsk_l _ _)).trans (lcame_k _ _ _ _)) ((lwrite_k _ _ _ _).trk (kNote_k _ _ _ _).1 (kNote_k _ _ _ _).2)
theorem ljudge_j4_k (s:LedS) (x:Nt):LK s (ljudge_j4 s x):=by
 unfold ljudge_j4
 exact bifG (((ljudge_j3_k s x).rep (rpAsk_l _ _)).trans (lcame_k _ _ _ _)) (ljudge_j3_k s x)
theorem ljudge_k (s:LedS) (x:Nt):LK s (ljudge_s s x):=by
 unfold ljudge_s
 exact bifG (.refl s) (bifG (ljudge_j2_k s x) (bifG (lwrite_k _ _ _ _) (ljudge_j4_k s x)))
theorem rkT_k (r:Rls) (l:List Bk) (i:Nat):(rkT r l i).length=l.length:=by
 first | exact rkT_len r l i | exact rkT_len _ _ _ | (induction i with | zero=>rfl | succ i ih=>rw [rkT,List.length_set]; exact ih)
theorem lapply_k (s:LedS) (x:Nt):LK s (lapply_s s x):=by
 unfold lapply_s
 exact bifG (ljudge_k s x) (bifG ⟨rfl,rfl,rkT_k _ _ _,rfl,rfl⟩ (bifG (((LK.refl s).rep (rpStep_l _)).trans (lcame_k _ _ _ _)) (bifG ⟨rfl,rfl,rfl,rfl,rfl⟩ (.refl s))))
theorem fold_k:∀ (y:List Nt) (s:LedS),LK s (y.foldl lapply_s s)
 | [],s=>.refl s
 | x :: y,s=>(lapply_k s x).trans (fold_k y _)
def CG (s t:CtlS):Prop:=∃ y,t.notes=s.notes ++ y∧t.le=y.foldl lapply_s s.le
theorem CG.refl (s:CtlS):CG s s:=⟨[],(List.append_nil _).symm,rfl⟩
theorem CG.same {s t:CtlS} (h1:t.notes=s.notes) (h2:t.le=s.le):CG s t:=⟨[],by rw [h1,List.append_nil],h2⟩
theorem CG.trans {a b c:CtlS} (h:CG a b) (k:CG b c):CG a c:=by
 obtain ⟨x,h1,h2⟩:=h
 obtain ⟨y,k1,k2⟩:=k
 exact ⟨x ++ y,by rw [k1,h1,List.append_assoc],by rw [k2,h2,List.foldl_append]⟩
theorem cput_g (s:CtlS) (i:Int) (l:Nat->Nat) (b:Bool):CG s (cput_s s i l b):=by
 unfold cput_s
 exact bifG (.same rfl rfl) (.same rfl rfl)
theorem cnote_g (s:CtlS) (x:Nt):CG s (cnote_s s x):=⟨[x],rfl,rfl⟩
theorem ctake_g (s:CtlS) (i h r:Int):CG s (ctake_s s i h r):=⟨[_],rfl,rfl⟩
theorem cread_g (s:CtlS) (i:Int) (b:Bool):CG s (cread_s s i b):=by
 unfold cread_s
 exact bifG (bifG (bifG ((ctake_g _ _ _ _).trans (cput_g _ _ _ _)) (ctake_g _ _ _ _)) (ctake_g _ _ _ _)) (.refl _)
theorem cMasked_g (s:CtlS) (i:Int) (l:List Nat) (m:Nat):CG s (cMasked_s s i l m):=by
 unfold cMasked_s
 exact bifG (bifG (.refl _) (bifG (cput_g _ _ _ _) (bifG ((ctake_g _ _ _ _).trans (cput_g _ _ _ _)) ((ctake_g _ _ _ _).trans (cput_g _ _ _ _))))) (.refl _)
theorem cWrite_g (s:CtlS) (i:Int) (l:List Nat):CG s (cWrite_s s i l):=cMasked_g _ _ _ _
theorem cScrub_g (s:CtlS):CG s (cScrub_s s):=by
 have h:=cread_g { s with cur:=(IntKind.i64.wrap (s.cur + 1)).tmod (IntKind.i64.wrap ((lySeen_v0 s.le.c.ly) * s.le.c.ly.g.cols)) } s.cur true
 exact h
theorem ccopy_g (s:CtlS):CG s (ccopy_j1 s):=by
 unfold ccopy_j1
 exact bifG ((ctake_g _ _ _ _).trans (cput_g _ _ _ _)) (cput_g _ _ _ _)
theorem cCopy_g (s:CtlS):CG s (cCopy_s s):=by
 unfold cCopy_s
 exact bifG ((ccopy_g s).trans (cnote_g _ _)) (.refl _)
theorem cTick_g (s:CtlS):CG s (cTick_s s):=by
 unfold cTick_s
 exact bifG (.refl _) (cnote_g _ _)
theorem mInject_g (s:MchS) (f:Flt):CG s.c (mInject_s s f).c:=by
 unfold mInject_s
 exact bifG (p:=fun t:MchS=>CG s.c t.c) (.same rfl rfl) (.same rfl rfl)
theorem mRequest_g (s:MchS) (x:Stp):CG s.c (mRequest_s s x).c:=by
 unfold mRequest_s
 have b:=fun {c:Bool} {x y:MchS} (h:CG s.c x.c) (k:CG s.c y.c)=>bifG (p:=fun t:MchS=>CG s.c t.c) (c:=c) h k
 exact b (b (cread_g _ _ _) (cread_g _ _ _)) (b (b (cWrite_g _ _ _) (cWrite_g _ _ _)) (b (cMasked_g _ _ _ _) (cMasked_g _ _ _ _)))
theorem mDo_g (s:MchS) (x:Stp):CG s.c (mDo_s s x).c:=by
 have hi:CG s.c (mInject_s { s with steps:=IntKind.i64.wrap (s.steps + 1) } x.f).c:=mInject_g { s with steps:=IntKind.i64.wrap (s.steps + 1) } x.f
 have hr:CG s.c (mRequest_s { s with steps:=IntKind.i64.wrap (s.steps + 1) } x).c:=mRequest_g { s with steps:=IntKind.i64.wrap (s.steps + 1) } x
 have b:=fun {c:Bool} {x y:MchS} (h:CG s.c x.c) (k:CG s.c y.c)=>bifG (p:=fun t:MchS=>CG s.c t.c) (c:=c) h k
 unfold mDo_s
 exact b (b (cScrub_g _) (b (cCopy_g _) (b (cTick_g _) (b (cnote_g _ _) (b hi hr))))) (.refl _)
theorem mrS_g (s:MchS) (l:List Stp):∀ i,CG s.c (mrS s l i).c
 | 0=>.refl _
 | i + 1=>(mrS_g s l i).trans (mDo_g _ _)
theorem cput_n (s:CtlS) (i:Int) (l:Nat->Nat) (b:Bool):(cput_s s i l b).notes=s.notes∧(cput_s s i l b).le=s.le:=by
 unfold cput_s
 exact bifG (p:=fun t:CtlS=>t.notes=s.notes∧t.le=s.le) ⟨rfl,rfl⟩ ⟨rfl,rfl⟩
theorem ctlN_n (c:Cfg):(ctlN c).notes=[]∧(ctlN c).le=copen_s c:=by
 let p:=fun (s t:CtlS)=>t.notes=s.notes∧t.le=s.le
 have tr:∀ {a b d},p a b->p b d->p a d:=fun h k=>⟨k.1.trans h.1,k.2.trans h.2⟩
 have h1:∀ s r b w k,p s (nwC s r b w k):=fun s r b w k=>by induction k with | zero=>exact ⟨rfl,rfl⟩ | succ k ih=>exact tr ih (cput_n _ _ _ _)
 have h2:∀ s r b C w,p s (nwW s r b C w):=fun s r b C w=>by induction w with | zero=>exact ⟨rfl,rfl⟩ | succ w ih=>exact tr ih (h1 _ _ _ _ _)
 have h3:∀ s r W C b,p s (nwB s r W C b):=fun s r W C b=>by induction b with | zero=>exact ⟨rfl,rfl⟩ | succ b ih=>exact tr ih (h2 _ _ _ _ _)
 have h4:∀ s B W C r,p s (nwR s B W C r):=fun s B W C r=>by induction r with | zero=>exact ⟨rfl,rfl⟩ | succ r ih=>exact tr ih (h3 _ _ _ _ _)
 exact h4 _ _ _ _ _
theorem mrS_fold (c:Cfg) (l:List Stp) (i:Nat):(mrS (mNewM_s c) l i).c.le=(mrS (mNewM_s c) l i).c.notes.foldl lapply_s (copen_s c):=by
 obtain ⟨y,h1,h2⟩:=mrS_g (mNewM_s c) l i
 have e1:(mNewM_s c).c.notes=[]:=(ctlN_n c).1
 have e2:(mNewM_s c).c.le=copen_s c:=(ctlN_n c).2
 rw [h1,h2,e1,e2,List.nil_append]
theorem mrS_k (c:Cfg) (l:List Stp) (i:Nat):LK (copen_s c) (mrS (mNewM_s c) l i).c.le:=by rw [mrS_fold]; exact fold_k _ _
theorem mrS_ly (c:Cfg) (l:List Stp) (i:Nat):(mrS (mNewM_s c) l i).c.le.rep.m.l=c.ly:=(mrS_k c l i).l
theorem wrapN {x:Int} (h:0<=x∧x<=1000000000):IntKind.i64.wrap x=x:=wrap_ok (by omega) (by omega)
theorem holds_of {g:Gm} (h:g.right=true) {p:Pl} (a:0<=p.rank∧p.rank < g.ranks + g.spares) (b:0<=p.bank∧p.bank < g.banks) (c:0<=p.row∧p.row < g.rows) (d:0<=p.col∧p.col < g.cols):g.holds p=true:=by
 have hg:=Gm.rt h
 unfold Gm.holds belB
 rw [wrapN (x:=g.ranks + g.spares) (by omega),h]
 simp only [Bool.and_eq_true,decide_eq_true_eq,true_and]
 exact ⟨a,b,c,d⟩
theorem holds_t {g:Gm} {p:Pl} (h:g.holds p=true):g.right=true∧(0<=p.rank∧p.rank < g.ranks + g.spares)∧(0<=p.bank∧p.bank < g.banks)∧(0<=p.row∧p.row < g.rows)∧(0<=p.col∧p.col < g.cols):=by
 unfold Gm.holds belB at h
 simp only [Bool.and_eq_true,decide_eq_true_eq] at h
 have hg:=Gm.rt h.1
 rw [wrapN (x:=g.ranks + g.spares) (by omega)] at h
 exact h
theorem ixE_0 {g:Gm} {p:Pl} (h:g.holds p=true):g.ixE p=0:=by unfold Gm.ixE; rw [h]; rfl
theorem andM:∀ (k:_root_.Fin 5) (x:_root_.Fin 1024),bits .and .i64 ((x.1:Nat):Int) (IntKind.i64.wrap ((2:Int) ^ k.1 - 1))=((x.1 % 2 ^ k.1:Nat):Int):=by decide +kernel
theorem xorM:∀ (k:_root_.Fin 5) (x y:_root_.Fin 16),x.1 < 2 ^ k.1->y.1 < 2 ^ k.1->bits .xor .i64 ((x.1:Nat):Int) ((y.1:Nat):Int)=((x.1 ^^^ y.1:Nat):Int)∧x.1 ^^^ y.1 < 2 ^ k.1:=by decide +kernel
theorem powN:∀ n:_root_.Fin 17,powB ((n.1:Nat):Int) 16=true->∃ k:_root_.Fin 5,((n.1:Nat):Int)=2 ^ k.1:=by decide +kernel
theorem pow16 {n:Int} (h:powB n 16=true):∃ k:_root_.Fin 5,n=2 ^ k.1:=by
 have hb:=powB_t h
 have h1:((n.toNat:Nat):Int)=n:=by omega
 obtain ⟨k,hk⟩:=powN ⟨n.toNat,by omega⟩ (by rw [h1]; exact h)
 exact ⟨k,by rw [← h1]; exact hk⟩
theorem mixB {n a b:Int} (hn:powB n 16=true) (ha:0<=a∧a < n) (hb:0<=b∧b < 1024):∃ x y:Nat,a=((x:Nat):Int)∧bits .xor .i64 a (bits .and .i64 b (IntKind.i64.wrap (n - 1)))=(((x ^^^ y:Nat)):Int)∧((x ^^^ y:Nat):Int) < n∧y=(b % n).toNat:=by
 obtain ⟨k,rfl⟩:=pow16 hn
 have h1:=andM k ⟨b.toNat,by omega⟩
 simp only at h1
 rw [show ((b.toNat:Nat):Int)=b by omega] at h1
 have hk:2 ^ k.1<=16:=by have:=k.2; exact Nat.le_trans (Nat.pow_le_pow_right (by decide) (show k.1<=4 by omega)) (by decide)
 have hk0:0 < 2 ^ k.1:=Nat.pos_of_ne_zero (by simp)
 have hm:b.toNat % 2 ^ k.1 < 2 ^ k.1:=Nat.mod_lt _ hk0
 have ha2:a.toNat < 2 ^ k.1:=by
  have:((2 ^ k.1:Nat):Int)=(2:Int) ^ k.1:=by simp
  omega
 have h2:=xorM k ⟨a.toNat,by omega⟩ ⟨b.toNat % 2 ^ k.1,by omega⟩ ha2 hm
 simp only at h2
 rw [show ((a.toNat:Nat):Int)=a by omega] at h2
 refine ⟨a.toNat,b.toNat % 2 ^ k.1,by omega,?_,?_,?_⟩
 ·rw [h1]; exact h2.1
 ·have:((2 ^ k.1:Nat):Int)=(2:Int) ^ k.1:=by simp
  have h3:=h2.2
  omega
 ·have h5:((2 ^ k.1:Nat):Int)=(2:Int) ^ k.1:=by simp
  have:((b.toNat % 2 ^ k.1:Nat):Int)=b % 2 ^ k.1:=by
   rw [Int.natCast_emod,h5,show ((b.toNat:Nat):Int)=b by omega]
  omega
theorem dig {n a b c:Int} (hn:0<=n∧n<=131072) (ha:1<=a) (hb:1<=b) (hc:1<=c) :
 (digits_r n a b c).getD 0 eI0=n % a∧(digits_r n a b c).getD 1 eI0=n / a % b∧(digits_r n a b c).getD 2 eI0=n / a / b % c:=by
 have q1:n.tdiv a=n / a:=Int.tdiv_eq_ediv_of_nonneg hn.1
 have n1:0<=n / a∧n / a<=n:=⟨Int.ediv_nonneg hn.1 (by omega),Int.ediv_le_self _ hn.1⟩
 have q2:(n / a).tdiv b=n / a / b:=Int.tdiv_eq_ediv_of_nonneg n1.1
 have n2:0<=n / a / b∧n / a / b<=n / a:=⟨Int.ediv_nonneg n1.1 (by omega),Int.ediv_le_self _ n1.1⟩
 have w1:IntKind.i64.wrap (n / a)=n / a:=wrapN (by omega)
 have w2:IntKind.i64.wrap (n / a / b)=n / a / b:=wrapN (by omega)
 refine ⟨?_,?_,?_⟩
 ·show n.tmod a=_
  exact Int.tmod_eq_emod_of_nonneg hn.1
 ·show (IntKind.i64.wrap (n.tdiv a)).tmod b=_
  rw [q1,w1]; exact Int.tmod_eq_emod_of_nonneg n1.1
 ·show (IntKind.i64.wrap ((IntKind.i64.wrap (n.tdiv a)).tdiv b)).tmod c=_
  rw [q1,w1,q2,w2]; exact Int.tmod_eq_emod_of_nonneg n2.1
theorem modB {n a:Int} (ha:1<=a):0<=n % a∧n % a < a:=⟨Int.emod_nonneg _ (by omega),Int.emod_lt_of_pos _ (by omega)⟩
theorem Gm.pw {g:Gm} (h:g.right=true):powB g.banks 16=true:=by
 unfold Gm.right at h
 simp only [Bool.and_eq_true,decide_eq_true_eq] at h
 exact h.2.2.2.1
theorem iPage_in {g:Gm} {w n:Int} (hi:interRight_v0 g w=true) (hg:g.right=true) (hn:0<=n∧n < gpages_v0 g):iPage_v1 g w n=0:=by
 have hr:=Gm.rt hg
 have hp:=gpages_eq hg
 have hE:∀ r b w:Int,0<=r∧r < g.ranks->0<=b∧b < g.banks->0<=w∧w < g.rows->g.ixE (⟨r,b,w,0⟩:Pl)=0:=fun r b w h1 h2 h3=>ixE_0 (holds_of hg (p:=⟨r,b,w,0⟩) ⟨h1.1,by show r < _; omega⟩ h2 h3 ⟨Int.le_refl _,by show (0:Int) < g.cols; omega⟩)
 have hX:∀ b w:Int,0<=b∧b < g.banks->0<=w∧w < g.rows->0<=bits .xor .i64 b (bits .and .i64 w (IntKind.i64.wrap (g.banks - 1)))∧bits .xor .i64 b (bits .and .i64 w (IntKind.i64.wrap (g.banks - 1))) < g.banks:=fun b w h1 h2=>by
  obtain ⟨x,y,_,e,h3,_⟩:=mixB (Gm.pw hg) h1 (b:=w) (by omega)
  rw [e]; omega
 have d1:=dig (n:=n) (a:=g.rows) (b:=g.banks) (c:=g.ranks) (by omega) (by omega) (by omega) (by omega)
 have d2:=dig (n:=n) (a:=g.banks) (b:=g.rows) (c:=g.ranks) (by omega) (by omega) (by omega) (by omega)
 have d3:=dig (n:=n) (a:=g.ranks) (b:=g.banks) (c:=g.rows) (by omega) (by omega) (by omega) (by omega)
 unfold iPage_v1
 rw [hi,decide_eq_false (show ¬ n < 0 by omega),decide_eq_false (show ¬ gpages_v0 g<=n by omega),d1.1,d1.2.1,d1.2.2,d2.1,d2.2.1,d2.2.2,d3.1,d3.2.1,d3.2.2]
 simp only [cond_true,cond_false]
 exact bifG (p:=fun x:Int=>x=0) (bifG (p:=fun x:Int=>x=0) (hE _ _ _ (modB (by omega)) (hX _ _ (modB (by omega)) (modB (by omega))) (modB (by omega))) (hE _ _ _ (modB (by omega)) (modB (by omega)) (modB (by omega))))
  (bifG (p:=fun x:Int=>x=0) (bifG (p:=fun x:Int=>x=0) (hE _ _ _ (modB (by omega)) (hX _ _ (modB (by omega)) (modB (by omega))) (modB (by omega))) (hE _ _ _ (modB (by omega)) (modB (by omega)) (modB (by omega))))
  (bifG (p:=fun x:Int=>x=0) (hE _ _ _ (modB (by omega)) (hX _ _ (modB (by omega)) (modB (by omega))) (modB (by omega))) (hE _ _ _ (modB (by omega)) (modB (by omega)) (modB (by omega)))))
def LvIn (s:MapS):Prop:=∀ x ∈ s.lives,0<=x∧x < gpages_v0 s.l.g
def SpIn (s:MapS):Prop:=∀ x ∈ s.sp,x=-1 ∨ (s.l.g.ranks<=x∧x < s.l.g.ranks + s.l.g.spares)
structure MpIn (s:MapS):Prop where
 lv:LvIn s
 sp:SpIn s
def LvS (s t:MapS):Prop:=t.lives=s.lives∧t.l=s.l∧t.sp=s.sp
theorem LvS.refl (s:MapS):LvS s s:=⟨rfl,rfl,rfl⟩
theorem LvS.trans {a b c:MapS} (h:LvS a b) (k:LvS b c):LvS a c:=⟨k.1.trans h.1,k.2.1.trans h.2.1,k.2.2.trans h.2.2⟩
theorem MpIn.same {s t:MapS} (h:MpIn s) (k:LvS s t):MpIn t:=⟨by unfold LvIn; rw [k.1,k.2.1]; exact h.lv,by unfold SpIn; rw [k.2.1,k.2.2]; exact h.sp⟩
theorem retL_in {h t:Int} {l:List Int} {p:Int->Prop} (ht:p t) (hl:∀ x ∈ l,p x):∀ i,∀ x ∈ retL h t l i,p x
 | 0=>hl
 | i + 1=>by
   have ih:=retL_in (h:=h) ht hl i
   rw [retL]
   cases decide ((retL h t l i).getD i eI0=h)
   ·exact ih
   ·intro x hx
    rcases List.mem_or_eq_of_mem_set hx with hx | rfl
    ·exact ih x hx
    ·exact ht
theorem rbel_of {i n:Int} (h:0<=i∧i < n):rbel_v0 i n=true:=by
 unfold rbel_v0; rw [decide_eq_true h.1,decide_eq_true h.2]; rfl
theorem rbel_no {i n:Int} (h:i < 0 ∨ n<=i):rbel_v0 i n=false:=by
 unfold rbel_v0
 rcases h with h | h
 ·rw [decide_eq_false (show ¬ 0<=i by omega)]; rfl
 ·rw [decide_eq_false (show ¬ i < n by omega)]; cases decide (0<=i) <;> rfl
theorem cbel_t {i n:Int} (h:cbel_v0 i n=true):0<=i∧i < n:=rbel_t h
theorem cbel_of {i n:Int} (h:0<=i∧i < n):cbel_v0 i n=true:=rbel_of h
theorem mRetire_lv {s:MapS} {a t:Int} (ok:MapOk s) (h:MpIn s) (ht:0<=t∧t<=1048576):MpIn (mRetire_s s a t):=by
 have hl:=ly_rt ok.right
 unfold mRetire_s
 refine bifG (p:=MpIn) ?_ h
 cases q:rbel_v0 (IntKind.i64.wrap (t - (lySeen_v0 s.l))) s.pages with
 | false=>exact h
 | true =>
   have hb:=rbel_t q
   rw [wrap_ok (by omega) (by omega)] at hb
   have hp:=ok.pg
   have hx:LvIn { s with lives:=retL a t s.lives s.lives.length,dead:=s.dead.set a.toNat true }:=retL_in (p:=fun x=>0<=x∧x < gpages_v0 s.l.g) (show 0<=t∧t < gpages_v0 s.l.g by omega) h.lv _
   rw [cond_true]
   exact bifG (p:=MpIn) h (bifG (p:=MpIn) h (bifG (p:=MpIn) h ⟨hx,h.sp⟩))
theorem mReplace_lv {s:MapS} {a t:Int} (ok:MapOk s) (h:MpIn s) (ht:0<=t∧t<=1048576):MpIn (mReplace_s s a t):=by
 have hg:=Gm.rt (ly_rt ok.right).1
 unfold mReplace_s
 refine bifG (p:=MpIn) ?_ h
 cases q:rbel_v0 (IntKind.i64.wrap (t - s.l.g.ranks)) s.rks with
 | false=>exact h
 | true =>
   have hb:=rbel_t q
   rw [wrap_ok (by omega) (by omega)] at hb
   have hp:=ok.rk
   rw [cond_true]
   refine bifG (p:=MpIn) ⟨h.lv,fun x hx=>?_⟩ h
   rcases List.mem_or_eq_of_mem_set hx with hx | rfl
   ·exact h.sp x hx
   ·exact Or.inr ⟨by show s.l.g.ranks<=x; omega,by show x < s.l.g.ranks + s.l.g.spares; omega⟩
theorem rpStart_lv (s:RepS) (a:Ak):LvS s.m (rpStart_s s a).m:=by
 have h1:LvS s.m (mTakeSpare_s s.m):=by unfold mTakeSpare_s; exact bifG ⟨rfl,rfl,rfl⟩ (.refl _)
 have h2:LvS s.m (mTakePage_s s.m):=by unfold mTakePage_s; exact bifG ⟨rfl,rfl,rfl⟩ (.refl _)
 unfold rpStart_s
 exact bifG (p:=fun t:RepS=>LvS s.m t.m) (bifG (p:=fun t:RepS=>LvS s.m t.m) h1 h1) (bifG (p:=fun t:RepS=>LvS s.m t.m) h2 h2)
theorem rpAsk_lv (s:RepS) (a:Ak):LvS s.m (rpAsk_s s a).m:=by
 unfold rpAsk_s
 exact bifG (p:=fun t:RepS=>LvS s.m t.m) (.refl _) (bifG (p:=fun t:RepS=>LvS s.m t.m) (rpStart_lv _ _) (.refl _))
theorem finR_lv (x:RepS × List Ev):LvS x.1.m (finR x).1.m:=by
 unfold finR
 exact bifG (p:=fun t:RepS=>LvS x.1.m t.m) (.refl _) (rpStart_lv _ _)
theorem fin1_lv {s:RepS} (ok:RepOk s) (h:MpIn s.m):MpIn (fin1 s).m:=by
 unfold fin1
 exact bifG (p:=fun t:RepS=>MpIn t.m) (mRetire_lv ok.m h ok.g) (mReplace_lv ok.m h ok.g)
theorem finX_lv (s:RepS):∀ i,LvS (fin1 s).m (finX s i).1.m
 | 0=>.refl _
 | i + 1=>(finX_lv s i).trans (finR_lv _)
theorem rpFinish_lv {s:RepS} (ok:RepOk s) (h:MpIn s.m):MpIn (rpFinish_s s).m:=by
 have h1:=fin1_lv ok h
 unfold rpFinish_s
 exact bifG (p:=fun t:RepS=>MpIn t.m) (h1.same (finX_lv s _)) (h1.same (finX_lv s _))
theorem rpStep_lv {s:RepS} (ok:RepOk s) (h:MpIn s.m):MpIn (rpStep_s s).m:=by
 unfold rpStep_s
 exact bifG (p:=fun t:RepS=>MpIn t.m) h (bifG (p:=fun t:RepS=>MpIn t.m) (rpFinish_lv (s:={ s with j:={ s.j with next:=IntKind.i64.wrap (s.j.next + 1) } }) ⟨ok.m,ok.q,ok.g⟩ h) h)
theorem levent_rep (s:LedS) (k:Int) (v:Ev):(levent_s s k v).rep=s.rep:=by
 unfold levent_s
 exact bifG (p:=fun t:LedS=>t.rep=s.rep) (bifG (p:=fun t:LedS=>t.rep=s.rep) rfl rfl) rfl
theorem lcame_rep (s:LedS) (k:Int) (l:List Ev):∀ i,(lcame s k l i).rep=s.rep
 | 0=>rfl
 | i + 1=>(levent_rep _ _ _).trans (lcame_rep s k l i)
theorem ljudge_lv (s:LedS) (x:Nt):LvS s.rep.m (ljudge_s s x).rep.m:=by
 let p:=fun t:LedS=>LvS s.rep.m t.rep.m
 have hc:∀ (t:LedS) (k:Int) (l:List Ev) (i:Nat),p t->p (lcame t k l i):=fun t k l i h=>by show LvS _ _; rw [lcame_rep]; exact h
 have j1:p (ljudge_j1 s x):=by unfold ljudge_j1; exact bifG (p:=p) (hc _ _ _ _ (rpAsk_lv _ _)) (LvS.refl _)
 have j2:p (ljudge_j2 s x):=by unfold ljudge_j2; exact bifG (p:=p) (hc _ _ _ _ (LvS.trans j1 (rpAsk_lv _ _))) j1
 have j3:p (ljudge_j3 s x):=by unfold ljudge_j3; exact bifG (p:=p) (hc _ _ _ _ (rpAsk_lv _ _)) (LvS.refl _)
 have j4:p (ljudge_j4 s x):=by unfold ljudge_j4; exact bifG (p:=p) (hc _ _ _ _ (LvS.trans j3 (rpAsk_lv _ _))) j3
 unfold ljudge_s
 exact bifG (p:=p) (LvS.refl _) (bifG (p:=p) j2 (bifG (p:=p) (LvS.refl _) j4))
theorem lapply_lv {s:LedS} {x:Nt} (ok:LedOk s) (h:MpIn s.rep.m):MpIn (lapply_s s x).rep.m:=by
 let p:=fun t:LedS=>MpIn t.rep.m
 unfold lapply_s
 refine bifG (p:=p) (h.same (ljudge_lv s x)) (bifG (p:=p) h (bifG (p:=p) ?_ (bifG (p:=p) h h)))
 show MpIn (lcame _ _ _ _).rep.m
 rw [lcame_rep]
 exact rpStep_lv ok.rep h
def LIn (s:LedS):Prop:=LedOk s∧MpIn s.rep.m
theorem fold_in:∀ (y:List Nt) {s:LedS},LIn s->LIn (y.foldl lapply_s s)
 | [],_,h=>h
 | x :: y,_,h=>fold_in y ⟨lapply_ok h.1,lapply_lv h.1 h.2⟩
theorem liveL_in:∀ n,∀ x ∈ liveL n,0<=x∧x < ((n:Nat):Int)
 | 0,x,h=>by cases h
 | n + 1,x,h=>by
   rw [liveL] at h
   rcases List.mem_append.1 h with h | h
   ·have:=liveL_in n x h; omega
   ·rcases List.mem_singleton.1 h with rfl; omega
theorem spL_in:∀ n,∀ x ∈ spL n,x=-1
 | 0,x,h=>by cases h
 | n + 1,x,h=>by
   rw [spL] at h
   rcases List.mem_append.1 h with h | h
   ·exact spL_in n x h
   ·exact List.mem_singleton.1 h
theorem copen_in {c:Cfg} (h:cfgRight_v0 c=true):LIn (copen_s c):=by
 have hl:=ly_rt (cfg_t h).1
 refine ⟨copen_ok h,⟨fun x hx=>?_,fun x hx=>Or.inl (spL_in _ x hx)⟩⟩
 have:=liveL_in _ x hx
 show 0<=x∧x < gpages_v0 c.ly.g
 omega
theorem mrS_in {c:Cfg} (h:cfgRight_v0 c=true) (l:List Stp) (i:Nat):LIn (mrS (mNewM_s c) l i).c.le:=by rw [mrS_fold]; exact fold_in _ (copen_in h)
theorem mlies_0 {s:MapS} (ok:MapOk s) {h:Int} (hh:0<=h∧h < gpages_v0 s.l.g):mlies_v2 s h=0:=by
 have hl:=ly_rt ok.right
 unfold mlies_v2
 rw [iPage_in hl.2.1 hl.1 hh]; rfl
theorem line_b {l:Ly} (h:lyRight_v0 l=true) {n:Int} (hn:0<=n∧n < IntKind.i64.wrap ((lySeen_v0 l) * l.g.cols)):0<=n / l.g.cols∧n / l.g.cols < lySeen_v0 l∧IntKind.i64.wrap (n.tdiv l.g.cols)=n / l.g.cols∧n.tmod l.g.cols=n % l.g.cols∧n<=8388608:=by
 obtain ⟨h1,h2,h3,h4,h5,h6,h7,h8,h9,h10⟩:=ly_rt h
 rw [h7] at hn h8
 have q1:0<=n / l.g.cols:=Int.ediv_nonneg hn.1 (by omega)
 have q2:n / l.g.cols < lySeen_v0 l:=Int.ediv_lt_of_lt_mul (by omega) hn.2
 refine ⟨q1,q2,?_,Int.tmod_eq_emod_of_nonneg hn.1,by omega⟩
 rw [Int.tdiv_eq_ediv_of_nonneg hn.1]
 exact wrapN (by omega)
theorem mIndex_0 {s:MapS} (ok:MapOk s) (lv:LvIn s) {n:Int} (hn:0<=n∧n < IntKind.i64.wrap ((lySeen_v0 s.l) * s.l.g.cols)):mIndex_v3 s n=0:=by
 obtain ⟨b1,b2,b3,b4,b5⟩:=line_b ok.right hn
 have hlv:0<=s.lives.getD (n / s.l.g.cols).toNat eI0∧s.lives.getD (n / s.l.g.cols).toNat eI0 < gpages_v0 s.l.g:=lv _ (gDm eI0 (by have:=ok.nl; omega))
 unfold mIndex_v3
 rw [rbel_of hn,b3,mlies_0 ok hlv]; rfl
theorem gorder_n (g:Gm) (i:Int):0<=gorder_v0 g i:=by
 unfold gorder_v0 Gm.atE Gm.at
 cases q:g.atB i with
 | false=>exact Int.le_refl _
 | true =>
   unfold Gm.atB at q
   simp only [Bool.and_eq_true] at q
   obtain ⟨h1,h2,h3,h4,h5⟩:=holds_t q.2
   have hr:=Gm.rt h1
   have m1:=mul_bd (a:=(plOf i).bank) (b:=g.rows) (A:=16) (B:=1024) (by omega) (by omega)
   have m2:=mul_bd (a:=(plOf i).bank * g.rows + (plOf i).row) (b:=g.cols) (A:=32768) (B:=64) (by omega) (by omega)
   simp only [cond_true,decide_true]
   rw [wrapN (x:=(plOf i).bank * g.rows) (by omega),wrapN (x:=(plOf i).bank * g.rows + (plOf i).row) (by omega),wrapN (x:=((plOf i).bank * g.rows + (plOf i).row) * g.cols) (by omega),wrapN (by omega)]
   omega
theorem cnt_b {j:Jb} {l:Ly} (h:l.g.right=true):0<=jbCount_v0 j l∧jbCount_v0 j l<=1048576∧perRank_v0 l.g=l.g.banks * l.g.rows * l.g.cols:=by
 have hr:=Gm.rt h
 have m1:=mul_bd (a:=l.g.banks) (b:=l.g.rows) (A:=16) (B:=1024) (by omega) (by omega)
 have m2:=mul_bd (a:=l.g.banks * l.g.rows) (b:=l.g.cols) (A:=16384) (B:=64) (by omega) (by omega)
 have e:perRank_v0 l.g=l.g.banks * l.g.rows * l.g.cols:=by
  unfold perRank_v0
  rw [h,cond_true,wrapN (x:=l.g.banks * l.g.rows) (by omega),wrapN (by omega)]
 have k:0<=jbCount_v0 j l∧jbCount_v0 j l<=1048576:=by
  unfold jbCount_v0
  exact bifG (p:=fun x:Int=>0<=x∧x<=1048576) (by omega) (bifG (p:=fun x:Int=>0<=x∧x<=1048576) (by omega) (by omega))
 exact ⟨k.1,k.2,e⟩
theorem nth_0 {g:Gm} {r i:Int} (h:g.right=true) (hr:0<=r∧r < g.ranks + g.spares) (hi:0<=i∧i < g.banks * g.rows * g.cols):nth_v1 g r i=0:=by
 have hg:=Gm.rt h
 have m1:=mul_bd (a:=g.banks) (b:=g.rows) (A:=16) (B:=1024) (by omega) (by omega)
 have m2:=mul_bd (a:=g.banks * g.rows) (b:=g.cols) (A:=16384) (B:=64) (by omega) (by omega)
 have q1:0<=i / g.cols:=Int.ediv_nonneg hi.1 (by omega)
 have q2:i / g.cols < g.banks * g.rows:=Int.ediv_lt_of_lt_mul (by omega) hi.2
 have q3:0<=i / g.cols / g.rows:=Int.ediv_nonneg q1 (by omega)
 have q4:i / g.cols / g.rows < g.banks:=Int.ediv_lt_of_lt_mul (by omega) q2
 unfold nth_v1
 rw [Int.tdiv_eq_ediv_of_nonneg hi.1,wrapN (x:=i / g.cols) (by omega),Int.tdiv_eq_ediv_of_nonneg q1,wrapN (x:=i / g.cols / g.rows) (by omega),Int.tmod_eq_emod_of_nonneg q1,Int.tmod_eq_emod_of_nonneg hi.1]
 exact ixE_0 (holds_of h (p:=⟨r,i / g.cols / g.rows,i / g.cols % g.rows,i % g.cols⟩) hr ⟨q3,q4⟩ (modB (by omega)) (modB (by omega)))
theorem jright_1 {j:Jb} {s:MapS} (h:jright_v0 j s=true) (hk:j.kind=1):cbel_v0 j.next (IntKind.i64.wrap ((jbCount_v0 j s.l) + 1))=true∧jpages_v0 j s=true:=by
 unfold jright_v0 at h
 rw [decide_eq_false (show ¬ j.kind=0 by omega),decide_eq_true hk] at h
 exact cT h
theorem jright_2 {j:Jb} {s:MapS} (h:jright_v0 j s=true) (hk:j.kind=2):cbel_v0 j.next (IntKind.i64.wrap ((jbCount_v0 j s.l) + 1))=true∧jranks_v0 j s=true:=by
 unfold jright_v0 at h
 rw [decide_eq_false (show ¬ j.kind=0 by omega),decide_eq_false (show ¬ j.kind=1 by omega),decide_eq_true hk] at h
 exact cT h
theorem jat_0 {j:Jb} {s:MapS} {i:Int} (ok:MapOk s) (hj:jright_v0 j s=true) (hk:j.kind=1 ∨ j.kind=2) (hi:0<=i∧i < jbCount_v0 j s.l) (w:Int) (hw:(j.kind=1->0<=w∧w < gpages_v0 s.l.g)∧(j.kind=2->0<=w∧w < s.l.g.ranks + s.l.g.spares)):jat_v1 j s w i=0:=by
 have hl:=ly_rt ok.right
 unfold jat_v1
 rw [hj,cbel_of hi]
 rcases hk with hk | hk
 ·rw [decide_eq_false (show ¬ j.kind=2 by omega),mlies_0 ok (hw.1 hk)]; rfl
 ·have hc:=(cnt_b (j:=j) hl.1).2.2
  have e:jbCount_v0 j s.l=perRank_v0 s.l.g:=by unfold jbCount_v0; rw [decide_eq_false (show ¬ j.kind=1 by omega),decide_eq_true hk]; rfl
  rw [decide_eq_true hk]
  exact nth_0 hl.1 (hw.2 hk) (by omega)
theorem goal_b {j:Jb} {s:MapS} (ok:MapOk s) (hj:jright_v0 j s=true) (hg:0<=j.goal∧j.goal<=1048576):(j.kind=1->0<=j.goal∧j.goal < gpages_v0 s.l.g)∧(j.kind=2->0<=j.goal∧j.goal < s.l.g.ranks + s.l.g.spares):=by
 have hr:=Gm.rt (ly_rt ok.right).1
 constructor
 ·intro hk
  have h:=(jright_1 hj hk).2
  unfold jpages_v0 at h
  exact cbel_t (cT (cT h).2).1
 ·intro hk
  have h:=(jright_2 hj hk).2
  unfold jranks_v0 at h
  have h:=(cT h).2
  cases q:mSpare_v1 s j.src with
  | true=>rw [q] at h; cases h
  | false =>
    rw [q] at h
    have h:=cbel_t h
    rw [wrap_ok (by omega) (by omega)] at h
    omega
theorem jroute_0 {j : Jb} {s : MapS} (ok : MapOk s) (lv : LvIn s) (hg : 0 <= j.goal ∧ j.goal <= 1048576) {n : Int} (hn : 0 <= n ∧ n < IntKind.i64.wrap ((lySeen_v0 s.l) * s.l.g.cols)) : jroute_v1 j s n = 0 := by
 have hl:=ly_rt ok.right
 have h0:=mIndex_0 ok lv hn
 have hc:=cnt_b (j:=j) hl.1
 unfold jroute_v1
 rw [h0]
 rw [show decide ((0:Int)=0)=true from rfl,cond_true]
 cases hj:jright_v0 j s with
 | false=>rfl
 | true =>
   have hb:=goal_b ok hj hg
   have k2 : (bif decide (j.kind = 2) then (bif decide ((mIndex_v2 s n) = j.src) then (bif decide ((gorder_v0 s.l.g (mIndex_v0 s n)) < j.next) then (jat_v1 j s j.goal (gorder_v0 s.l.g (mIndex_v0 s n))) else 0) else 0) else 0) = (0 : Int) := by
    cases q2:decide (j.kind=2) with
    | false=>rfl
    | true =>
      have q2:=of_decide_eq_true q2
      cases decide ((mIndex_v2 s n)=j.src) with
      | false=>rfl
      | true =>
        cases q4:decide ((gorder_v0 s.l.g (mIndex_v0 s n)) < j.next) with
        | false=>rfl
        | true =>
          have q4:=of_decide_eq_true q4
          have hx:=cbel_t (jright_2 hj q2).1
          rw [wrapN (by omega)] at hx
          have:=gorder_n s.l.g (mIndex_v0 s n)
          exact jat_0 ok hj (Or.inr q2) ⟨this,by omega⟩ _ hb
   simp only [cond_true]
   cases q1:decide (j.kind=1) with
   | false=>exact k2
   | true =>
     have q1:=of_decide_eq_true q1
     simp only [cond_true]
     refine bifG (p:=fun x:Int=>x=0) ?_ k2
     cases q4:decide (n.tmod s.l.g.cols < j.next) with
     | false=>rfl
     | true =>
       have q4:=of_decide_eq_true q4
       have hx:=cbel_t (jright_1 hj q1).1
       rw [wrapN (by omega)] at hx
       have hm:0<=n.tmod s.l.g.cols:=Int.tmod_nonneg _ hn.1
       exact jat_0 ok hj (Or.inl q1) ⟨hm,by omega⟩ _ hb
theorem cat_0 {s:CtlS} (h:LIn s.le) {n:Int} (hn:0<=n∧n < IntKind.i64.wrap ((lySeen_v0 s.le.rep.m.l) * s.le.rep.m.l.g.cols)):cat_v3 s n=0:=by
 unfold cat_v3
 rw [jroute_0 h.1.rep.m h.2.lv h.1.rep.g hn]; rfl
theorem cat_30 {s:CtlS} {n:Int} (hn:n < 0 ∨ IntKind.i64.wrap ((lySeen_v0 s.le.rep.m.l) * s.le.rep.m.l.g.cols)<=n):cat_v3 s n=30:=by
 have e:jroute_v1 s.le.rep.j s.le.rep.m n=12:=by
  unfold jroute_v1 mIndex_v3
  rw [rbel_no hn]; rfl
 unfold cat_v3
 rw [e]; rfl
theorem orB {k x b:Nat} (hb:b < 2 ^ k) (h:2 ^ k * x + b < 9223372036854775808):bits .or .i64 ((2 ^ k * x:Nat):Int) ((b:Nat):Int)=((2 ^ k * x + b:Nat):Int):=by
 have e:bits .or .i64 ((2 ^ k * x:Nat):Int) ((b:Nat):Int)=IntKind.i64.wrap (((BitVec.ofInt 64 ((2 ^ k * x:Nat):Int) ||| BitVec.ofInt 64 ((b:Nat):Int)).toNat:Nat):Int):=rfl
 rw [e,BitVec.toNat_or,bvN (n:=64) (show 2 ^ k * x < 2 ^ 64 by omega),bvN (n:=64) (show b < 2 ^ 64 by omega),← Nat.two_pow_add_eq_or_of_lt hb]
 exact i64ok ⟨by omega,by omega⟩
theorem andK (n:Int) (k:Nat) (hk:k < 63):bits .and .i64 n ((2 ^ k - 1:Nat):Int)=((n % 18446744073709551616).toNat % 2 ^ k:Nat):=by
 have hp:2 ^ k<=2 ^ 62:=Nat.pow_le_pow_right (by decide) (by omega)
 have hp0:0 < 2 ^ k:=Nat.pos_of_ne_zero (by simp)
 have hm:(n % 18446744073709551616).toNat % 2 ^ k < 2 ^ k:=Nat.mod_lt _ hp0
 have e:bits .and .i64 n ((2 ^ k - 1:Nat):Int)=IntKind.i64.wrap (((BitVec.ofInt 64 n &&& BitVec.ofInt 64 ((2 ^ k - 1:Nat):Int)).toNat:Nat):Int):=rfl
 rw [e,BitVec.toNat_and,bvN (n:=64) (show 2 ^ k - 1 < 2 ^ 64 by omega),Nat.and_two_pow_sub_one_eq_mod,BitVec.toNat_ofInt]
 exact i64ok ⟨by omega,by omega⟩
theorem ix_eq {p:Pl} (a:0<=p.rank∧p.rank < 16) (b:0<=p.bank∧p.bank < 16) (c:0<=p.row∧p.row < 1024) (d:0<=p.col∧p.col < 64):p.ix=p.rank * 1048576 + p.bank * 65536 + p.row * 64 + p.col:=by
 obtain ⟨r,bk,w,co⟩:=p
 simp only at a b c d
 obtain ⟨r,rfl⟩:∃ x:Nat,r=((x:Nat):Int):=⟨r.toNat,by omega⟩
 obtain ⟨bk,rfl⟩:∃ x:Nat,bk=((x:Nat):Int):=⟨bk.toNat,by omega⟩
 obtain ⟨w,rfl⟩:∃ x:Nat,w=((x:Nat):Int):=⟨w.toNat,by omega⟩
 obtain ⟨co,rfl⟩:∃ x:Nat,co=((x:Nat):Int):=⟨co.toNat,by omega⟩
 unfold Pl.ix
 simp only
 rw [wrapN (x:=((r:Nat):Int) * 2 ^ 20) (by omega),wrapN (x:=((bk:Nat):Int) * 2 ^ 16) (by omega),wrapN (x:=((w:Nat):Int) * 2 ^ 6) (by omega)]
 rw [show ((r:Nat):Int) * 2 ^ 20=((2 ^ 20 * r:Nat):Int) by omega,show ((bk:Nat):Int) * 2 ^ 16=((2 ^ 16 * bk:Nat):Int) by omega,show ((w:Nat):Int) * 2 ^ 6=((2 ^ 6 * w:Nat):Int) by omega]
 rw [orB (k:=20) (x:=r) (b:=2 ^ 16 * bk) (by omega) (by omega)]
 rw [show 2 ^ 20 * r + 2 ^ 16 * bk=2 ^ 16 * (16 * r + bk) by omega,orB (k:=16) (b:=2 ^ 6 * w) (by omega) (by omega)]
 rw [show 2 ^ 16 * (16 * r + bk) + 2 ^ 6 * w=2 ^ 6 * (1024 * (16 * r + bk) + w) by omega,orB (k:=6) (by omega) (by omega)]
 omega
theorem plOf_eq {i:Int} (h:0<=i∧i < 16777216):plOf i=⟨i / 1048576,i / 65536 % 16,i / 64 % 1024,i % 64⟩:=by
 have a1:=andK (i / 65536) 4 (by decide)
 have a2:=andK (i / 64) 10 (by decide)
 have a3:=andK i 6 (by decide)
 unfold plOf
 rw [Int.fdiv_eq_ediv_of_nonneg _ (by decide),Int.fdiv_eq_ediv_of_nonneg _ (by decide),Int.fdiv_eq_ediv_of_nonneg _ (by decide)]
 rw [show (2:Int) ^ 20=1048576 from rfl,show (2:Int) ^ 16=65536 from rfl,show (2:Int) ^ 6=64 from rfl]
 rw [show bits .and .i64 (i / 65536) 15=_ from a1,show bits .and .i64 (i / 64) 1023=_ from a2,show bits .and .i64 i 63=_ from a3]
 congr 1 <;> omega
theorem plOf_ix {p:Pl} (a:0<=p.rank∧p.rank < 16) (b:0<=p.bank∧p.bank < 16) (c:0<=p.row∧p.row < 1024) (d:0<=p.col∧p.col < 64):plOf p.ix=p:=by
 have e:=ix_eq a b c d
 rw [plOf_eq (by omega),e]
 obtain ⟨r,bk,w,co⟩:=p
 simp only at a b c d ⊢
 congr 1 <;> omega
theorem holds_16 {g:Gm} {p:Pl} (h:g.holds p=true):(0<=p.rank∧p.rank < 16)∧(0<=p.bank∧p.bank < 16)∧(0<=p.row∧p.row < 1024)∧(0<=p.col∧p.col < 64):=by
 obtain ⟨h0,h1,h2,h3,h4⟩:=holds_t h
 have hg:=Gm.rt h0
 omega
theorem atB_ix {g:Gm} {p:Pl} (h:g.holds p=true):g.atB p.ix=true:=by
 obtain ⟨a,b,c,d⟩:=holds_16 h
 unfold Gm.atB
 rw [plOf_ix a b c d,h,ix_eq a b c d,decide_eq_false (by omega)]; rfl
theorem ix_inj {g:Gm} {p q:Pl} (hp:g.holds p=true) (hq:g.holds q=true) (h:p.ix=q.ix):p=q:=by
 obtain ⟨a,b,c,d⟩:=holds_16 hp
 obtain ⟨a',b',c',d'⟩:=holds_16 hq
 rw [← plOf_ix a b c d,h,plOf_ix a' b' c' d']
def pgPl (g:Gm) (w n:Int):Pl :=
 bif decide (w=0) then ⟨n / g.rows / g.banks % g.ranks,n / g.rows % g.banks,n % g.rows,0⟩
 else (bif decide (w=1) then ⟨n / g.banks / g.rows % g.ranks,n % g.banks,n / g.banks % g.rows,0⟩
 else (bif decide (w=3) then ⟨n % g.ranks,bits .xor .i64 (n / g.ranks % g.banks) (bits .and .i64 (n / g.ranks / g.banks % g.rows) (IntKind.i64.wrap (g.banks - 1))),n / g.ranks / g.banks % g.rows,0⟩
 else ⟨n % g.ranks,n / g.ranks % g.banks,n / g.ranks / g.banks % g.rows,0⟩))
theorem mixR {g:Gm} (hg:g.right=true) {b w:Int} (h1:0<=b∧b < g.banks) (h2:0<=w∧w < g.rows):0<=bits .xor .i64 b (bits .and .i64 w (IntKind.i64.wrap (g.banks - 1)))∧bits .xor .i64 b (bits .and .i64 w (IntKind.i64.wrap (g.banks - 1))) < g.banks:=by
 have hr:=Gm.rt hg
 obtain ⟨x,y,_,e,h3,_⟩:=mixB (Gm.pw hg) h1 (b:=w) (by omega)
 rw [e]; omega
theorem pg_in {g:Gm} (hg:g.right=true) (w n:Int):(0<=(pgPl g w n).rank∧(pgPl g w n).rank < g.ranks)∧(0<=(pgPl g w n).bank∧(pgPl g w n).bank < g.banks)∧(0<=(pgPl g w n).row∧(pgPl g w n).row < g.rows)∧(pgPl g w n).col=0:=by
 have hr:=Gm.rt hg
 let p:=fun x:Pl=>(0<=x.rank∧x.rank < g.ranks)∧(0<=x.bank∧x.bank < g.banks)∧(0<=x.row∧x.row < g.rows)∧x.col=0
 unfold pgPl
 exact bifG (p:=p) ⟨modB (by omega),modB (by omega),modB (by omega),rfl⟩ (bifG (p:=p) ⟨modB (by omega),modB (by omega),modB (by omega),rfl⟩ (bifG (p:=p) ⟨modB (by omega),mixR hg (modB (by omega)) (modB (by omega)),modB (by omega),rfl⟩ ⟨modB (by omega),modB (by omega),modB (by omega),rfl⟩))
theorem iPage_eq {g:Gm} {w n:Int} (hi:interRight_v0 g w=true) (hg:g.right=true) (hn:0<=n∧n < gpages_v0 g):iPage_v0 g w n=(pgPl g w n).rank * 16384 + (pgPl g w n).bank * 1024 + (pgPl g w n).row:=by
 have hr:=Gm.rt hg
 have hp:=gpages_eq hg
 have hq:=pg_in hg w n
 have d1:=dig (n:=n) (a:=g.rows) (b:=g.banks) (c:=g.ranks) (by omega) (by omega) (by omega) (by omega)
 have d2:=dig (n:=n) (a:=g.banks) (b:=g.rows) (c:=g.ranks) (by omega) (by omega) (by omega) (by omega)
 have d3:=dig (n:=n) (a:=g.ranks) (b:=g.banks) (c:=g.rows) (by omega) (by omega) (by omega) (by omega)
 have e:iPage_v0 g w n=(g.ix (pgPl g w n)).fdiv (2 ^ 6):=by
  unfold iPage_v0 pgPl
  rw [hi,decide_eq_false (show ¬ n < 0 by omega),decide_eq_false (show ¬ gpages_v0 g<=n by omega),d1.1,d1.2.1,d1.2.2,d2.1,d2.2.1,d2.2.2,d3.1,d3.2.1,d3.2.2]
  simp only [cond_true,cond_false]
  cases h0:decide (w=0) with
  | true=>rw [decide_eq_false (show ¬ w=3 by have:=of_decide_eq_true h0; omega)]; rfl
  | false =>
    simp only [cond_false]
    cases h1:decide (w=1) with
    | true=>rw [decide_eq_false (show ¬ w=3 by have:=of_decide_eq_true h1; omega)]; rfl
    | false=>cases decide (w=3) <;> rfl
 have hh:g.holds (pgPl g w n)=true:=holds_of hg ⟨hq.1.1,by omega⟩ hq.2.1 hq.2.2.1 (by omega)
 obtain ⟨a,b,c,d⟩:=holds_16 hh
 rw [e]
 unfold Gm.ix
 rw [hh,cond_true,ix_eq a b c d,Int.fdiv_eq_ediv_of_nonneg _ (by decide),show (2:Int) ^ 6=64 from rfl]
 omega
def spOf (s:MapS) (r:Int):Int:=bif mSpare_v1 s r then mSpare_v0 s r else r
theorem spOf_in {s:MapS} (ok:MapOk s) (sp:SpIn s) {r:Int} (h:0<=r∧r < s.l.g.ranks):0<=spOf s r∧spOf s r < s.l.g.ranks + s.l.g.spares:=by
 have hg:=Gm.rt (ly_rt ok.right).1
 have hns:=ok.ns
 have hm:s.sp.getD r.toNat eI0 ∈ s.sp:=gDm eI0 (by omega)
 unfold spOf mSpare_v1 mSpare_v0
 rw [rbel_of (show 0<=r∧r < ((s.sp.length:Nat):Int) by omega)]
 simp only [cond_true]
 rcases sp _ hm with h1 | h1
 ·rw [decide_eq_true h1]; exact ⟨h.1,by show r < _; omega⟩
 ·rw [decide_eq_false (show ¬ s.sp.getD r.toNat eI0=-1 by omega)]
  simp only [cond_false,cond_true]
  omega
theorem mlies_eq {s:MapS} (ok:MapOk s) (sp:SpIn s) {h:Int} (hh:0<=h∧h < gpages_v0 s.l.g):mlies_v0 s h=spOf s (pgPl s.l.g s.l.way h).rank * 16384 + (pgPl s.l.g s.l.way h).bank * 1024 + (pgPl s.l.g s.l.way h).row∧mlies_v1 s h=(pgPl s.l.g s.l.way h).rank:=by
 have hl:=ly_rt ok.right
 have hg:=Gm.rt hl.1
 have hq:=pg_in hl.1 s.l.way h
 have e:=iPage_eq hl.2.1 hl.1 hh
 have er:(iPage_v0 s.l.g s.l.way h).fdiv (2 ^ 14)=(pgPl s.l.g s.l.way h).rank:=by
  rw [e,Int.fdiv_eq_ediv_of_nonneg _ (by decide),show (2:Int) ^ 14=16384 from rfl]; omega
 have hs:=spOf_in ok sp hq.1
 unfold mlies_v0 mlies_v1
 rw [iPage_in hl.2.1 hl.1 hh,er]
 refine ⟨?_,rfl⟩
 unfold spOf at hs ⊢
 rw [show decide ((0:Int)=0)=true from rfl]
 cases q:mSpare_v1 s (pgPl s.l.g s.l.way h).rank with
 | false=>simp only [cond_true,cond_false]; exact e
 | true =>
   rw [q] at hs
   simp only [cond_true] at hs ⊢
   rw [e,wrap_ok (x:=mSpare_v0 s (pgPl s.l.g s.l.way h).rank - (pgPl s.l.g s.l.way h).rank) (by omega) (by omega),show (2:Int) ^ 14=16384 from rfl,wrap_ok (x:=(mSpare_v0 s (pgPl s.l.g s.l.way h).rank - (pgPl s.l.g s.l.way h).rank) * 16384) (by omega) (by omega),wrapN (by omega)]
   omega
def lnPl (s:MapS) (h k:Int):Pl:=⟨spOf s (pgPl s.l.g s.l.way h).rank,(pgPl s.l.g s.l.way h).bank,(pgPl s.l.g s.l.way h).row,k⟩
theorem lnPl_in {s:MapS} (ok:MapOk s) (sp:SpIn s) {h k:Int} (hh:0<=h∧h < gpages_v0 s.l.g) (hk:0<=k∧k < s.l.g.cols):s.l.g.holds (lnPl s h k)=true:=by
 have hl:=ly_rt ok.right
 have hq:=pg_in hl.1 s.l.way h
 exact holds_of hl.1 (spOf_in ok sp hq.1) hq.2.1 hq.2.2.1 hk
theorem lies_ix {s:MapS} (ok:MapOk s) (sp:SpIn s) {h k:Int} (hh:0<=h∧h < gpages_v0 s.l.g) (hk:0<=k∧k < s.l.g.cols):bits .or .i64 (IntKind.i64.wrap (mlies_v0 s h * 2 ^ 6)) k=(lnPl s h k).ix:=by
 have hl:=ly_rt ok.right
 have hg:=Gm.rt hl.1
 have hq:=pg_in hl.1 s.l.way h
 have hs:=spOf_in ok sp hq.1
 obtain ⟨a,b,c,d⟩:=holds_16 (lnPl_in ok sp hh hk)
 rw [ix_eq a b c d,(mlies_eq ok sp hh).1]
 show _=spOf s (pgPl s.l.g s.l.way h).rank * 1048576 + (pgPl s.l.g s.l.way h).bank * 65536 + (pgPl s.l.g s.l.way h).row * 64 + k
 generalize spOf s (pgPl s.l.g s.l.way h).rank=r at hs ⊢
 generalize (pgPl s.l.g s.l.way h).bank=b at hq ⊢
 generalize (pgPl s.l.g s.l.way h).row=w at hq ⊢
 rw [show (2:Int) ^ 6=64 from rfl,wrapN (by omega)]
 have h1:=orB (k:=6) (x:=(r * 16384 + b * 1024 + w).toNat) (b:=k.toNat) (by omega) (by omega)
 rw [show (((2 ^ 6 * (r * 16384 + b * 1024 + w).toNat:Nat)):Int)=(r * 16384 + b * 1024 + w) * 64 by omega,show ((k.toNat:Nat):Int)=k by omega] at h1
 rw [h1]; omega
theorem mIndex_eq {s:MapS} (ok:MapOk s) (lv:LvIn s) (sp:SpIn s) {n:Int} (hn:0<=n∧n < IntKind.i64.wrap ((lySeen_v0 s.l) * s.l.g.cols)) :
    mIndex_v0 s n=(lnPl s (s.lives.getD (n / s.l.g.cols).toNat eI0) (n % s.l.g.cols)).ix∧s.l.g.holds (lnPl s (s.lives.getD (n / s.l.g.cols).toNat eI0) (n % s.l.g.cols))=true ∧
    mIndex_v1 s n=s.lives.getD (n / s.l.g.cols).toNat eI0∧mIndex_v2 s n=(pgPl s.l.g s.l.way (s.lives.getD (n / s.l.g.cols).toNat eI0)).rank:=by
 have hl:=ly_rt ok.right
 have hg:=Gm.rt hl.1
 obtain ⟨b1,b2,b3,b4,b5⟩:=line_b ok.right hn
 have hlv:0<=s.lives.getD (n / s.l.g.cols).toNat eI0∧s.lives.getD (n / s.l.g.cols).toNat eI0 < gpages_v0 s.l.g:=lv _ (gDm eI0 (by have:=ok.nl; omega))
 have hk:0<=n % s.l.g.cols∧n % s.l.g.cols < s.l.g.cols:=modB (by omega)
 unfold mIndex_v0 mIndex_v1 mIndex_v2
 rw [rbel_of hn,b3,b4,mlies_0 ok hlv,(mlies_eq ok sp hlv).2]
 exact ⟨lies_ix ok sp hlv hk,lnPl_in ok sp hlv hk,rfl,rfl⟩
theorem atE_0 {g:Gm} {i:Int} (h:g.atB i=true):g.atE i=0:=by unfold Gm.atE; rw [h]; rfl
theorem jroute_at {j : Jb} {s : MapS} (ok : MapOk s) (mp : MpIn s) (hg : 0 <= j.goal ∧ j.goal <= 1048576) {n : Int} (hn : 0 <= n ∧ n < IntKind.i64.wrap ((lySeen_v0 s.l) * s.l.g.cols)) : s.l.g.atB (jroute_v0 j s n) = true := by
 have hl:=ly_rt ok.right
 have hr:=Gm.rt hl.1
 have h0:=mIndex_0 ok mp.lv hn
 obtain ⟨e0,e1,_,_⟩:=mIndex_eq ok mp.lv mp.sp hn
 have hi:s.l.g.atB (mIndex_v0 s n)=true:=by rw [e0]; exact atB_ix e1
 have hc:=cnt_b (j:=j) hl.1
 obtain ⟨b1,b2,b3,b4,b5⟩:=line_b ok.right hn
 unfold jroute_v0
 rw [h0,show decide ((0:Int)=0)=true from rfl,cond_true]
 cases hj:jright_v0 j s with
 | false=>exact hi
 | true =>
   have hb:=goal_b ok hj hg
   let p:=fun x:Int=>s.l.g.atB x=true
   have k2 : p (bif decide (j.kind = 2) then (bif decide ((mIndex_v2 s n) = j.src) then (bif decide ((gorder_v0 s.l.g (mIndex_v0 s n)) < j.next) then (jat_v0 j s j.goal (gorder_v0 s.l.g (mIndex_v0 s n))) else (mIndex_v0 s n)) else (mIndex_v0 s n)) else (mIndex_v0 s n)) := by
    cases q2:decide (j.kind=2) with
    | false=>exact hi
    | true =>
      have q2:=of_decide_eq_true q2
      rw [cond_true]
      refine bifG (p:=p) ?_ hi
      cases q4:decide ((gorder_v0 s.l.g (mIndex_v0 s n)) < j.next) with
      | false=>exact hi
      | true =>
        have q4:=of_decide_eq_true q4
        have hx:=cbel_t (jright_2 hj q2).1
        rw [wrapN (by omega)] at hx
        have hn0:=gorder_n s.l.g (mIndex_v0 s n)
        have ec:jbCount_v0 j s.l=perRank_v0 s.l.g:=by unfold jbCount_v0; rw [decide_eq_false (show ¬ j.kind=1 by omega),decide_eq_true q2]; rfl
        have hz:=nth_0 (r:=j.goal) (i:=gorder_v0 s.l.g (mIndex_v0 s n)) hl.1 (hb.2 q2) ⟨hn0,by omega⟩
        rw [cond_true]
        show p (jat_v0 j s j.goal (gorder_v0 s.l.g (mIndex_v0 s n)))
        unfold jat_v0
        rw [hj,cbel_of (show 0<=gorder_v0 s.l.g (mIndex_v0 s n)∧gorder_v0 s.l.g (mIndex_v0 s n) < jbCount_v0 j s.l by omega),decide_eq_true q2]
        simp only [cond_true]
        unfold nth_v1 Gm.ixE at hz
        unfold nth_v0 Gm.ix
        cases hh:s.l.g.holds (⟨j.goal,IntKind.i64.wrap ((IntKind.i64.wrap ((gorder_v0 s.l.g (mIndex_v0 s n)).tdiv s.l.g.cols)).tdiv s.l.g.rows),(IntKind.i64.wrap ((gorder_v0 s.l.g (mIndex_v0 s n)).tdiv s.l.g.cols)).tmod s.l.g.rows,(gorder_v0 s.l.g (mIndex_v0 s n)).tmod s.l.g.cols⟩:Pl) with
        | false=>rw [hh] at hz; exact absurd hz (by decide)
        | true=>exact atB_ix hh
   rw [cond_true]
   cases q1:decide (j.kind=1) with
   | false=>exact k2
   | true =>
     have q1:=of_decide_eq_true q1
     rw [cond_true]
     refine bifG (p:=p) ?_ k2
     cases q4:decide (n.tmod s.l.g.cols < j.next) with
     | false=>exact hi
     | true =>
       have q4:=of_decide_eq_true q4
       have hx:=cbel_t (jright_1 hj q1).1
       rw [wrapN (by omega)] at hx
       have hk:0<=n % s.l.g.cols∧n % s.l.g.cols < s.l.g.cols:=modB (by omega)
       rw [cond_true,b4]
       show p (jat_v0 j s j.goal (n % s.l.g.cols))
       rw [b4] at q4
       unfold jat_v0
       rw [hj,cbel_of (show 0<=n % s.l.g.cols∧n % s.l.g.cols < jbCount_v0 j s.l by omega),decide_eq_false (show ¬ j.kind=2 by omega),mlies_0 ok (hb.1 q1)]
       simp only [cond_true,cond_false,decide_true]
       rw [lies_ix ok mp.sp (hb.1 q1) hk]
       exact atB_ix (lnPl_in ok mp.sp (hb.1 q1) hk)
theorem cat_at {s:CtlS} (h:LIn s.le) {n:Int} (hn:0<=n∧n < IntKind.i64.wrap ((lySeen_v0 s.le.rep.m.l) * s.le.rep.m.l.g.cols)):s.le.rep.m.l.g.atE (cat_v0 s n)=0:=by
 refine atE_0 ?_
 unfold cat_v0
 rw [jroute_0 h.1.rep.m h.2.lv h.1.rep.g hn]
 exact jroute_at h.1.rep.m h.2 h.1.rep.g hn
theorem radix {a b r s:Int} {m:Int} (hm:1<=m) (hr:a % m=b % m) (hq:a / m=b / m):a=b:=by
 rw [← Int.emod_add_mul_ediv a m,← Int.emod_add_mul_ediv b m,hr,hq]
theorem divB {n a b:Int} (hn:0<=n) (ha:1<=a) (h:n < b * a):0<=n / a∧n / a < b:=⟨Int.ediv_nonneg hn (by omega),Int.ediv_lt_of_lt_mul (by omega) h⟩
theorem modS {n a:Int} (h:0<=n∧n < a):n % a=n:=Int.emod_eq_of_lt h.1 h.2
theorem mix_inj {n a a' b:Int} (hn:powB n 16=true) (ha:0<=a∧a < n) (ha':0<=a'∧a' < n) (hb:0<=b∧b < 1024) (h:bits .xor .i64 a (bits .and .i64 b (IntKind.i64.wrap (n - 1)))=bits .xor .i64 a' (bits .and .i64 b (IntKind.i64.wrap (n - 1)))):a=a':=by
 obtain ⟨x,y,e1,e2,_,e4⟩:=mixB hn ha hb
 obtain ⟨x',y',e1',e2',_,e4'⟩:=mixB hn ha' hb
 rw [e2,e2',e4,e4'] at h
 have h1:x ^^^ (b % n).toNat=x' ^^^ (b % n).toNat:=by omega
 have h2:x=x':=by
  have:=congrArg (fun z=>z ^^^ (b % n).toNat) h1
  simpa [Nat.xor_assoc] using this
 rw [e1,e1',h2]
theorem pgPl_inj {g:Gm} (hg:g.right=true) {w n m:Int} (hn:0<=n∧n < gpages_v0 g) (hm:0<=m∧m < gpages_v0 g) (h:pgPl g w n=pgPl g w m):n=m:=by
 have hr:=Gm.rt hg
 have hp:=(gpages_eq hg).1
 rw [hp] at hn hm
 have e1:g.ranks * g.banks * g.rows=g.ranks * g.banks * g.rows:=rfl
 have p1:∀ k:Int,0<=k∧k < g.ranks * g.banks * g.rows->(0<=k / g.rows∧k / g.rows < g.ranks * g.banks)∧(0<=k / g.rows / g.banks∧k / g.rows / g.banks < g.ranks):=fun k hk=>by
  have a:=divB hk.1 (a:=g.rows) (b:=g.ranks * g.banks) (by omega) hk.2
  exact ⟨a,divB a.1 (by omega) a.2⟩
 have p2:∀ k:Int,0<=k∧k < g.ranks * g.banks * g.rows->(0<=k / g.banks∧k / g.banks < g.ranks * g.rows)∧(0<=k / g.banks / g.rows∧k / g.banks / g.rows < g.ranks):=fun k hk=>by
  have a:=divB hk.1 (a:=g.banks) (b:=g.ranks * g.rows) (by omega) (by rw [Int.mul_right_comm]; exact hk.2)
  exact ⟨a,divB a.1 (by omega) a.2⟩
 have p3:∀ k:Int,0<=k∧k < g.ranks * g.banks * g.rows->(0<=k / g.ranks∧k / g.ranks < g.rows * g.banks)∧(0<=k / g.ranks / g.banks∧k / g.ranks / g.banks < g.rows):=fun k hk=>by
  have a:=divB hk.1 (a:=g.ranks) (b:=g.rows * g.banks) (by omega) (by rw [show g.rows * g.banks * g.ranks=g.ranks * g.banks * g.rows by rw [Int.mul_comm g.ranks g.banks,Int.mul_comm g.rows,Int.mul_assoc,Int.mul_comm g.rows,← Int.mul_assoc]]; exact hk.2)
  exact ⟨a,divB a.1 (by omega) a.2⟩
 unfold pgPl at h
 cases h0:decide (w=0) with
 | true =>
   rw [h0] at h
   simp only [cond_true,Pl.mk.injEq] at h
   rw [modS (p1 n hn).2,modS (p1 m hm).2] at h
   exact radix (r:=0) (s:=0) (by omega) h.2.2.1 (radix (r:=0) (s:=0) (by omega) h.2.1 h.1)
 | false =>
   rw [h0] at h
   simp only [cond_false] at h
   cases h1:decide (w=1) with
   | true =>
     rw [h1] at h
     simp only [cond_true,Pl.mk.injEq] at h
     rw [modS (p2 n hn).2,modS (p2 m hm).2] at h
     exact radix (r:=0) (s:=0) (by omega) h.2.1 (radix (r:=0) (s:=0) (by omega) h.2.2.1 h.1)
   | false =>
     rw [h1] at h
     simp only [cond_false] at h
     cases h3:decide (w=3) with
     | true =>
       rw [h3] at h
       simp only [cond_true,Pl.mk.injEq] at h
       obtain ⟨k1,k2,k3,_⟩:=h
       rw [k3] at k2
       have k4:=mix_inj (Gm.pw hg) (modB (by omega)) (modB (by omega)) (by have:=modB (n:=m / g.ranks / g.banks) (a:=g.rows) (by omega); omega) k2
       rw [modS (p3 n hn).2,modS (p3 m hm).2] at k3
       exact radix (r:=0) (s:=0) (by omega) k1 (radix (r:=0) (s:=0) (by omega) k4 k3)
     | false =>
       rw [h3] at h
       simp only [cond_false,Pl.mk.injEq] at h
       rw [modS (p3 n hn).2,modS (p3 m hm).2] at h
       exact radix (r:=0) (s:=0) (by omega) h.1 (radix (r:=0) (s:=0) (by omega) h.2.1 h.2.2.1)
theorem liveL_at:∀ k i,i < k->(liveL k).getD i eI0=((i:Nat):Int)
 | 0,i,h=>absurd h (Nat.not_lt_zero _)
 | k + 1,i,h=>by
   rw [liveL,List.getD_eq_getElem?_getD,List.getElem?_append,liveL_len]
   by_cases e:i < k
   ·rw [if_pos e,← List.getD_eq_getElem?_getD]; exact liveL_at k i e
   ·rw [if_neg e,show i=k by omega,Nat.sub_self]; rfl
theorem mNew_mp {l:Ly} (h:lyRight_v0 l=true):MpIn (mNew_s l):=by
 have hl:=ly_rt h
 refine ⟨fun x hx=>?_,fun x hx=>Or.inl (spL_in _ x hx)⟩
 have:=liveL_in _ x hx
 show 0<=x∧x < gpages_v0 l.g
 omega
end Go.Proofs.YtfhiggfmkjmeiaaGreat
