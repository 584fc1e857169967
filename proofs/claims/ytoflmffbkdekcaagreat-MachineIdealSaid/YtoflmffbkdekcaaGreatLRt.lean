import Derived.Test.YtoflmffbkdekcaaGreatLGo
namespace Go.Proofs.YtoflmffbkdekcaaGreat
open Go Go.RowKit
set_option linter.unusedVariables false
set_option linter.unusedSimpArgs false
theorem wrapN {x:Int} (h:0≤x∧x≤1000000000):IntKind.i64.wrap x=x:=wrap_ok (by omega) (by omega)
theorem holds_of {g:Gm} (h:g.right=true) {p:Pl} (a:0≤p.rank∧p.rank < g.ranks + g.spares) (b:0≤p.bank∧p.bank < g.banks) (c:0≤p.row∧p.row < g.rows) (d:0≤p.col∧p.col < g.cols):g.holds p=true:=by
  have hg:=Gm.rt h
  unfold Gm.holds belB
  rw [wrapN (x:=g.ranks + g.spares) (by omega),h]
  simp only [Bool.and_eq_true,decide_eq_true_eq,true_and]
  exact ⟨a,b,c,d⟩
theorem holds_t {g:Gm} {p:Pl} (h:g.holds p=true):g.right=true∧(0≤p.rank∧p.rank < g.ranks + g.spares)∧(0≤p.bank∧p.bank < g.banks)∧(0≤p.row∧p.row < g.rows)∧(0≤p.col∧p.col < g.cols):=by
  unfold Gm.holds belB at h
  simp only [Bool.and_eq_true,decide_eq_true_eq] at h
  have hg:=Gm.rt h.1
  rw [wrapN (x:=g.ranks + g.spares) (by omega)] at h
  exact h
theorem ixE_0 {g:Gm} {p:Pl} (h:g.holds p=true):g.ixE p=0:=by unfold Gm.ixE; rw [h]; rfl
theorem andM:∀ (k:_root_.Fin 5) (x:_root_.Fin 1024),bits .and .i64 ((x.1:Nat):Int) (IntKind.i64.wrap ((2:Int) ^ k.1 - 1))=((x.1 % 2 ^ k.1:Nat):Int):=by decide +kernel
theorem xorM:∀ (k:_root_.Fin 5) (x y:_root_.Fin 16),x.1 < 2 ^ k.1→y.1 < 2 ^ k.1→bits .xor .i64 ((x.1:Nat):Int) ((y.1:Nat):Int)=((x.1 ^^^ y.1:Nat):Int)∧x.1 ^^^ y.1 < 2 ^ k.1:=by decide +kernel
theorem powN:∀ n:_root_.Fin 17,powB ((n.1:Nat):Int) 16=true→∃ k:_root_.Fin 5,((n.1:Nat):Int)=2 ^ k.1:=by decide +kernel
theorem pow16 {n:Int} (h:powB n 16=true):∃ k:_root_.Fin 5,n=2 ^ k.1:=by
  have hb:=powB_t h
  have h1:((n.toNat:Nat):Int)=n:=by omega
  obtain ⟨k,hk⟩:=powN ⟨n.toNat,by omega⟩ (by rw [h1]; exact h)
  exact ⟨k,by rw [← h1]; exact hk⟩
theorem mixB {n a b:Int} (hn:powB n 16=true) (ha:0≤a∧a < n) (hb:0≤b∧b < 1024):∃ x y:Nat,a=((x:Nat):Int)∧bits .xor .i64 a (bits .and .i64 b (IntKind.i64.wrap (n - 1)))=(((x ^^^ y:Nat)):Int)∧((x ^^^ y:Nat):Int) < n∧y=(b % n).toNat:=by
  obtain ⟨k,rfl⟩:=pow16 hn
  have h1:=andM k ⟨b.toNat,by omega⟩
  simp only at h1
  rw [show ((b.toNat:Nat):Int)=b by omega] at h1
  have hk:2 ^ k.1≤16:=by have:=k.2; exact Nat.le_trans (Nat.pow_le_pow_right (by decide) (show k.1≤4 by omega)) (by decide)
  have hk0:0 < 2 ^ k.1:=Nat.pos_of_ne_zero (by simp)
  have hm:b.toNat % 2 ^ k.1 < 2 ^ k.1:=Nat.mod_lt _ hk0
  have ha2:a.toNat < 2 ^ k.1:=by
    have:((2 ^ k.1:Nat):Int)=(2:Int) ^ k.1:=by simp
    omega
  have h2:=xorM k ⟨a.toNat,by omega⟩ ⟨b.toNat % 2 ^ k.1,by omega⟩ ha2 hm
  simp only at h2
  rw [show ((a.toNat:Nat):Int)=a by omega] at h2
  refine ⟨a.toNat,b.toNat % 2 ^ k.1,by omega,?_,?_,?_⟩
  · rw [h1]; exact h2.1
  · have:((2 ^ k.1:Nat):Int)=(2:Int) ^ k.1:=by simp
    have h3:=h2.2
    omega
  · have h5:((2 ^ k.1:Nat):Int)=(2:Int) ^ k.1:=by simp
    have:((b.toNat % 2 ^ k.1:Nat):Int)=b % 2 ^ k.1:=by
      rw [Int.natCast_emod,h5,show ((b.toNat:Nat):Int)=b by omega]
    omega
theorem dig {n a b c:Int} (hn:0≤n∧n≤131072) (ha:1≤a) (hb:1≤b) (hc:1≤c) :
    (digits_r n a b c).getD 0 eI0=n % a∧(digits_r n a b c).getD 1 eI0=n / a % b∧(digits_r n a b c).getD 2 eI0=n / a / b % c:=by
  have q1:n.tdiv a=n / a:=Int.tdiv_eq_ediv_of_nonneg hn.1
  have n1:0≤n / a∧n / a≤n:=⟨Int.ediv_nonneg hn.1 (by omega),Int.ediv_le_self _ hn.1⟩
  have q2:(n / a).tdiv b=n / a / b:=Int.tdiv_eq_ediv_of_nonneg n1.1
  have n2:0≤n / a / b∧n / a / b≤n / a:=⟨Int.ediv_nonneg n1.1 (by omega),Int.ediv_le_self _ n1.1⟩
  have w1:IntKind.i64.wrap (n / a)=n / a:=wrapN (by omega)
  have w2:IntKind.i64.wrap (n / a / b)=n / a / b:=wrapN (by omega)
  refine ⟨?_,?_,?_⟩
  · show n.tmod a=_
    exact Int.tmod_eq_emod_of_nonneg hn.1
  · show (IntKind.i64.wrap (n.tdiv a)).tmod b=_
    rw [q1,w1]; exact Int.tmod_eq_emod_of_nonneg n1.1
  · show (IntKind.i64.wrap ((IntKind.i64.wrap (n.tdiv a)).tdiv b)).tmod c=_
    rw [q1,w1,q2,w2]; exact Int.tmod_eq_emod_of_nonneg n2.1
theorem modB {n a:Int} (ha:1≤a):0≤n % a∧n % a < a:=⟨Int.emod_nonneg _ (by omega),Int.emod_lt_of_pos _ (by omega)⟩
theorem Gm.pw {g:Gm} (h:g.right=true):powB g.banks 16=true:=by
  unfold Gm.right at h
  simp only [Bool.and_eq_true,decide_eq_true_eq] at h
  exact h.2.2.2.1
theorem iPage_in {g:Gm} {w n:Int} (hi:interRight_v0 g w=true) (hg:g.right=true) (hn:0≤n∧n < gpages_v0 g):iPage_v1 g w n=0:=by
  have hr:=Gm.rt hg
  have hp:=gpages_eq hg
  have hE:∀ r b w:Int,0≤r∧r < g.ranks→0≤b∧b < g.banks→0≤w∧w < g.rows→g.ixE (⟨r,b,w,0⟩:Pl)=0:=fun r b w h1 h2 h3=>ixE_0 (holds_of hg (p:=⟨r,b,w,0⟩) ⟨h1.1,by show r < _; omega⟩ h2 h3 ⟨Int.le_refl _,by show (0:Int) < g.cols; omega⟩)
  have hX:∀ b w:Int,0≤b∧b < g.banks→0≤w∧w < g.rows→0≤bits .xor .i64 b (bits .and .i64 w (IntKind.i64.wrap (g.banks - 1)))∧bits .xor .i64 b (bits .and .i64 w (IntKind.i64.wrap (g.banks - 1))) < g.banks:=fun b w h1 h2=>by
    obtain ⟨x,y,_,e,h3,_⟩:=mixB (Gm.pw hg) h1 (b:=w) (by omega)
    rw [e]; omega
  have d1:=dig (n:=n) (a:=g.rows) (b:=g.banks) (c:=g.ranks) (by omega) (by omega) (by omega) (by omega)
  have d2:=dig (n:=n) (a:=g.banks) (b:=g.rows) (c:=g.ranks) (by omega) (by omega) (by omega) (by omega)
  have d3:=dig (n:=n) (a:=g.ranks) (b:=g.banks) (c:=g.rows) (by omega) (by omega) (by omega) (by omega)
  unfold iPage_v1
  rw [hi,decide_eq_false (show ¬ n < 0 by omega),decide_eq_false (show ¬ gpages_v0 g≤n by omega),d1.1,d1.2.1,d1.2.2,d2.1,d2.2.1,d2.2.2,d3.1,d3.2.1,d3.2.2]
  simp only [cond_true,cond_false]
  exact bifG (p:=fun x:Int=>x=0) (bifG (p:=fun x:Int=>x=0) (hE _ _ _ (modB (by omega)) (hX _ _ (modB (by omega)) (modB (by omega))) (modB (by omega))) (hE _ _ _ (modB (by omega)) (modB (by omega)) (modB (by omega))))
    (bifG (p:=fun x:Int=>x=0) (bifG (p:=fun x:Int=>x=0) (hE _ _ _ (modB (by omega)) (hX _ _ (modB (by omega)) (modB (by omega))) (modB (by omega))) (hE _ _ _ (modB (by omega)) (modB (by omega)) (modB (by omega))))
    (bifG (p:=fun x:Int=>x=0) (hE _ _ _ (modB (by omega)) (hX _ _ (modB (by omega)) (modB (by omega))) (modB (by omega))) (hE _ _ _ (modB (by omega)) (modB (by omega)) (modB (by omega)))))
def LvIn (s:MapS):Prop:=∀ x ∈ s.lives,0≤x∧x < gpages_v0 s.l.g
def SpIn (s:MapS):Prop:=∀ x ∈ s.sp,x=-1 ∨ (s.l.g.ranks≤x∧x < s.l.g.ranks + s.l.g.spares)
structure MpIn (s:MapS):Prop where
  lv:LvIn s
  sp:SpIn s
def LvS (s t:MapS):Prop:=t.lives=s.lives∧t.l=s.l∧t.sp=s.sp
theorem LvS.refl (s:MapS):LvS s s:=⟨rfl,rfl,rfl⟩
theorem LvS.trans {a b c:MapS} (h:LvS a b) (k:LvS b c):LvS a c:=⟨k.1.trans h.1,k.2.1.trans h.2.1,k.2.2.trans h.2.2⟩
theorem MpIn.same {s t:MapS} (h:MpIn s) (k:LvS s t):MpIn t:=⟨by unfold LvIn; rw [k.1,k.2.1]; exact h.lv,by unfold SpIn; rw [k.2.1,k.2.2]; exact h.sp⟩
theorem retL_in {h t:Int} {l:List Int} {p:Int→Prop} (ht:p t) (hl:∀ x ∈ l,p x):∀ i,∀ x ∈ retL h t l i,p x
  | 0=>hl
  | i + 1 => by
    have ih:=retL_in (h:=h) ht hl i
    rw [retL]
    cases decide ((retL h t l i).getD i eI0=h)
    · exact ih
    · intro x hx
      rcases List.mem_or_eq_of_mem_set hx with hx | rfl
      · exact ih x hx
      · exact ht
theorem rbel_of {i n:Int} (h:0≤i∧i < n):rbel_v0 i n=true:=by
  unfold rbel_v0; rw [decide_eq_true h.1,decide_eq_true h.2]; rfl
theorem rbel_no {i n:Int} (h:i < 0 ∨ n≤i):rbel_v0 i n=false:=by
  unfold rbel_v0
  rcases h with h | h
  · rw [decide_eq_false (show ¬ 0≤i by omega)]; rfl
  · rw [decide_eq_false (show ¬ i < n by omega)]; cases decide (0≤i) <;> rfl
theorem cbel_t {i n:Int} (h:cbel_v0 i n=true):0≤i∧i < n:=rbel_t h
theorem cbel_of {i n:Int} (h:0≤i∧i < n):cbel_v0 i n=true:=rbel_of h
theorem mRetire_lv {s:MapS} {a t:Int} (ok:MapOk s) (h:MpIn s) (ht:0≤t∧t≤1048576):MpIn (mRetire_s s a t):=by
  have hl:=ly_rt ok.right
  unfold mRetire_s
  refine bifG (p:=MpIn) ?_ h
  cases q:rbel_v0 (IntKind.i64.wrap (t - (lySeen_v0 s.l))) s.pages with
  | false=>exact h
  | true =>
    have hb:=rbel_t q
    rw [wrap_ok (by omega) (by omega)] at hb
    have hp:=ok.pg
    have hx:LvIn { s with lives:=retL a t s.lives s.lives.length,dead:=s.dead.set a.toNat true }:=retL_in (p:=fun x=>0≤x∧x < gpages_v0 s.l.g) (show 0≤t∧t < gpages_v0 s.l.g by omega) h.lv _
    rw [cond_true]
    exact bifG (p:=MpIn) h (bifG (p:=MpIn) h (bifG (p:=MpIn) h ⟨hx,h.sp⟩))
theorem mReplace_lv {s:MapS} {a t:Int} (ok:MapOk s) (h:MpIn s) (ht:0≤t∧t≤1048576):MpIn (mReplace_s s a t):=by
  have hg:=Gm.rt (ly_rt ok.right).1
  unfold mReplace_s
  refine bifG (p:=MpIn) ?_ h
  cases q:rbel_v0 (IntKind.i64.wrap (t - s.l.g.ranks)) s.rks with
  | false=>exact h
  | true =>
    have hb:=rbel_t q
    rw [wrap_ok (by omega) (by omega)] at hb
    have hp:=ok.rk
    rw [cond_true]
    refine bifG (p:=MpIn) ⟨h.lv,fun x hx=>?_⟩ h
    rcases List.mem_or_eq_of_mem_set hx with hx | rfl
    · exact h.sp x hx
    · exact Or.inr ⟨by show s.l.g.ranks≤x; omega,by show x < s.l.g.ranks + s.l.g.spares; omega⟩
theorem rpStart_lv (s:RepS) (a:Ak):LvS s.m (rpStart_s s a).m:=by
  have h1:LvS s.m (mTakeSpare_s s.m):=by unfold mTakeSpare_s; exact bifG ⟨rfl,rfl,rfl⟩ (.refl _)
  have h2:LvS s.m (mTakePage_s s.m):=by unfold mTakePage_s; exact bifG ⟨rfl,rfl,rfl⟩ (.refl _)
  unfold rpStart_s
  exact bifG (p:=fun t:RepS=>LvS s.m t.m) (bifG (p:=fun t:RepS=>LvS s.m t.m) h1 h1) (bifG (p:=fun t:RepS=>LvS s.m t.m) h2 h2)
theorem rpAsk_lv (s:RepS) (a:Ak):LvS s.m (rpAsk_s s a).m:=by
  unfold rpAsk_s
  exact bifG (p:=fun t:RepS=>LvS s.m t.m) (.refl _) (bifG (p:=fun t:RepS=>LvS s.m t.m) (rpStart_lv _ _) (.refl _))
theorem finR_lv (x:RepS × List Ev):LvS x.1.m (finR x).1.m:=by
  unfold finR
  exact bifG (p:=fun t:RepS=>LvS x.1.m t.m) (.refl _) (rpStart_lv _ _)
theorem fin1_lv {s:RepS} (ok:RepOk s) (h:MpIn s.m):MpIn (fin1 s).m:=by
  unfold fin1
  exact bifG (p:=fun t:RepS=>MpIn t.m) (mRetire_lv ok.m h ok.g) (mReplace_lv ok.m h ok.g)
theorem finX_lv (s:RepS):∀ i,LvS (fin1 s).m (finX s i).1.m
  | 0=>.refl _
  | i + 1=>(finX_lv s i).trans (finR_lv _)
theorem rpFinish_lv {s:RepS} (ok:RepOk s) (h:MpIn s.m):MpIn (rpFinish_s s).m:=by
  have h1:=fin1_lv ok h
  unfold rpFinish_s
  exact bifG (p:=fun t:RepS=>MpIn t.m) (h1.same (finX_lv s _)) (h1.same (finX_lv s _))
theorem rpStep_lv {s:RepS} (ok:RepOk s) (h:MpIn s.m):MpIn (rpStep_s s).m:=by
  unfold rpStep_s
  exact bifG (p:=fun t:RepS=>MpIn t.m) h (bifG (p:=fun t:RepS=>MpIn t.m) (rpFinish_lv (s:={ s with j:={ s.j with next:=IntKind.i64.wrap (s.j.next + 1) } }) ⟨ok.m,ok.q,ok.g⟩ h) h)
theorem levent_rep (s:LedS) (k:Int) (v:Ev):(levent_s s k v).rep=s.rep:=by
  unfold levent_s
  exact bifG (p:=fun t:LedS=>t.rep=s.rep) (bifG (p:=fun t:LedS=>t.rep=s.rep) rfl rfl) rfl
theorem lcame_rep (s:LedS) (k:Int) (l:List Ev):∀ i,(lcame s k l i).rep=s.rep
  | 0=>rfl
  | i + 1=>(levent_rep _ _ _).trans (lcame_rep s k l i)
theorem ljudge_lv (s:LedS) (x:Nt):LvS s.rep.m (ljudge_s s x).rep.m:=by
  let p:=fun t:LedS=>LvS s.rep.m t.rep.m
  have hc:∀ (t:LedS) (k:Int) (l:List Ev) (i:Nat),p t→p (lcame t k l i):=fun t k l i h=>by show LvS _ _; rw [lcame_rep]; exact h
  have j1:p (ljudge_j1 s x):=by unfold ljudge_j1; exact bifG (p:=p) (hc _ _ _ _ (rpAsk_lv _ _)) (LvS.refl _)
  have j2:p (ljudge_j2 s x):=by unfold ljudge_j2; exact bifG (p:=p) (hc _ _ _ _ (LvS.trans j1 (rpAsk_lv _ _))) j1
  have j3:p (ljudge_j3 s x):=by unfold ljudge_j3; exact bifG (p:=p) (hc _ _ _ _ (rpAsk_lv _ _)) (LvS.refl _)
  have j4:p (ljudge_j4 s x):=by unfold ljudge_j4; exact bifG (p:=p) (hc _ _ _ _ (LvS.trans j3 (rpAsk_lv _ _))) j3
  unfold ljudge_s
  exact bifG (p:=p) (LvS.refl _) (bifG (p:=p) j2 (bifG (p:=p) (LvS.refl _) j4))
theorem lapply_lv {s:LedS} {x:Nt} (ok:LedOk s) (h:MpIn s.rep.m):MpIn (lapply_s s x).rep.m:=by
  let p:=fun t:LedS=>MpIn t.rep.m
  unfold lapply_s
  refine bifG (p:=p) (h.same (ljudge_lv s x)) (bifG (p:=p) h (bifG (p:=p) ?_ (bifG (p:=p) h h)))
  show MpIn (lcame _ _ _ _).rep.m
  rw [lcame_rep]
  exact rpStep_lv ok.rep h
def LIn (s:LedS):Prop:=LedOk s∧MpIn s.rep.m
theorem fold_in:∀ (y:List Nt) {s:LedS},LIn s→LIn (y.foldl lapply_s s)
  | [],_,h=>h
  | x :: y,_,h=>fold_in y ⟨lapply_ok h.1,lapply_lv h.1 h.2⟩
theorem liveL_in:∀ n,∀ x ∈ liveL n,0≤x∧x < ((n:Nat):Int)
  | 0,x,h=>by cases h
  | n + 1,x,h=>by
    rw [liveL] at h
    rcases List.mem_append.1 h with h | h
    · have:=liveL_in n x h; omega
    · rcases List.mem_singleton.1 h with rfl; omega
theorem spL_in:∀ n,∀ x ∈ spL n,x=-1
  | 0,x,h=>by cases h
  | n + 1,x,h=>by
    rw [spL] at h
    rcases List.mem_append.1 h with h | h
    · exact spL_in n x h
    · exact List.mem_singleton.1 h
theorem copen_in {c:Cfg} (h:cfgRight_v0 c=true):LIn (copen_s c):=by
  have hl:=ly_rt (cfg_t h).1
  refine ⟨copen_ok h,⟨fun x hx=>?_,fun x hx=>Or.inl (spL_in _ x hx)⟩⟩
  have:=liveL_in _ x hx
  show 0≤x∧x < gpages_v0 c.ly.g
  omega
theorem mrS_in {c:Cfg} (h:cfgRight_v0 c=true) (l:List Stp) (i:Nat):LIn (mrS (mNewM_s c) l i).c.le:=by rw [mrS_fold]; exact fold_in _ (copen_in h)
theorem mlies_0 {s:MapS} (ok:MapOk s) {h:Int} (hh:0≤h∧h < gpages_v0 s.l.g):mlies_v2 s h=0:=by
  have hl:=ly_rt ok.right
  unfold mlies_v2
  rw [iPage_in hl.2.1 hl.1 hh]; rfl
theorem line_b {l:Ly} (h:lyRight_v0 l=true) {n:Int} (hn:0≤n∧n < IntKind.i64.wrap ((lySeen_v0 l) * l.g.cols)):0≤n / l.g.cols∧n / l.g.cols < lySeen_v0 l∧IntKind.i64.wrap (n.tdiv l.g.cols)=n / l.g.cols∧n.tmod l.g.cols=n % l.g.cols∧n≤8388608:=by
  obtain ⟨h1,h2,h3,h4,h5,h6,h7,h8,h9,h10⟩:=ly_rt h
  rw [h7] at hn h8
  have q1:0≤n / l.g.cols:=Int.ediv_nonneg hn.1 (by omega)
  have q2:n / l.g.cols < lySeen_v0 l:=Int.ediv_lt_of_lt_mul (by omega) hn.2
  refine ⟨q1,q2,?_,Int.tmod_eq_emod_of_nonneg hn.1,by omega⟩
  rw [Int.tdiv_eq_ediv_of_nonneg hn.1]
  exact wrapN (by omega)
theorem mIndex_0 {s:MapS} (ok:MapOk s) (lv:LvIn s) {n:Int} (hn:0≤n∧n < IntKind.i64.wrap ((lySeen_v0 s.l) * s.l.g.cols)):mIndex_v3 s n=0:=by
  obtain ⟨b1,b2,b3,b4,b5⟩:=line_b ok.right hn
  have hlv:0≤s.lives.getD (n / s.l.g.cols).toNat eI0∧s.lives.getD (n / s.l.g.cols).toNat eI0 < gpages_v0 s.l.g:=lv _ (gDm eI0 (by have:=ok.nl; omega))
  unfold mIndex_v3
  rw [rbel_of hn,b3,mlies_0 ok hlv]; rfl
theorem gorder_n (g:Gm) (i:Int):0≤gorder_v0 g i:=by
  unfold gorder_v0 Gm.atE Gm.at
  cases q:g.atB i with
  | false=>exact Int.le_refl _
  | true =>
    unfold Gm.atB at q
    simp only [Bool.and_eq_true] at q
    obtain ⟨h1,h2,h3,h4,h5⟩:=holds_t q.2
    have hr:=Gm.rt h1
    have m1:=mul_bd (a:=(plOf i).bank) (b:=g.rows) (A:=16) (B:=1024) (by omega) (by omega)
    have m2:=mul_bd (a:=(plOf i).bank * g.rows + (plOf i).row) (b:=g.cols) (A:=32768) (B:=64) (by omega) (by omega)
    simp only [cond_true,decide_true]
    rw [wrapN (x:=(plOf i).bank * g.rows) (by omega),wrapN (x:=(plOf i).bank * g.rows + (plOf i).row) (by omega),wrapN (x:=((plOf i).bank * g.rows + (plOf i).row) * g.cols) (by omega),wrapN (by omega)]
    omega
theorem cnt_b {j:Jb} {l:Ly} (h:l.g.right=true):0≤jbCount_v0 j l∧jbCount_v0 j l≤1048576∧perRank_v0 l.g=l.g.banks * l.g.rows * l.g.cols:=by
  have hr:=Gm.rt h
  have m1:=mul_bd (a:=l.g.banks) (b:=l.g.rows) (A:=16) (B:=1024) (by omega) (by omega)
  have m2:=mul_bd (a:=l.g.banks * l.g.rows) (b:=l.g.cols) (A:=16384) (B:=64) (by omega) (by omega)
  have e:perRank_v0 l.g=l.g.banks * l.g.rows * l.g.cols:=by
    unfold perRank_v0
    rw [h,cond_true,wrapN (x:=l.g.banks * l.g.rows) (by omega),wrapN (by omega)]
  have k:0≤jbCount_v0 j l∧jbCount_v0 j l≤1048576:=by
    unfold jbCount_v0
    exact bifG (p:=fun x:Int=>0≤x∧x≤1048576) (by omega) (bifG (p:=fun x:Int=>0≤x∧x≤1048576) (by omega) (by omega))
  exact ⟨k.1,k.2,e⟩
theorem nth_0 {g:Gm} {r i:Int} (h:g.right=true) (hr:0≤r∧r < g.ranks + g.spares) (hi:0≤i∧i < g.banks * g.rows * g.cols):nth_v1 g r i=0:=by
  have hg:=Gm.rt h
  have m1:=mul_bd (a:=g.banks) (b:=g.rows) (A:=16) (B:=1024) (by omega) (by omega)
  have m2:=mul_bd (a:=g.banks * g.rows) (b:=g.cols) (A:=16384) (B:=64) (by omega) (by omega)
  have q1:0≤i / g.cols:=Int.ediv_nonneg hi.1 (by omega)
  have q2:i / g.cols < g.banks * g.rows:=Int.ediv_lt_of_lt_mul (by omega) hi.2
  have q3:0≤i / g.cols / g.rows:=Int.ediv_nonneg q1 (by omega)
  have q4:i / g.cols / g.rows < g.banks:=Int.ediv_lt_of_lt_mul (by omega) q2
  unfold nth_v1
  rw [Int.tdiv_eq_ediv_of_nonneg hi.1,wrapN (x:=i / g.cols) (by omega),Int.tdiv_eq_ediv_of_nonneg q1,wrapN (x:=i / g.cols / g.rows) (by omega),Int.tmod_eq_emod_of_nonneg q1,Int.tmod_eq_emod_of_nonneg hi.1]
  exact ixE_0 (holds_of h (p:=⟨r,i / g.cols / g.rows,i / g.cols % g.rows,i % g.cols⟩) hr ⟨q3,q4⟩ (modB (by omega)) (modB (by omega)))
theorem jright_1 {j:Jb} {s:MapS} (h:jright_v0 j s=true) (hk:j.kind=1):cbel_v0 j.next (IntKind.i64.wrap ((jbCount_v0 j s.l) + 1))=true∧jpages_v0 j s=true:=by
  unfold jright_v0 at h
  rw [decide_eq_false (show ¬ j.kind=0 by omega),decide_eq_true hk] at h
  exact cT h
theorem jright_2 {j:Jb} {s:MapS} (h:jright_v0 j s=true) (hk:j.kind=2):cbel_v0 j.next (IntKind.i64.wrap ((jbCount_v0 j s.l) + 1))=true∧jranks_v0 j s=true:=by
  unfold jright_v0 at h
  rw [decide_eq_false (show ¬ j.kind=0 by omega),decide_eq_false (show ¬ j.kind=1 by omega),decide_eq_true hk] at h
  exact cT h
theorem jat_0 {j:Jb} {s:MapS} {i:Int} (ok:MapOk s) (hj:jright_v0 j s=true) (hk:j.kind=1 ∨ j.kind=2) (hi:0≤i∧i < jbCount_v0 j s.l) (w:Int) (hw:(j.kind=1→0≤w∧w < gpages_v0 s.l.g)∧(j.kind=2→0≤w∧w < s.l.g.ranks + s.l.g.spares)):jat_v1 j s w i=0:=by
  have hl:=ly_rt ok.right
  unfold jat_v1
  rw [hj,cbel_of hi]
  rcases hk with hk | hk
  · rw [decide_eq_false (show ¬ j.kind=2 by omega),mlies_0 ok (hw.1 hk)]; rfl
  · have hc:=(cnt_b (j:=j) hl.1).2.2
    have e:jbCount_v0 j s.l=perRank_v0 s.l.g:=by unfold jbCount_v0; rw [decide_eq_false (show ¬ j.kind=1 by omega),decide_eq_true hk]; rfl
    rw [decide_eq_true hk]
    exact nth_0 hl.1 (hw.2 hk) (by omega)
theorem goal_b {j:Jb} {s:MapS} (ok:MapOk s) (hj:jright_v0 j s=true) (hg:0≤j.goal∧j.goal≤1048576):(j.kind=1→0≤j.goal∧j.goal < gpages_v0 s.l.g)∧(j.kind=2→0≤j.goal∧j.goal < s.l.g.ranks + s.l.g.spares):=by
  have hr:=Gm.rt (ly_rt ok.right).1
  constructor
  · intro hk
    have h:=(jright_1 hj hk).2
    unfold jpages_v0 at h
    exact cbel_t (cT (cT h).2).1
  · intro hk
    have h:=(jright_2 hj hk).2
    unfold jranks_v0 at h
    have h:=(cT h).2
    cases q:mSpare_v1 s j.src with
    | true=>rw [q] at h; cases h
    | false =>
      rw [q] at h
      have h:=cbel_t h
      rw [wrap_ok (by omega) (by omega)] at h
      omega
theorem jroute_0 {j : Jb} {s : MapS} (ok : MapOk s) (lv : LvIn s) (hg : 0 ≤ j.goal ∧ j.goal ≤ 1048576) {n : Int} (hn : 0 ≤ n ∧ n < IntKind.i64.wrap ((lySeen_v0 s.l) * s.l.g.cols)) : jroute_v1 j s n = 0 := by
  have hl:=ly_rt ok.right
  have h0:=mIndex_0 ok lv hn
  have hc:=cnt_b (j:=j) hl.1
  unfold jroute_v1
  rw [h0]
  rw [show decide ((0:Int)=0)=true from rfl,cond_true]
  cases hj:jright_v0 j s with
  | false=>rfl
  | true =>
    have hb:=goal_b ok hj hg
    have k2 : (bif decide (j.kind = 2) then (bif decide ((mIndex_v2 s n) = j.src) then (bif decide ((gorder_v0 s.l.g (mIndex_v0 s n)) < j.next) then (jat_v1 j s j.goal (gorder_v0 s.l.g (mIndex_v0 s n))) else 0) else 0) else 0) = (0 : Int) := by
      cases q2:decide (j.kind=2) with
      | false=>rfl
      | true =>
        have q2:=of_decide_eq_true q2
        cases decide ((mIndex_v2 s n)=j.src) with
        | false=>rfl
        | true =>
          cases q4:decide ((gorder_v0 s.l.g (mIndex_v0 s n)) < j.next) with
          | false=>rfl
          | true =>
            have q4:=of_decide_eq_true q4
            have hx:=cbel_t (jright_2 hj q2).1
            rw [wrapN (by omega)] at hx
            have:=gorder_n s.l.g (mIndex_v0 s n)
            exact jat_0 ok hj (Or.inr q2) ⟨this,by omega⟩ _ hb
    simp only [cond_true]
    cases q1:decide (j.kind=1) with
    | false=>exact k2
    | true =>
      have q1:=of_decide_eq_true q1
      simp only [cond_true]
      refine bifG (p:=fun x:Int=>x=0) ?_ k2
      cases q4:decide (n.tmod s.l.g.cols < j.next) with
      | false=>rfl
      | true =>
        have q4:=of_decide_eq_true q4
        have hx:=cbel_t (jright_1 hj q1).1
        rw [wrapN (by omega)] at hx
        have hm:0≤n.tmod s.l.g.cols:=Int.tmod_nonneg _ hn.1
        exact jat_0 ok hj (Or.inl q1) ⟨hm,by omega⟩ _ hb
theorem cat_0 {s:CtlS} (h:LIn s.le) {n:Int} (hn:0≤n∧n < IntKind.i64.wrap ((lySeen_v0 s.le.rep.m.l) * s.le.rep.m.l.g.cols)):cat_v3 s n=0:=by
  unfold cat_v3
  rw [jroute_0 h.1.rep.m h.2.lv h.1.rep.g hn]; rfl
theorem cat_30 {s:CtlS} {n:Int} (hn:n < 0 ∨ IntKind.i64.wrap ((lySeen_v0 s.le.rep.m.l) * s.le.rep.m.l.g.cols)≤n):cat_v3 s n=30:=by
  have e:jroute_v1 s.le.rep.j s.le.rep.m n=12:=by
    unfold jroute_v1 mIndex_v3
    rw [rbel_no hn]; rfl
  unfold cat_v3
  rw [e]; rfl
end Go.Proofs.YtoflmffbkdekcaaGreat
