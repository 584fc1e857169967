import Derived.Test.YtfhiggfmkjmeiaaGreatFInt
set_option linter.unusedVariables false
set_option linter.unusedSimpArgs false
set_option linter.unusedSectionVars false
namespace Go.Proofs.YtfhiggfmkjmeiaaGreat
open Go Go.RowKit
set_option maxRecDepth 100000
theorem rbel_t {i n:Int} (h:rbel_v0 i n=true):0<=i∧i < n:=by
 unfold rbel_v0 at h; revert h; cases q:decide (0<=i) <;> simp_all
theorem rbel_f {i n:Int} (h:rbel_v0 i n=false):¬ (0<=i∧i < n):=fun ⟨a,b⟩=>by simp [rbel_v0,a,b] at h
structure MapOk (s:MapS):Prop where
 right:lyRight_v0 s.l=true
 nl:((s.lives.length:Nat):Int)=lySeen_v0 s.l
 nd:((s.dead.length:Nat):Int)=gpages_v0 s.l.g
 ns:((s.sp.length:Nat):Int)=s.l.g.ranks
 pg:0<=s.pages∧s.pages<=s.l.res
 rk:0<=s.rks∧s.rks<=s.l.g.spares
theorem ly_rt {l:Ly} (h:lyRight_v0 l=true):l.g.right=true∧interRight_v0 l.g l.way=true∧(0<=l.res∧l.res<=64∧l.res < gpages_v0 l.g)∧lySeen_v0 l=gpages_v0 l.g - l.res∧1<=lySeen_v0 l∧lySeen_v0 l<=131072∧IntKind.i64.wrap (lySeen_v0 l * l.g.cols)=lySeen_v0 l * l.g.cols∧IntKind.i64.wrap (lySeen_v0 l * l.g.cols)<=8388608∧1<=l.g.cols∧l.g.cols<=64:=by
 have hi:interRight_v0 l.g l.way=true∧0<=l.res∧l.res<=64∧l.res < gpages_v0 l.g:=by
  unfold lyRight_v0 at h
  revert h
  cases q:interRight_v0 l.g l.way <;> cases q2:decide (0<=l.res) <;> cases q3:decide (l.res<=64) <;> simp_all
 have hg:l.g.right=true:=by
  have:=hi.1
  unfold interRight_v0 at this
  revert this
  cases q:l.g.right <;> simp_all
 obtain ⟨e,e1,e2⟩:=gpages_eq hg
 have hs:lySeen_v0 l=gpages_v0 l.g - l.res:=by
  unfold lySeen_v0; rw [h,cond_true,wrap_ok (by omega) (by omega)]
 obtain ⟨h1,h2,h3,h4,h5⟩:=Gm.rt hg
 have m1:=mul_bd (a:=lySeen_v0 l) (b:=l.g.cols) (A:=131072) (B:=64) (by omega) (by omega)
 refine ⟨hg,hi.1,hi.2,hs,by omega,by omega,?_,?_,h5.1,h5.2⟩
 ·rw [wrap_ok (by omega) (by omega)]
 ·rw [wrap_ok (by omega) (by omega)]; omega
theorem mapUsed {s:MapS} (h:MapOk s):IntKind.i64.wrap (lySeen_v0 s.l + s.pages)<=((s.dead.length:Nat):Int)∧IntKind.i64.wrap (lySeen_v0 s.l + s.pages)=lySeen_v0 s.l + s.pages:=by
 obtain ⟨h1,h2,h3,h4,h5,h6,h7⟩:=ly_rt h.right
 have:=h.nd; have:=h.pg
 rw [wrap_ok (by omega) (by omega)]; omega
theorem mapIndex {s:MapS} (h:MapOk s) {n:Int} (hn:rbel_v0 n (IntKind.i64.wrap (lySeen_v0 s.l * s.l.g.cols))=true):0<=IntKind.i64.wrap (n.tdiv s.l.g.cols)∧IntKind.i64.wrap (n.tdiv s.l.g.cols) < ((s.lives.length:Nat):Int):=by
 obtain ⟨h1,h2,h3,h4,h5,h6,h7,h8,h9,h10⟩:=ly_rt h.right
 have hb:=rbel_t hn
 have:=h.nl
 rw [h7] at hb
 have e:n.tdiv s.l.g.cols=n / s.l.g.cols:=Int.tdiv_eq_ediv_of_nonneg hb.1
 have lo:0<=n / s.l.g.cols:=Int.ediv_nonneg hb.1 (by omega)
 have hi:n / s.l.g.cols < lySeen_v0 s.l:=Int.ediv_lt_of_lt_mul (by omega) hb.2
 rw [e,wrap_ok (by omega) (by omega)]; omega
theorem cols_ne {s:MapS} (h:MapOk s):s.l.g.cols ≠ 0:=by
 obtain ⟨h1,h2,h3,h4,h5,h6,h7,h8,h9,h10⟩:=ly_rt h.right
 omega
theorem mLayout (s:MapS) :Sp P 174 [.pt 0 0] (ros (bMap s 0)) (.ag [vi s.l.g.ranks,vi s.l.g.spares,vi s.l.g.banks,vi s.l.g.rows,vi s.l.g.cols,vi s.l.way,vi s.l.res]) (ros (bMap s 0)) :=
 so Tryz.f174 3 (ir 0 4) .nil
def mDead_v0 (s:MapS) (h:Int):Bool:=bif (rbel_v0 h ((s.dead.length:Nat):Int)) then (s.dead.getD h.toNat eT0) else false
theorem mDead (s:MapS) (h:Int) :Sp P 28 [.pt 0 0,vi h] (ros (bMap s 0)) (vt (mDead_v0 s h)) (ros (bMap s 0)):=by
 generalize d0:mDead_v0 s h=yd0
 unfold mDead_v0 at d0
 rcases bft (rbel_v0 h ((s.dead.length:Nat):Int)) with q1 | q1
 ·rw [cpos q1] at d0
  have q1':=rbel_t q1
  subst d0
  exact so Tryz.f28 3 (ir 0 4) (.c [] (rbel h ((s.dead.length:Nat):Int)) (.t4 q1 (.t2 q1 (.ix (n:=h) (i:=h.toNat) (m:=s.dead.length) (e:=(by omega)) (by omega) (.t q1 (.el (e:=eT) (gDx (l:=s.dead) (i:=h.toNat) eT0 (by omega)) (.t q1 .nil)))))))
 ·rw [cneg q1] at d0
  have q1':=rbel_f q1
  subst d0
  exact so Tryz.f28 3 (ir 0 4) (.c [] (rbel h ((s.dead.length:Nat):Int)) (.t4 q1 (.t4 q1 .nil)))
def mSpare_v0 (s:MapS) (r:Int):Int:=bif (rbel_v0 r ((s.sp.length:Nat):Int)) then (bif decide (s.sp.getD r.toNat eI0=-1) then 0 else (s.sp.getD r.toNat eI0)) else 0
def mSpare_v1 (s:MapS) (r:Int):Bool:=bif (rbel_v0 r ((s.sp.length:Nat):Int)) then (bif decide (s.sp.getD r.toNat eI0=-1) then false else true) else false
theorem mSpare (s:MapS) (r:Int) :Sp P 26 [.pt 0 0,vi r] (ros (bMap s 0)) (.tu [vi (mSpare_v0 s r),vt (mSpare_v1 s r)]) (ros (bMap s 0)):=by
 generalize d0:mSpare_v0 s r=yd0
 unfold mSpare_v0 at d0
 generalize d1:mSpare_v1 s r=yd1
 unfold mSpare_v1 at d1
 rcases bft (rbel_v0 r ((s.sp.length:Nat):Int)) with q1 | q1
 ·rw [cpos q1] at d0
  rw [cpos q1] at d1
  have q1':=rbel_t q1
  rcases bft (decide (s.sp.getD r.toNat eI0=-1)) with q2 | q2
  ·rw [cpos q2] at d0
   rw [cpos q2] at d1
   have q2':=of_decide_eq_true q2
   subst d0 d1
   exact so Tryz.f26 3 (ir 0 4) (.c [] (rbel r ((s.sp.length:Nat):Int)) (.g4 q1 (.g2 q1 (.ix (n:=r) (i:=r.toNat) (m:=s.sp.length) (e:=(by omega)) (by omega) (.g q1 (.el (e:=eI) (gDx (l:=s.sp) (i:=r.toNat) eI0 (by omega)) (.g2 q1 (.t q2 .nil))))))))
  ·rw [cneg q2] at d0
   rw [cneg q2] at d1
   have q2':=of_decide_eq_false q2
   subst d0 d1
   exact so Tryz.f26 3 (ir 0 4) (.c [] (rbel r ((s.sp.length:Nat):Int)) (.g4 q1 (.g2 q1 (.ix (n:=r) (i:=r.toNat) (m:=s.sp.length) (e:=(by omega)) (by omega) (.g q1 (.el (e:=eI) (gDx (l:=s.sp) (i:=r.toNat) eI0 (by omega)) (.g2 q1 (.t q2 (.ix (n:=r) (i:=r.toNat) (m:=s.sp.length) (e:=(by omega)) (by omega) (.el (e:=eI) (gDx (l:=s.sp) (i:=r.toNat) eI0 (by omega)) .nil))))))))))
 ·rw [cneg q1] at d0
  rw [cneg q1] at d1
  have q1':=rbel_f q1
  subst d0 d1
  exact so Tryz.f26 3 (ir 0 4) (.c [] (rbel r ((s.sp.length:Nat):Int)) (.g4 q1 (.g4 q1 (.g q1 (.y .nil)))))
def mlies_v0 (s:MapS) (h:Int):Int:=bif decide ((iPage_v1 s.l.g s.l.way h)=0) then (bif (mSpare_v1 s ((iPage_v0 s.l.g s.l.way h).fdiv (2 ^ 14))) then (IntKind.i64.wrap ((iPage_v0 s.l.g s.l.way h) + (IntKind.i64.wrap ((IntKind.i64.wrap ((mSpare_v0 s ((iPage_v0 s.l.g s.l.way h).fdiv (2 ^ 14))) - ((iPage_v0 s.l.g s.l.way h).fdiv (2 ^ 14)))) * 2 ^ 14)))) else (iPage_v0 s.l.g s.l.way h)) else 0
def mlies_v1 (s:MapS) (h:Int):Int:=bif decide ((iPage_v1 s.l.g s.l.way h)=0) then ((iPage_v0 s.l.g s.l.way h).fdiv (2 ^ 14)) else 0
def mlies_v2 (s:MapS) (h:Int):Int:=bif decide ((iPage_v1 s.l.g s.l.way h)=0) then 0 else (iPage_v1 s.l.g s.l.way h)
theorem mlies (s:MapS) (h:Int) :Sp P 225 [.pt 0 0,vi h] (ros (bMap s 0)) (.tu [vi (mlies_v0 s h),vi (mlies_v1 s h),vi (mlies_v2 s h)]) (ros (bMap s 0)):=by
 generalize d0:mlies_v0 s h=yd0
 unfold mlies_v0 at d0
 generalize d1:mlies_v1 s h=yd1
 unfold mlies_v1 at d1
 generalize d2:mlies_v2 s h=yd2
 unfold mlies_v2 at d2
 rcases bft (decide ((iPage_v1 s.l.g s.l.way h)=0)) with q1 | q1
 ·rw [cpos q1] at d0
  rw [cpos q1] at d1
  rw [cpos q1] at d2
  rcases bft (mSpare_v1 s ((iPage_v0 s.l.g s.l.way h).fdiv (2 ^ 14))) with q2 | q2
  ·rw [cpos q2] at d0
   subst d0 d1 d2
   exact so Tryz.f225 3 (ir 0 4) (.c [] (iPage s.l.g s.l.way h) (.g q1 (.c (ir 0 4) (mSpare s ((iPage_v0 s.l.g s.l.way h).fdiv (2 ^ 14))) (.t q2 .nil))))
  ·rw [cneg q2] at d0
   subst d0 d1 d2
   exact so Tryz.f225 3 (ir 0 4) (.c [] (iPage s.l.g s.l.way h) (.g q1 (.c (ir 0 4) (mSpare s ((iPage_v0 s.l.g s.l.way h).fdiv (2 ^ 14))) (.t q2 .nil))))
 ·rw [cneg q1] at d0
  rw [cneg q1] at d1
  rw [cneg q1] at d2
  subst d0 d1 d2
  exact so Tryz.f225 3 (ir 0 4) (.c [] (iPage s.l.g s.l.way h) (.g q1 .nil))
theorem mLies (s:MapS) (h:Int) :Sp P 273 [.pt 0 0,vi h] (ros (bMap s 0)) (.tu [vi (mlies_v0 s h),vi (mlies_v2 s h)]) (ros (bMap s 0)) :=
 so Tryz.f273 3 (ir 0 4) (.c (ir 0 4) (mlies s h) .nil)
def mFreePage_v0 (s:MapS):Int:=bif decide (s.pages=s.l.res) then 0 else (IntKind.i64.wrap ((lySeen_v0 s.l) + s.pages))
def mFreePage_v1 (s:MapS):Bool:=bif decide (s.pages=s.l.res) then false else true
theorem mFreePage (s:MapS) :Sp P 23 [.pt 0 0] (ros (bMap s 0)) (.tu [vi (mFreePage_v0 s),vt (mFreePage_v1 s)]) (ros (bMap s 0)):=by
 generalize d0:mFreePage_v0 s=yd0
 unfold mFreePage_v0 at d0
 generalize d1:mFreePage_v1 s=yd1
 unfold mFreePage_v1 at d1
 rcases bft (decide (s.pages=s.l.res)) with q1 | q1
 ·rw [cpos q1] at d0
  rw [cpos q1] at d1
  subst d0 d1
  exact so Tryz.f23 3 (ir 0 4) (.t q1 .nil)
 ·rw [cneg q1] at d0
  rw [cneg q1] at d1
  subst d0 d1
  exact so Tryz.f23 3 (ir 0 4) (.t q1 (.c [] (lySeen s.l) .nil))
def mFreeSpare_v0 (s:MapS):Int:=bif decide (s.rks=s.l.g.spares) then 0 else (IntKind.i64.wrap (s.l.g.ranks + s.rks))
def mFreeSpare_v1 (s:MapS):Bool:=bif decide (s.rks=s.l.g.spares) then false else true
theorem mFreeSpare (s:MapS) :Sp P 24 [.pt 0 0] (ros (bMap s 0)) (.tu [vi (mFreeSpare_v0 s),vt (mFreeSpare_v1 s)]) (ros (bMap s 0)):=by
 generalize d0:mFreeSpare_v0 s=yd0
 unfold mFreeSpare_v0 at d0
 generalize d1:mFreeSpare_v1 s=yd1
 unfold mFreeSpare_v1 at d1
 rcases bft (decide (s.rks=s.l.g.spares)) with q1 | q1
 ·rw [cpos q1] at d0
  rw [cpos q1] at d1
  subst d0 d1
  exact so Tryz.f24 3 (ir 0 4) (.t q1 .nil)
 ·rw [cneg q1] at d0
  rw [cneg q1] at d1
  subst d0 d1
  exact so Tryz.f24 3 (ir 0 4) (.t q1 .nil)
def mUsed_v0 (s:MapS) (h:Int):Bool:=bif (rbel_v0 h (IntKind.i64.wrap ((lySeen_v0 s.l) + s.pages))) then (!(s.dead.getD h.toNat eT0)) else false
theorem mUsed (s:MapS) (h:Int) (ok:MapOk s):Sp P 130 [.pt 0 0,vi h] (ros (bMap s 0)) (vt (mUsed_v0 s h)) (ros (bMap s 0)):=by
 have hU:=mapUsed ok
 generalize d0:mUsed_v0 s h=yd0
 unfold mUsed_v0 at d0
 rcases bft (rbel_v0 h (IntKind.i64.wrap ((lySeen_v0 s.l) + s.pages))) with q1 | q1
 ·rw [cpos q1] at d0
  have q1':=rbel_t q1
  subst d0
  exact so Tryz.f130 4 (ir 0 4) (.c [] (lySeen s.l) (.c [] (rbel h (IntKind.i64.wrap ((lySeen_v0 s.l) + s.pages))) (.t4 q1 (.t2 q1 (.ix (n:=h) (i:=h.toNat) (m:=s.dead.length) (e:=(by omega)) (by omega) (.t q1 (.el (e:=eT) (gDx (l:=s.dead) (i:=h.toNat) eT0 (by omega)) (.t2 q1 .nil))))))))
 ·rw [cneg q1] at d0
  have q1':=rbel_f q1
  subst d0
  exact so Tryz.f130 4 (ir 0 4) (.c [] (lySeen s.l) (.c [] (rbel h (IntKind.i64.wrap ((lySeen_v0 s.l) + s.pages))) (.t4 q1 (.t4 q1 (.t q1 .nil)))))
def mIndex_v0 (s:MapS) (n:Int):Int:=bif (rbel_v0 n (IntKind.i64.wrap ((lySeen_v0 s.l) * s.l.g.cols))) then (bif decide ((mlies_v2 s (s.lives.getD (IntKind.i64.wrap (n.tdiv s.l.g.cols)).toNat eI0))=0) then (bits .or .i64 (IntKind.i64.wrap ((mlies_v0 s (s.lives.getD (IntKind.i64.wrap (n.tdiv s.l.g.cols)).toNat eI0)) * 2 ^ 6)) (n.tmod s.l.g.cols)) else 0) else 0
def mIndex_v1 (s:MapS) (n:Int):Int:=bif (rbel_v0 n (IntKind.i64.wrap ((lySeen_v0 s.l) * s.l.g.cols))) then (bif decide ((mlies_v2 s (s.lives.getD (IntKind.i64.wrap (n.tdiv s.l.g.cols)).toNat eI0))=0) then (s.lives.getD (IntKind.i64.wrap (n.tdiv s.l.g.cols)).toNat eI0) else 0) else 0
def mIndex_v2 (s:MapS) (n:Int):Int:=bif (rbel_v0 n (IntKind.i64.wrap ((lySeen_v0 s.l) * s.l.g.cols))) then (bif decide ((mlies_v2 s (s.lives.getD (IntKind.i64.wrap (n.tdiv s.l.g.cols)).toNat eI0))=0) then (mlies_v1 s (s.lives.getD (IntKind.i64.wrap (n.tdiv s.l.g.cols)).toNat eI0)) else 0) else 0
def mIndex_v3 (s:MapS) (n:Int):Int:=bif (rbel_v0 n (IntKind.i64.wrap ((lySeen_v0 s.l) * s.l.g.cols))) then (bif decide ((mlies_v2 s (s.lives.getD (IntKind.i64.wrap (n.tdiv s.l.g.cols)).toNat eI0))=0) then 0 else (mlies_v2 s (s.lives.getD (IntKind.i64.wrap (n.tdiv s.l.g.cols)).toNat eI0))) else 12
theorem mIndex (s:MapS) (n:Int) (ok:MapOk s):Sp P 172 [.pt 0 0,vi n] (ros (bMap s 0)) (.tu [vi (mIndex_v0 s n),vi (mIndex_v1 s n),vi (mIndex_v2 s n),vi (mIndex_v3 s n)]) (ros (bMap s 0)):=by
 have hc:=cols_ne ok
 generalize d0:mIndex_v0 s n=yd0
 unfold mIndex_v0 at d0
 generalize d1:mIndex_v1 s n=yd1
 unfold mIndex_v1 at d1
 generalize d2:mIndex_v2 s n=yd2
 unfold mIndex_v2 at d2
 generalize d3:mIndex_v3 s n=yd3
 unfold mIndex_v3 at d3
 rcases bft (rbel_v0 n (IntKind.i64.wrap ((lySeen_v0 s.l) * s.l.g.cols))) with q1 | q1
 ·rw [cpos q1] at d0
  rw [cpos q1] at d1
  rw [cpos q1] at d2
  rw [cpos q1] at d3
  have q1':=rbel_t q1
  have q1f0:=mapIndex ok q1
  rcases bft (decide ((mlies_v2 s (s.lives.getD (IntKind.i64.wrap (n.tdiv s.l.g.cols)).toNat eI0))=0)) with q2 | q2
  ·rw [cpos q2] at d0
   rw [cpos q2] at d1
   rw [cpos q2] at d2
   rw [cpos q2] at d3
   have q2':=of_decide_eq_true q2
   subst d0 d1 d2 d3
   exact so Tryz.f172 3 (ir 0 4) (.c [] (lyLines s.l) (.c [] (rbel n (IntKind.i64.wrap ((lySeen_v0 s.l) * s.l.g.cols))) (.g q1 (.p 28 (pQuoI n s.l.g.cols (hc)) (.ix (n:=IntKind.i64.wrap (n.tdiv s.l.g.cols)) (i:=(IntKind.i64.wrap (n.tdiv s.l.g.cols)).toNat) (m:=s.lives.length) (e:=(by omega)) (by omega) (.el (e:=eI) (gDx (l:=s.lives) (i:=(IntKind.i64.wrap (n.tdiv s.l.g.cols)).toNat) eI0 (by omega)) (.c (ir 0 4) (mlies s (s.lives.getD (IntKind.i64.wrap (n.tdiv s.l.g.cols)).toNat eI0)) (.g q2 (.p 50 (pRemI n s.l.g.cols (hc)) .nil)))))))))
  ·rw [cneg q2] at d0
   rw [cneg q2] at d1
   rw [cneg q2] at d2
   rw [cneg q2] at d3
   have q2':=of_decide_eq_false q2
   subst d0 d1 d2 d3
   exact so Tryz.f172 3 (ir 0 4) (.c [] (lyLines s.l) (.c [] (rbel n (IntKind.i64.wrap ((lySeen_v0 s.l) * s.l.g.cols))) (.g q1 (.p 28 (pQuoI n s.l.g.cols (hc)) (.ix (n:=IntKind.i64.wrap (n.tdiv s.l.g.cols)) (i:=(IntKind.i64.wrap (n.tdiv s.l.g.cols)).toNat) (m:=s.lives.length) (e:=(by omega)) (by omega) (.el (e:=eI) (gDx (l:=s.lives) (i:=(IntKind.i64.wrap (n.tdiv s.l.g.cols)).toNat) eI0 (by omega)) (.c (ir 0 4) (mlies s (s.lives.getD (IntKind.i64.wrap (n.tdiv s.l.g.cols)).toNat eI0)) (.g q2 .nil))))))))
 ·rw [cneg q1] at d0
  rw [cneg q1] at d1
  rw [cneg q1] at d2
  rw [cneg q1] at d3
  have q1':=rbel_f q1
  subst d0 d1 d2 d3
  exact so Tryz.f172 3 (ir 0 4) (.c [] (lyLines s.l) (.c [] (rbel n (IntKind.i64.wrap ((lySeen_v0 s.l) * s.l.g.cols))) (.g q1 .nil)))
def mTakePage_s (s:MapS):MapS:=bif (mFreePage_v1 s) then { s with pages:=IntKind.i64.wrap (s.pages + 1) } else s
def mTakePage_v0 (s:MapS):Int:=bif (mFreePage_v1 s) then (mFreePage_v0 s) else 0
def mTakePage_v1 (s:MapS):Nat:=bif (mFreePage_v1 s) then 0 else 52
theorem mTakePage (s:MapS) :Sp P 342 [.pt 0 0] (bMap s 0) (.tu [vi (mTakePage_v0 s),vn (mTakePage_v1 s)]) (bMap (mTakePage_s s) 0):=by
 generalize d0:mTakePage_s s=yd0
 unfold mTakePage_s at d0
 generalize d1:mTakePage_v0 s=yd1
 unfold mTakePage_v0 at d1
 generalize d2:mTakePage_v1 s=yd2
 unfold mTakePage_v1 at d2
 rcases bft (mFreePage_v1 s) with q1 | q1
 ·rw [cpos q1] at d0
  rw [cpos q1] at d1
  rw [cpos q1] at d2
  subst d0 d1 d2
  exact so Tryz.f342 3 (ir 0 4) (.c (ir 0 4) (mFreePage s) (.g q1 .nil))
 ·rw [cneg q1] at d0
  rw [cneg q1] at d1
  rw [cneg q1] at d2
  subst d0 d1 d2
  exact so Tryz.f342 3 (ir 0 4) (.c (ir 0 4) (mFreePage s) (.g q1 .nil))
def mTakeSpare_s (s:MapS):MapS:=bif (mFreeSpare_v1 s) then { s with rks:=IntKind.i64.wrap (s.rks + 1) } else s
def mTakeSpare_v0 (s:MapS):Int:=bif (mFreeSpare_v1 s) then (mFreeSpare_v0 s) else 0
def mTakeSpare_v1 (s:MapS):Nat:=bif (mFreeSpare_v1 s) then 0 else 52
theorem mTakeSpare (s:MapS) :Sp P 343 [.pt 0 0] (bMap s 0) (.tu [vi (mTakeSpare_v0 s),vn (mTakeSpare_v1 s)]) (bMap (mTakeSpare_s s) 0):=by
 generalize d0:mTakeSpare_s s=yd0
 unfold mTakeSpare_s at d0
 generalize d1:mTakeSpare_v0 s=yd1
 unfold mTakeSpare_v0 at d1
 generalize d2:mTakeSpare_v1 s=yd2
 unfold mTakeSpare_v1 at d2
 rcases bft (mFreeSpare_v1 s) with q1 | q1
 ·rw [cpos q1] at d0
  rw [cpos q1] at d1
  rw [cpos q1] at d2
  subst d0 d1 d2
  exact so Tryz.f343 3 (ir 0 4) (.c (ir 0 4) (mFreeSpare s) (.g q1 .nil))
 ·rw [cneg q1] at d0
  rw [cneg q1] at d1
  rw [cneg q1] at d2
  subst d0 d1 d2
  exact so Tryz.f343 3 (ir 0 4) (.c (ir 0 4) (mFreeSpare s) (.g q1 .nil))
theorem lives_le {s:MapS} (h:MapOk s):s.lives.length<=131072:=by
 obtain ⟨h1,h2,h3,h4,h5,h6,h7⟩:=ly_rt h.right
 have:=h.nl; omega
theorem mapTo {s:MapS} (h:MapOk s) {t:Int} (ht:0<=t∧t<=1048576) (hb:rbel_v0 (IntKind.i64.wrap (t - lySeen_v0 s.l)) s.pages=true):0<=t∧t < ((s.dead.length:Nat):Int):=by
 obtain ⟨h1,h2,h3,h4,h5,h6,h7⟩:=ly_rt h.right
 have:=h.nd; have:=h.pg
 have hb:=rbel_t hb
 rw [wrap_ok (by omega) (by omega)] at hb; omega
def retL (h t:Int) (l:List Int):Nat->List Int
 | 0=>l
 | i + 1=>bif decide ((retL h t l i).getD i eI0=h) then (retL h t l i).set i t else retL h t l i
theorem retL_len (h t:Int) (l:List Int):∀ i,(retL h t l i).length=l.length
 | 0=>rfl
 | i + 1=>by
   have:=retL_len h t l i
   rw [retL]
   cases decide ((retL h t l i).getD i eI0=h)
   ·exact this
   ·rw [cond_true,List.length_set,this]
def mRetire_s (s:MapS) (h:Int) (t:Int):MapS:=bif (rbel_v0 h ((s.dead.length:Nat):Int)) then (bif (rbel_v0 (IntKind.i64.wrap (t - (lySeen_v0 s.l))) s.pages) then (bif s.dead.getD h.toNat eT0 then s else (bif s.dead.getD t.toNat eT0 then s else (bif decide (h=t) then s else { s with lives:=retL h t s.lives s.lives.length,dead:=s.dead.set h.toNat true }))) else s) else s
def mRetire_v0 (s:MapS) (h:Int) (t:Int):Nat:=bif (rbel_v0 h ((s.dead.length:Nat):Int)) then (bif (rbel_v0 (IntKind.i64.wrap (t - (lySeen_v0 s.l))) s.pages) then (bif s.dead.getD h.toNat eT0 then 15 else (bif s.dead.getD t.toNat eT0 then 15 else (bif decide (h=t) then 15 else 0))) else 12) else 12
theorem mRetire (s:MapS) (h:Int) (t:Int) (ok:MapOk s) (ht:0<=t∧t<=1048576):Sp P 324 [.pt 0 0,vi h,vi t] (bMap s 0) (vn (mRetire_v0 s h t)) (bMap (mRetire_s s h t) 0):=by
 have hl:=lives_le ok
 generalize d0:mRetire_s s h t=yd0
 unfold mRetire_s at d0
 generalize d1:mRetire_v0 s h t=yd1
 unfold mRetire_v0 at d1
 rcases bft (rbel_v0 h ((s.dead.length:Nat):Int)) with q1 | q1
 ·rw [cpos q1] at d0
  rw [cpos q1] at d1
  have q1':=rbel_t q1
  rcases bft (rbel_v0 (IntKind.i64.wrap (t - (lySeen_v0 s.l))) s.pages) with q2 | q2
  ·rw [cpos q2] at d0
   rw [cpos q2] at d1
   have q2':=rbel_t q2
   have q2f0:=mapTo ok ht q2
   rcases bft (s.dead.getD h.toNat eT0) with q3 | q3
   ·rw [cpos q3] at d0
    rw [cpos q3] at d1
    subst d0 d1
    exact so Tryz.f324 5 (ir 0 4) (.c [] (rbel h ((s.dead.length:Nat):Int)) (.g4 q1 (.g2 q1 (.c [] (lySeen s.l) (.g4 q1 (.g2 q1 (.c [] (rbel (IntKind.i64.wrap (t - (lySeen_v0 s.l))) s.pages) (.g2 q1 (.g q2 (.ix (n:=h) (i:=h.toNat) (m:=s.dead.length) (e:=(by omega)) (by omega) (.el (e:=eT) (gDx (l:=s.dead) (i:=h.toNat) eT0 (by omega)) (.t4 q3 (.t4 q3 (.y4 (.y .nil)))))))))))))))
   ·rw [cneg q3] at d0
    rw [cneg q3] at d1
    rcases bft (s.dead.getD t.toNat eT0) with q4 | q4
    ·rw [cpos q4] at d0
     rw [cpos q4] at d1
     subst d0 d1
     exact so Tryz.f324 5 (ir 0 4) (.c [] (rbel h ((s.dead.length:Nat):Int)) (.g4 q1 (.g2 q1 (.c [] (lySeen s.l) (.g4 q1 (.g2 q1 (.c [] (rbel (IntKind.i64.wrap (t - (lySeen_v0 s.l))) s.pages) (.g2 q1 (.g q2 (.ix (n:=h) (i:=h.toNat) (m:=s.dead.length) (e:=(by omega)) (by omega) (.el (e:=eT) (gDx (l:=s.dead) (i:=h.toNat) eT0 (by omega)) (.t4 q3 (.t2 q3 (.ix (n:=t) (i:=t.toNat) (m:=s.dead.length) (e:=(by omega)) (by omega) (.t q3 (.el (e:=eT) (gDx (l:=s.dead) (i:=t.toNat) eT0 (by omega)) (.t q3 (.t4 q4 (.y .nil)))))))))))))))))))
    ·rw [cneg q4] at d0
     rw [cneg q4] at d1
     rcases bft (decide (h=t)) with q5 | q5
     ·rw [cpos q5] at d0
      rw [cpos q5] at d1
      have q5':=of_decide_eq_true q5
      subst d0 d1
      exact so Tryz.f324 5 (ir 0 4) (.c [] (rbel h ((s.dead.length:Nat):Int)) (.g4 q1 (.g2 q1 (.c [] (lySeen s.l) (.g4 q1 (.g2 q1 (.c [] (rbel (IntKind.i64.wrap (t - (lySeen_v0 s.l))) s.pages) (.g2 q1 (.g q2 (.ix (n:=h) (i:=h.toNat) (m:=s.dead.length) (e:=(by omega)) (by omega) (.el (e:=eT) (gDx (l:=s.dead) (i:=h.toNat) eT0 (by omega)) (.t4 q3 (.t2 q3 (.ix (n:=t) (i:=t.toNat) (m:=s.dead.length) (e:=(by omega)) (by omega) (.t q3 (.el (e:=eT) (gDx (l:=s.dead) (i:=t.toNat) eT0 (by omega)) (.t q3 (.t4 q4 (.t q5 .nil)))))))))))))))))))
     ·rw [cneg q5] at d0
      rw [cneg q5] at d1
      have q5':=of_decide_eq_false q5
      subst d0 d1
      exact so Tryz.f324 5 (ir 0 4) (.c [] (rbel h ((s.dead.length:Nat):Int)) (.g4 q1 (.g2 q1 (.c [] (lySeen s.l) (.g4 q1 (.g2 q1 (.c [] (rbel (IntKind.i64.wrap (t - (lySeen_v0 s.l))) s.pages) (.g2 q1 (.g q2 (.ix (n:=h) (i:=h.toNat) (m:=s.dead.length) (e:=(by omega)) (by omega) (.el (e:=eT) (gDx (l:=s.dead) (i:=h.toNat) eT0 (by omega)) (.t4 q3 (.t2 q3 (.ix (n:=t) (i:=t.toNat) (m:=s.dead.length) (e:=(by omega)) (by omega) (.t q3 (.el (e:=eT) (gDx (l:=s.dead) (i:=t.toNat) eT0 (by omega)) (.t q3 (.t4 q4 (.t q5 (.ix (n:=h) (i:=h.toNat) (m:=s.dead.length) (e:=(by omega)) (by omega) (.sw (e:=eT) (l:=s.dead) (i:=h.toNat) (a:=true) (by omega) (.lp s.lives.length 8 [] [] (fun i=>[(66,vn i)]) (fun i=>[(1,.row eI (retL h t s.lives i))]) (fun i hi=>(.t (show (decide (((i:Nat):Int) < ((s.lives.length:Nat):Int)))=true from decide_eq_true (by omega)) (.ix (i:=i) (m:=(retL h t s.lives i).length) (by rw [retL_len]; omega) (.el (e:=eI) (gDx (l:=retL h t s.lives i) (i:=i) eI0 (by rw [retL_len]; omega)) (.cs 0 (decide ((retL h t s.lives i).getD i eI0=h)) 8 [] [] (fun z=>[]) (fun z=>[(1,.row eI (bif z then ((retL h t s.lives i).set i t) else (retL h t s.lives i)))]) (fun hq1=>(.t hq1 (.ix (i:=i) (m:=(retL h t s.lives i).length) (by rw [retL_len]; omega) (.sw (e:=eI) (l:=retL h t s.lives i) (i:=i) (a:=t) (by rw [retL_len]; omega) .nil)))) (fun hq1=>(.t hq1 .nil)) (.e 81 (aAdd (a:=((i:Nat):Int)) (b:=1) (c:=((i + 1:Nat):Int)) (by omega)) .nil)))))) (.t (show (decide (((s.lives.length:Nat):Int) < ((s.lives.length:Nat):Int)))=false from decide_eq_false (by omega)) .nil)))))))))))))))))))))))
  ·rw [cneg q2] at d0
   rw [cneg q2] at d1
   have q2':=rbel_f q2
   subst d0 d1
   exact so Tryz.f324 5 (ir 0 4) (.c [] (rbel h ((s.dead.length:Nat):Int)) (.g4 q1 (.g2 q1 (.c [] (lySeen s.l) (.g4 q1 (.g2 q1 (.c [] (rbel (IntKind.i64.wrap (t - (lySeen_v0 s.l))) s.pages) (.g2 q1 (.g q2 .nil)))))))))
 ·rw [cneg q1] at d0
  rw [cneg q1] at d1
  have q1':=rbel_f q1
  subst d0 d1
  exact so Tryz.f324 3 (ir 0 4) (.c [] (rbel h ((s.dead.length:Nat):Int)) (.g4 q1 (.g4 q1 (.g4 q1 (.g2 q1 (.y .nil))))))
def mReplace_s (s:MapS) (h:Int) (t:Int):MapS:=bif (rbel_v0 h ((s.sp.length:Nat):Int)) then (bif (rbel_v0 (IntKind.i64.wrap (t - s.l.g.ranks)) s.rks) then (bif decide (s.sp.getD h.toNat eI0=-1) then { s with sp:=s.sp.set h.toNat t } else s) else s) else s
def mReplace_v0 (s:MapS) (h:Int) (t:Int):Nat:=bif (rbel_v0 h ((s.sp.length:Nat):Int)) then (bif (rbel_v0 (IntKind.i64.wrap (t - s.l.g.ranks)) s.rks) then (bif decide (s.sp.getD h.toNat eI0=-1) then 0 else 15) else 12) else 12
theorem mReplace (s:MapS) (h:Int) (t:Int) :Sp P 325 [.pt 0 0,vi h,vi t] (bMap s 0) (vn (mReplace_v0 s h t)) (bMap (mReplace_s s h t) 0):=by
 generalize d0:mReplace_s s h t=yd0
 unfold mReplace_s at d0
 generalize d1:mReplace_v0 s h t=yd1
 unfold mReplace_v0 at d1
 rcases bft (rbel_v0 h ((s.sp.length:Nat):Int)) with q1 | q1
 ·rw [cpos q1] at d0
  rw [cpos q1] at d1
  have q1':=rbel_t q1
  rcases bft (rbel_v0 (IntKind.i64.wrap (t - s.l.g.ranks)) s.rks) with q2 | q2
  ·rw [cpos q2] at d0
   rw [cpos q2] at d1
   have q2':=rbel_t q2
   rcases bft (decide (s.sp.getD h.toNat eI0=-1)) with q3 | q3
   ·rw [cpos q3] at d0
    rw [cpos q3] at d1
    have q3':=of_decide_eq_true q3
    subst d0 d1
    exact so Tryz.f325 4 (ir 0 4) (.c [] (rbel h ((s.sp.length:Nat):Int)) (.g4 q1 (.g4 q1 (.g4 q1 (.g q1 (.c [] (rbel (IntKind.i64.wrap (t - s.l.g.ranks)) s.rks) (.g2 q1 (.g q2 (.ix (n:=h) (i:=h.toNat) (m:=s.sp.length) (e:=(by omega)) (by omega) (.el (e:=eI) (gDx (l:=s.sp) (i:=h.toNat) eI0 (by omega)) (.g q3 (.ix (n:=h) (i:=h.toNat) (m:=s.sp.length) (e:=(by omega)) (by omega) (.sw (e:=eI) (l:=s.sp) (i:=h.toNat) (a:=t) (by omega) .nil)))))))))))))
   ·rw [cneg q3] at d0
    rw [cneg q3] at d1
    have q3':=of_decide_eq_false q3
    subst d0 d1
    exact so Tryz.f325 4 (ir 0 4) (.c [] (rbel h ((s.sp.length:Nat):Int)) (.g4 q1 (.g4 q1 (.g4 q1 (.g q1 (.c [] (rbel (IntKind.i64.wrap (t - s.l.g.ranks)) s.rks) (.g2 q1 (.g q2 (.ix (n:=h) (i:=h.toNat) (m:=s.sp.length) (e:=(by omega)) (by omega) (.el (e:=eI) (gDx (l:=s.sp) (i:=h.toNat) eI0 (by omega)) (.g q3 .nil)))))))))))
  ·rw [cneg q2] at d0
   rw [cneg q2] at d1
   have q2':=rbel_f q2
   subst d0 d1
   exact so Tryz.f325 4 (ir 0 4) (.c [] (rbel h ((s.sp.length:Nat):Int)) (.g4 q1 (.g4 q1 (.g4 q1 (.g q1 (.c [] (rbel (IntKind.i64.wrap (t - s.l.g.ranks)) s.rks) (.g2 q1 (.g q2 .nil))))))))
 ·rw [cneg q1] at d0
  rw [cneg q1] at d1
  have q1':=rbel_f q1
  subst d0 d1
  exact so Tryz.f325 3 (ir 0 4) (.c [] (rbel h ((s.sp.length:Nat):Int)) (.g4 q1 (.g4 q1 (.g4 q1 (.g2 q1 (.g q1 (.y .nil)))))))
theorem mTakePage_ok {s:MapS} (h:MapOk s):MapOk (mTakePage_s s):=by
 obtain ⟨h1,h2,h3,h4,h5,h6⟩:=h
 unfold mTakePage_s mFreePage_v1
 cases q:decide (s.pages=s.l.res)
 ·have q':=of_decide_eq_false q
  have:=ly_rt h1
  exact ⟨h1,h2,h3,h4,by show 0<=IntKind.i64.wrap (s.pages + 1)∧IntKind.i64.wrap (s.pages + 1)<=s.l.res; rw [wrap_ok (by omega) (by omega)]; omega,h6⟩
 ·exact ⟨h1,h2,h3,h4,h5,h6⟩
theorem mTakeSpare_ok {s:MapS} (h:MapOk s):MapOk (mTakeSpare_s s):=by
 obtain ⟨h1,h2,h3,h4,h5,h6⟩:=h
 unfold mTakeSpare_s mFreeSpare_v1
 cases q:decide (s.rks=s.l.g.spares)
 ·have q':=of_decide_eq_false q
  have:=Gm.rt (ly_rt h1).1
  exact ⟨h1,h2,h3,h4,h5,by show 0<=IntKind.i64.wrap (s.rks + 1)∧IntKind.i64.wrap (s.rks + 1)<=s.l.g.spares; rw [wrap_ok (by omega) (by omega)]; omega⟩
 ·exact ⟨h1,h2,h3,h4,h5,h6⟩
theorem mRetire_ok {s:MapS} {a t:Int} (h:MapOk s):MapOk (mRetire_s s a t):=by
 obtain ⟨h1,h2,h3,h4,h5,h6⟩:=h
 unfold mRetire_s
 simp only [Bool.cond_eq_ite]
 repeat (first | exact ⟨h1,h2,h3,h4,h5,h6⟩ | exact ⟨h1,by rw [retL_len]; exact h2,by rw [List.length_set]; exact h3,h4,h5,h6⟩ | split)
theorem mReplace_ok {s:MapS} {a t:Int} (h:MapOk s):MapOk (mReplace_s s a t):=by
 obtain ⟨h1,h2,h3,h4,h5,h6⟩:=h
 unfold mReplace_s
 simp only [Bool.cond_eq_ite]
 repeat (first | exact ⟨h1,h2,h3,h4,h5,h6⟩ | exact ⟨h1,h2,h3,by rw [List.length_set]; exact h4,h5,h6⟩ | split)
theorem mTakePage_l (s:MapS):(mTakePage_s s).l=s.l:=by unfold mTakePage_s; cases mFreePage_v1 s <;> rfl
theorem mTakeSpare_l (s:MapS):(mTakeSpare_s s).l=s.l:=by unfold mTakeSpare_s; cases mFreeSpare_v1 s <;> rfl
theorem mRetire_l (s:MapS) (a t:Int):(mRetire_s s a t).l=s.l:=by unfold mRetire_s; simp only [Bool.cond_eq_ite]; repeat (first | rfl | split)
theorem mReplace_l (s:MapS) (a t:Int):(mReplace_s s a t).l=s.l:=by unfold mReplace_s; simp only [Bool.cond_eq_ite]; repeat (first | rfl | split)
end Go.Proofs.YtfhiggfmkjmeiaaGreat
