import Derived.Test.YtfhiggfmkjmeiaaGreatLNj
set_option linter.unusedVariables false
set_option linter.unusedSimpArgs false
set_option linter.unusedSectionVars false
namespace Go.Proofs.YtfhiggfmkjmeiaaGreat
open Go Go.RowKit
def lvA (s:MapS) (p:Nat):Int:=s.lives.getD p eI0
def ddA (s:MapS) (h:Int):Bool:=s.dead.getD h.toNat eT0
def spA (s:MapS) (r:Int):Int:=s.sp.getD r.toNat eI0
structure MI (s:MapS):Prop where
 ok:MapOk s
 mp:MpIn s
 live:∀ p,p < s.lives.length->(0<=lvA s p∧lvA s p < lySeen_v0 s.l + s.pages)∧ddA s (lvA s p)=false
 inj:∀ p q,p < s.lives.length->q < s.lives.length->lvA s p=lvA s q->p=q
 du:∀ h,0<=h->ddA s h=true->h < lySeen_v0 s.l + s.pages
 sb:∀ r,0<=r∧r < s.l.g.ranks->spA s r=-1 ∨ (s.l.g.ranks<=spA s r∧spA s r < s.l.g.ranks + s.rks)
 si:∀ r r',(0<=r∧r < s.l.g.ranks)->(0<=r'∧r' < s.l.g.ranks)->spA s r ≠ -1->spA s r=spA s r'->r=r'
def J1 (j:Jb) (s:MapS):Prop:=j.kind=1∧(0<=j.src∧j.src < lySeen_v0 s.l + s.pages)∧ddA s j.src=false∧(lySeen_v0 s.l<=j.goal∧j.goal < lySeen_v0 s.l + s.pages)∧ddA s j.goal=false∧j.src ≠ j.goal∧(∀ p,p < s.lives.length->lvA s p ≠ j.goal)∧(0<=j.next∧j.next<=s.l.g.cols)
def J2 (j:Jb) (s:MapS):Prop:=j.kind=2∧(0<=j.src∧j.src < s.l.g.ranks)∧spA s j.src=-1∧(s.l.g.ranks<=j.goal∧j.goal < s.l.g.ranks + s.rks)∧(∀ r,0<=r∧r < s.l.g.ranks->spA s r ≠ j.goal)∧(0<=j.next∧j.next<=s.l.g.banks * s.l.g.rows * s.l.g.cols)
def JW (j:Jb) (s:MapS):Prop:=j=⟨0,0,0,0⟩ ∨ J1 j s ∨ J2 j s
structure RW (s:RepS):Prop where
 ok:RepOk s
 mi:MI s.m
 jw:JW s.j s.m
 all:∀ h,0<=h∧h < lySeen_v0 s.m.l + s.m.pages->ddA s.m h=false->¬ (s.j.kind=1∧s.j.goal=h)->∃ p,p < s.m.lives.length∧lvA s.m p=h
structure RI (s:RepS):Prop where
 w:RW s
 lt:s.j.kind ≠ 0->s.j.next < jbCount_v0 s.j s.m.l
theorem MI.g {s:MapS} (h:MI s):s.l.g.right=true:=(ly_rt h.ok.right).1
theorem MI.pgs {s:MapS} (h:MI s):lySeen_v0 s.l + s.pages<=gpages_v0 s.l.g:=by
 have:=ly_rt h.ok.right
 have:=h.ok.pg
 omega
theorem dmx {x c k:Int} (hc:1<=c) (hk:0<=k∧k < c):(x * c + k) / c=x∧(x * c + k) % c=k:=by
 constructor
 ·rw [Int.add_comm,Int.add_mul_ediv_right _ _ (by omega),Int.ediv_eq_zero_of_lt hk.1 hk.2,Int.zero_add]
 ·rw [Int.add_comm,Int.add_mul_emod_self_right,Int.emod_eq_of_lt hk.1 hk.2]
theorem dmy {x c:Int}:x / c * c + x % c=x:=by rw [Int.add_comm,Int.mul_comm]; exact Int.emod_add_mul_ediv x c
def ordP (g:Gm) (p:Pl) (k:Int):Int:=(p.bank * g.rows + p.row) * g.cols + k
def nthP (g:Gm) (r i:Int):Pl:=⟨r,i / g.cols / g.rows,i / g.cols % g.rows,i % g.cols⟩
theorem ord_in {g:Gm} (hg:g.right=true) {p:Pl} {k:Int} (hb:0<=p.bank∧p.bank < g.banks) (hw:0<=p.row∧p.row < g.rows) (hk:0<=k∧k < g.cols):0<=ordP g p k∧ordP g p k < g.banks * g.rows * g.cols:=by
 have hr:=Gm.rt hg
 have m0:0<=p.bank * g.rows:=Int.mul_nonneg hb.1 (by omega)
 have m1:0<=(p.bank * g.rows + p.row) * g.cols:=Int.mul_nonneg (by omega) (by omega)
 have m2:p.bank * g.rows + p.row + 1<=g.banks * g.rows:=by
  have:(p.bank + 1) * g.rows<=g.banks * g.rows:=Int.mul_le_mul_of_nonneg_right (by omega) (by omega)
  rw [Int.add_mul,Int.one_mul] at this
  omega
 have m3:(p.bank * g.rows + p.row + 1) * g.cols<=g.banks * g.rows * g.cols:=Int.mul_le_mul_of_nonneg_right m2 (by omega)
 rw [Int.add_mul (p.bank * g.rows + p.row),Int.one_mul] at m3
 unfold ordP
 omega
theorem nth_ord {g:Gm} (hg:g.right=true) {p:Pl} {k r:Int} (hw:0<=p.row∧p.row < g.rows) (hk:0<=k∧k < g.cols):nthP g r (ordP g p k)=⟨r,p.bank,p.row,k⟩:=by
 have hr:=Gm.rt hg
 have h1:=dmx (x:=p.bank * g.rows + p.row) (c:=g.cols) (by omega) hk
 have h2:=dmx (x:=p.bank) (c:=g.rows) (by omega) hw
 unfold nthP ordP
 rw [h1.1,h1.2,h2.1,h2.2]
theorem ord_nth {g:Gm} (r i:Int):ordP g (nthP g r i) (i % g.cols)=i:=by
 unfold ordP nthP
 simp only
 rw [dmy,dmy]
theorem nth_in {g:Gm} (hg:g.right=true) {r i:Int} (hr:0<=r∧r < g.ranks + g.spares) (hi:0<=i∧i < g.banks * g.rows * g.cols):g.holds (nthP g r i)=true:=by
 have hx:=Gm.rt hg
 have q1:0<=i / g.cols:=Int.ediv_nonneg hi.1 (by omega)
 have q2:i / g.cols < g.banks * g.rows:=Int.ediv_lt_of_lt_mul (by omega) hi.2
 exact holds_of hg hr ⟨Int.ediv_nonneg q1 (by omega),Int.ediv_lt_of_lt_mul (by omega) q2⟩ (modB (by omega)) (modB (by omega))
theorem nth_ix {g:Gm} (hg:g.right=true) {r i:Int} (hr:0<=r∧r < g.ranks + g.spares) (hi:0<=i∧i < g.banks * g.rows * g.cols):nth_v0 g r i=(nthP g r i).ix∧nth_v1 g r i=0:=by
 have hx:=Gm.rt hg
 have m1:=mul_bd (a:=g.banks) (b:=g.rows) (A:=16) (B:=1024) (by omega) (by omega)
 have m2:=mul_bd (a:=g.banks * g.rows) (b:=g.cols) (A:=16384) (B:=64) (by omega) (by omega)
 have q1:0<=i / g.cols:=Int.ediv_nonneg hi.1 (by omega)
 have q2:i / g.cols < g.banks * g.rows:=Int.ediv_lt_of_lt_mul (by omega) hi.2
 have q3:0<=i / g.cols / g.rows:=Int.ediv_nonneg q1 (by omega)
 have q4:i / g.cols / g.rows < g.banks:=Int.ediv_lt_of_lt_mul (by omega) q2
 refine ⟨?_,nth_0 hg hr hi⟩
 unfold nth_v0
 rw [Int.tdiv_eq_ediv_of_nonneg hi.1,wrapN (x:=i / g.cols) (by omega),Int.tdiv_eq_ediv_of_nonneg q1,wrapN (x:=i / g.cols / g.rows) (by omega),Int.tmod_eq_emod_of_nonneg q1,Int.tmod_eq_emod_of_nonneg hi.1]
 unfold Gm.ix
 rw [show (⟨r,i / g.cols / g.rows,i / g.cols % g.rows,i % g.cols⟩:Pl)=nthP g r i from rfl,nth_in hg hr hi]; rfl
theorem gorder_ix {g:Gm} {p:Pl} (h:g.holds p=true):gorder_v0 g p.ix=ordP g p p.col:=by
 obtain ⟨h0,h1,h2,h3,h4⟩:=holds_t h
 have hr:=Gm.rt h0
 obtain ⟨a,b,c,d⟩:=holds_16 h
 have ha:=atB_ix h
 have m1:=mul_bd (a:=p.bank) (b:=g.rows) (A:=16) (B:=1024) (by omega) (by omega)
 have m2:=mul_bd (a:=p.bank * g.rows + p.row) (b:=g.cols) (A:=32768) (B:=64) (by omega) (by omega)
 unfold gorder_v0 Gm.atE Gm.at
 rw [ha,plOf_ix a b c d]
 simp only [cond_true,decide_true]
 rw [wrapN (x:=p.bank * g.rows) (by omega),wrapN (x:=p.bank * g.rows + p.row) (by omega),wrapN (x:=(p.bank * g.rows + p.row) * g.cols) (by omega),wrapN (by omega)]
 rfl
theorem spOf_at {s:MapS} (h:MI s) {r:Int} (hr:0<=r∧r < s.l.g.ranks):spOf s r=if spA s r=-1 then r else spA s r:=by
 have hns:=h.ok.ns
 unfold spOf mSpare_v1 mSpare_v0
 rw [rbel_of (show 0<=r∧r < ((s.sp.length:Nat):Int) by omega)]
 show (bif (bif decide (spA s r=-1) then false else true) then (bif decide (spA s r=-1) then 0 else spA s r) else r)=_
 by_cases e:spA s r=-1
 ·rw [decide_eq_true e,if_pos e]; rfl
 ·rw [decide_eq_false e,if_neg e]; rfl
theorem spare_v1 {s:MapS} (h:MI s) {r:Int} (hr:0<=r∧r < s.l.g.ranks):mSpare_v1 s r=!decide (spA s r=-1):=by
 have hns:=h.ok.ns
 unfold mSpare_v1
 rw [rbel_of (show 0<=r∧r < ((s.sp.length:Nat):Int) by omega)]
 show (bif decide (spA s r=-1) then false else true)=_
 cases decide (spA s r=-1) <;> rfl
theorem spOf_inj {s:MapS} (h:MI s) {r r':Int} (hr:0<=r∧r < s.l.g.ranks) (hr':0<=r'∧r' < s.l.g.ranks) (e:spOf s r=spOf s r'):r=r':=by
 rw [spOf_at h hr,spOf_at h hr'] at e
 have b1:=h.sb r hr
 have b2:=h.sb r' hr'
 by_cases e1:spA s r=-1
 ·rw [if_pos e1] at e
  by_cases e2:spA s r'=-1
  ·rw [if_pos e2] at e; exact e
  ·rw [if_neg e2] at e; omega
 ·rw [if_neg e1] at e
  by_cases e2:spA s r'=-1
  ·rw [if_pos e2] at e; omega
  ·rw [if_neg e2] at e; exact h.si r r' hr hr' e1 e
theorem plx {p q:Pl} (hp:p.col=0) (hq:q.col=0) (h1:p.rank=q.rank) (h2:p.bank=q.bank) (h3:p.row=q.row):p=q:=by
 obtain ⟨a,b,c,d⟩:=p
 obtain ⟨a',b',c',d'⟩:=q
 simp only at hp hq h1 h2 h3
 subst h1; subst h2; subst h3; subst hp; subst hq; rfl
theorem lnPl_inj {s:MapS} (h:MI s) {a b k k':Int} (ha:0<=a∧a < gpages_v0 s.l.g) (hb:0<=b∧b < gpages_v0 s.l.g) (e:lnPl s a k=lnPl s b k'):a=b∧k=k':=by
 unfold lnPl at e
 simp only [Pl.mk.injEq] at e
 have i1:=pg_in h.g s.l.way a
 have i2:=pg_in h.g s.l.way b
 have hr:=spOf_inj h i1.1 i2.1 e.1
 exact ⟨pgPl_inj h.g ha hb (plx i1.2.2.2 i2.2.2.2 hr e.2.1 e.2.2.1),e.2.2.2⟩
def hpl (s:RepS) (h k:Int):Pl :=
 if s.j.kind=1∧h=s.j.src∧k < s.j.next then lnPl s.m s.j.goal k
 else if s.j.kind=2∧(pgPl s.m.l.g s.m.l.way h).rank=s.j.src∧ordP s.m.l.g (pgPl s.m.l.g s.m.l.way h) k < s.j.next then ⟨s.j.goal,(pgPl s.m.l.g s.m.l.way h).bank,(pgPl s.m.l.g s.m.l.way h).row,k⟩
 else lnPl s.m h k
theorem hpl_0 {s:RepS} (hk:s.j.kind=0) (h k:Int):hpl s h k=lnPl s.m h k:=by
 unfold hpl; rw [if_neg (by omega),if_neg (by omega)]
theorem hpl_1 {s:RepS} (hk:s.j.kind=1) (h k:Int):hpl s h k=if h=s.j.src∧k < s.j.next then lnPl s.m s.j.goal k else lnPl s.m h k:=by
 unfold hpl
 by_cases e:h=s.j.src∧k < s.j.next
 ·rw [if_pos ⟨hk,e⟩,if_pos e]
 ·rw [if_neg (fun x=>e x.2),if_neg (by omega),if_neg e]
theorem hpl_2 {s:RepS} (hk:s.j.kind=2) (h k:Int):hpl s h k=if (pgPl s.m.l.g s.m.l.way h).rank=s.j.src∧ordP s.m.l.g (pgPl s.m.l.g s.m.l.way h) k < s.j.next then ⟨s.j.goal,(pgPl s.m.l.g s.m.l.way h).bank,(pgPl s.m.l.g s.m.l.way h).row,k⟩ else lnPl s.m h k:=by
 unfold hpl
 rw [if_neg (by omega)]
 by_cases e:(pgPl s.m.l.g s.m.l.way h).rank=s.j.src∧ordP s.m.l.g (pgPl s.m.l.g s.m.l.way h) k < s.j.next
 ·rw [if_pos ⟨hk,e⟩,if_pos e]
 ·rw [if_neg (fun x=>e x.2),if_neg e]
theorem hpl_col (s:RepS) (h k:Int):(hpl s h k).col=k:=by
 unfold hpl
 split
 ·rfl
 ·split <;> rfl
theorem goal_no {s:RepS} (h:MI s.m) (j:J2 s.j s.m) {r:Int} (hr:0<=r∧r < s.m.l.g.ranks):spOf s.m r ≠ s.j.goal:=by
 obtain ⟨_,_,_,g1,g2,_⟩:=j
 rw [spOf_at h hr]
 by_cases e:spA s.m r=-1
 ·rw [if_pos e]; omega
 ·rw [if_neg e]; exact g2 r hr
theorem hpl_inj {s:RepS} (w:RW s) {p q:Nat} {k k':Int} (hp:p < s.m.lives.length) (hq:q < s.m.lives.length) (e:hpl s (lvA s.m p) k=hpl s (lvA s.m q) k'):p=q∧k=k':=by
 have hk:k=k':=by rw [← hpl_col s (lvA s.m p) k,e,hpl_col]
 subst hk
 refine ⟨?_,rfl⟩
 have mi:=w.mi
 have hpg:=mi.pgs
 have l1:=(mi.live p hp).1
 have l2:=(mi.live q hq).1
 have hx:0<=lvA s.m p∧lvA s.m p < gpages_v0 s.m.l.g:=by omega
 have hy:0<=lvA s.m q∧lvA s.m q < gpages_v0 s.m.l.g:=by omega
 have i1:=pg_in mi.g s.m.l.way (lvA s.m p)
 have i2:=pg_in mi.g s.m.l.way (lvA s.m q)
 refine mi.inj p q hp hq ?_
 rcases w.jw with j | j | j
 ·rw [hpl_0 (by rw [j]),hpl_0 (by rw [j])] at e
  exact (lnPl_inj mi hx hy e).1
 ·have hgo:0<=s.j.goal∧s.j.goal < gpages_v0 s.m.l.g:=by have:=j.2.2.2.1; have:=ly_rt mi.ok.right; omega
  have hno:=j.2.2.2.2.2.2.1
  rw [hpl_1 j.1,hpl_1 j.1] at e
  by_cases e1:lvA s.m p=s.j.src∧k < s.j.next
  ·rw [if_pos e1] at e
   by_cases e2:lvA s.m q=s.j.src∧k < s.j.next
   ·rw [e1.1,e2.1]
   ·rw [if_neg e2] at e
    exact absurd (lnPl_inj mi hgo hy e).1.symm (hno q hq)
  ·rw [if_neg e1] at e
   by_cases e2:lvA s.m q=s.j.src∧k < s.j.next
   ·rw [if_pos e2] at e
    exact absurd (lnPl_inj mi hx hgo e).1 (hno p hp)
   ·rw [if_neg e2] at e
    exact (lnPl_inj mi hx hy e).1
 ·have hno:=fun r hr=>goal_no mi j (r:=r) hr
  rw [hpl_2 j.1,hpl_2 j.1] at e
  by_cases e1:(pgPl s.m.l.g s.m.l.way (lvA s.m p)).rank=s.j.src∧ordP s.m.l.g (pgPl s.m.l.g s.m.l.way (lvA s.m p)) k < s.j.next
  ·rw [if_pos e1] at e
   by_cases e2:(pgPl s.m.l.g s.m.l.way (lvA s.m q)).rank=s.j.src∧ordP s.m.l.g (pgPl s.m.l.g s.m.l.way (lvA s.m q)) k < s.j.next
   ·rw [if_pos e2] at e
    simp only [Pl.mk.injEq] at e
    exact pgPl_inj mi.g hx hy (plx i1.2.2.2 i2.2.2.2 (e1.1.trans e2.1.symm) e.2.1 e.2.2.1)
   ·rw [if_neg e2] at e
    unfold lnPl at e
    simp only [Pl.mk.injEq] at e
    exact absurd e.1.symm (hno _ i2.1)
  ·rw [if_neg e1] at e
   by_cases e2:(pgPl s.m.l.g s.m.l.way (lvA s.m q)).rank=s.j.src∧ordP s.m.l.g (pgPl s.m.l.g s.m.l.way (lvA s.m q)) k < s.j.next
   ·rw [if_pos e2] at e
    unfold lnPl at e
    simp only [Pl.mk.injEq] at e
    exact absurd e.1 (hno _ i1.1)
   ·rw [if_neg e2] at e
    exact (lnPl_inj mi hx hy e).1
def frP (s:RepS):Pl:=if s.j.kind=1 then lnPl s.m s.j.src s.j.next else nthP s.m.l.g s.j.src s.j.next
def toP (s:RepS):Pl:=if s.j.kind=1 then lnPl s.m s.j.goal s.j.next else nthP s.m.l.g s.j.goal s.j.next
def nx (s:RepS):RepS:={ s with j:={ s.j with next:=s.j.next + 1 } }
theorem fr_1 {s:RepS} (hk:s.j.kind=1):frP s=lnPl s.m s.j.src s.j.next∧toP s=lnPl s.m s.j.goal s.j.next:=by unfold frP toP; rw [if_pos hk,if_pos hk]; exact ⟨rfl,rfl⟩
theorem fr_2 {s:RepS} (hk:s.j.kind=2):frP s=nthP s.m.l.g s.j.src s.j.next∧toP s=nthP s.m.l.g s.j.goal s.j.next:=by unfold frP toP; rw [if_neg (by omega),if_neg (by omega)]; exact ⟨rfl,rfl⟩
theorem fr_iff {s:RepS} (w:RW s) (hk:s.j.kind=2) {h k:Int} (hc:0<=k∧k < s.m.l.g.cols):hpl s h k=frP s ↔ (pgPl s.m.l.g s.m.l.way h).rank=s.j.src∧ordP s.m.l.g (pgPl s.m.l.g s.m.l.way h) k=s.j.next:=by
 have mi:=w.mi
 have i1:=pg_in mi.g s.m.l.way h
 have j:J2 s.j s.m:=by
  rcases w.jw with j | j | j
  ·rw [j] at hk; cases hk
  ·have:=j.1; omega
  ·exact j
 have hsp:spOf s.m s.j.src=s.j.src:=by rw [spOf_at mi j.2.1,if_pos j.2.2.1]
 rw [hpl_2 hk,(fr_2 hk).1]
 constructor
 ·intro e
  by_cases e1:(pgPl s.m.l.g s.m.l.way h).rank=s.j.src∧ordP s.m.l.g (pgPl s.m.l.g s.m.l.way h) k < s.j.next
  ·rw [if_pos e1] at e
   unfold nthP at e
   simp only [Pl.mk.injEq] at e
   have:=j.2.1
   have:=j.2.2.2.1
   omega
  ·rw [if_neg e1] at e
   have e2:=e
   unfold lnPl nthP at e
   simp only [Pl.mk.injEq] at e
   have hr:(pgPl s.m.l.g s.m.l.way h).rank=s.j.src:=spOf_inj mi i1.1 j.2.1 (by rw [hsp]; exact e.1)
   refine ⟨hr,?_⟩
   rw [← ord_nth (g:=s.m.l.g) s.j.src s.j.next]
   unfold ordP nthP
   simp only
   rw [e.2.1,e.2.2.1,e.2.2.2]
 ·rintro ⟨h1,h2⟩
  rw [if_neg (by omega),← h2,nth_ord mi.g i1.2.2.1 hc]
  unfold lnPl
  rw [h1,hsp]
open Classical in
theorem hpl_nx {s:RepS} (w:RW s) (hb:s.j.kind ≠ 0) (hlt:s.j.next < jbCount_v0 s.j s.m.l) {p:Nat} (hp:p < s.m.lives.length) {k:Int} (hc:0<=k∧k < s.m.l.g.cols) :
    (hpl (nx s) (lvA s.m p) k=if hpl s (lvA s.m p) k=frP s then toP s else hpl s (lvA s.m p) k)∧hpl s (lvA s.m p) k ≠ toP s:=by
 have mi:=w.mi
 have hpg:=mi.pgs
 have l1:=(mi.live p hp).1
 have hx:0<=lvA s.m p∧lvA s.m p < gpages_v0 s.m.l.g:=by omega
 have i1:=pg_in mi.g s.m.l.way (lvA s.m p)
 rcases w.jw with j | j | j
 ·exact absurd (by rw [j]) hb
 ·have hgo:0<=s.j.goal∧s.j.goal < gpages_v0 s.m.l.g:=by have:=j.2.2.2.1; have:=ly_rt mi.ok.right; omega
  have hsr:0<=s.j.src∧s.j.src < gpages_v0 s.m.l.g:=by have:=j.2.1; omega
  have hno:=j.2.2.2.2.2.2.1
  have hk1:(nx s).j.kind=1:=j.1
  obtain ⟨f1,f2⟩:=fr_1 j.1
  have hA:=hpl_1 j.1 (lvA s.m p) k
  have hB:hpl (nx s) (lvA s.m p) k=if lvA s.m p=s.j.src∧k < s.j.next + 1 then lnPl s.m s.j.goal k else lnPl s.m (lvA s.m p) k:=hpl_1 hk1 _ _
  rw [f1,f2]
  by_cases e1:lvA s.m p=s.j.src
  ·rcases Int.lt_trichotomy k s.j.next with h | h | h
   ·rw [if_pos (And.intro e1 h)] at hA
    rw [if_pos (And.intro e1 (show k < s.j.next + 1 by omega))] at hB
    rw [hA,hB,if_neg (fun e=>by have:=(lnPl_inj mi hgo hsr e).2; omega)]
    exact ⟨rfl,fun e=>by have:=(lnPl_inj mi hgo hgo e).2; omega⟩
   ·subst h
    rw [if_neg (show ¬ (lvA s.m p=s.j.src∧s.j.next < s.j.next) by omega)] at hA
    rw [if_pos (And.intro e1 (show s.j.next < s.j.next + 1 by omega))] at hB
    rw [hA,hB,e1,if_pos rfl]
    exact ⟨rfl,fun e=>j.2.2.2.2.2.1 (lnPl_inj mi hsr hgo e).1⟩
   ·rw [if_neg (show ¬ (lvA s.m p=s.j.src∧k < s.j.next) by omega)] at hA
    rw [if_neg (show ¬ (lvA s.m p=s.j.src∧k < s.j.next + 1) by omega)] at hB
    rw [hA,hB,if_neg (fun e=>by have:=(lnPl_inj mi hx hsr e).2; omega)]
    exact ⟨rfl,fun e=>by have:=(lnPl_inj mi hx hgo e).2; omega⟩
  ·rw [if_neg (show ¬ (lvA s.m p=s.j.src∧k < s.j.next) from fun x=>e1 x.1)] at hA
   rw [if_neg (show ¬ (lvA s.m p=s.j.src∧k < s.j.next + 1) from fun x=>e1 x.1)] at hB
   rw [hA,hB,if_neg (fun e=>e1 (lnPl_inj mi hx hsr e).1)]
   exact ⟨rfl,fun e=>hno p hp (lnPl_inj mi hx hgo e).1⟩
 ·have hno:=fun r hr=>goal_no mi j (r:=r) hr
  have hk2:(nx s).j.kind=2:=j.1
  have hif:=fr_iff w j.1 (h:=lvA s.m p) hc
  have hord:=ord_in mi.g (p:=pgPl s.m.l.g s.m.l.way (lvA s.m p)) i1.2.1 i1.2.2.1 hc
  have h2:hpl s (lvA s.m p) k ≠ toP s:=fun e=>by
   rw [(fr_2 j.1).2,hpl_2 j.1] at e
   by_cases e1:(pgPl s.m.l.g s.m.l.way (lvA s.m p)).rank=s.j.src∧ordP s.m.l.g (pgPl s.m.l.g s.m.l.way (lvA s.m p)) k < s.j.next
   ·rw [if_pos e1] at e
    have e2:=e
    rw [← nth_ord mi.g (r:=s.j.goal) i1.2.2.1 hc] at e2
    have e3:ordP s.m.l.g (pgPl s.m.l.g s.m.l.way (lvA s.m p)) k=s.j.next:=by
     rw [← ord_nth (g:=s.m.l.g) s.j.goal s.j.next]
     unfold nthP at e
     simp only [Pl.mk.injEq] at e
     unfold ordP nthP
     simp only
     rw [e.2.1,e.2.2.1,e.2.2.2]
    omega
   ·rw [if_neg e1] at e
    unfold lnPl nthP at e
    simp only [Pl.mk.injEq] at e
    exact hno _ i1.1 e.1
  refine ⟨?_,h2⟩
  by_cases e:hpl s (lvA s.m p) k=frP s
  ·rw [if_pos e]
   obtain ⟨h3,h4⟩:=hif.1 e
   rw [hpl_2 hk2,(fr_2 j.1).2]
   show (if (pgPl s.m.l.g s.m.l.way (lvA s.m p)).rank=s.j.src∧ordP s.m.l.g (pgPl s.m.l.g s.m.l.way (lvA s.m p)) k < s.j.next + 1 then _ else _)=_
   rw [if_pos ⟨h3,by omega⟩]
   rw [← h4,nth_ord mi.g i1.2.2.1 hc]; rfl
  ·rw [if_neg e,hpl_2 hk2,hpl_2 j.1]
   show (if (pgPl s.m.l.g s.m.l.way (lvA s.m p)).rank=s.j.src∧ordP s.m.l.g (pgPl s.m.l.g s.m.l.way (lvA s.m p)) k < s.j.next + 1 then _ else _)=_
   by_cases e1:(pgPl s.m.l.g s.m.l.way (lvA s.m p)).rank=s.j.src∧ordP s.m.l.g (pgPl s.m.l.g s.m.l.way (lvA s.m p)) k < s.j.next
   ·rw [if_pos ⟨e1.1,by omega⟩,if_pos e1]; rfl
   ·rw [if_neg (fun x=>e1 ⟨x.1,by have:ordP s.m.l.g (pgPl s.m.l.g s.m.l.way (lvA s.m p)) k ≠ s.j.next:=fun y=>e (hif.2 ⟨x.1,y⟩); omega⟩),if_neg e1]; rfl
theorem retL_at {h t:Int} {l:List Int}:∀ n i,n<=l.length->(retL h t l n).getD i eI0=if i < n∧l.getD i eI0=h then t else l.getD i eI0
 | 0,i,_=>by rw [if_neg (by omega)]; rfl
 | n + 1, i, hn => by
   have ih:=retL_at (h:=h) (t:=t) (l:=l) n
   have hlen:(retL h t l n).length=l.length:=retL_len ..
   rw [retL,ih n (by omega),if_neg (by omega)]
   cases q:decide (l.getD n eI0=h) with
   | false =>
     have q:=of_decide_eq_false q
     rw [cond_false,ih i (by omega)]
     by_cases e:i=n
     ·subst e; rw [if_neg (by omega),if_neg (fun x=>q x.2)]
     ·by_cases e2:i < n∧l.getD i eI0=h
      ·rw [if_pos e2,if_pos ⟨by omega,e2.2⟩]
      ·rw [if_neg e2,if_neg (fun x=>e2 ⟨by omega,x.2⟩)]
   | true =>
     have q:=of_decide_eq_true q
     rw [cond_true,List.getD_eq_getElem?_getD,List.getElem?_set,hlen]
     by_cases e:n=i
     ·subst e
      rw [if_pos rfl,if_pos (by omega),if_pos ⟨by omega,q⟩]; rfl
     ·rw [if_neg e,← List.getD_eq_getElem?_getD,ih i (by omega)]
      by_cases e2:i < n∧l.getD i eI0=h
      ·rw [if_pos e2,if_pos ⟨by omega,e2.2⟩]
      ·rw [if_neg e2,if_neg (fun x=>e2 ⟨by omega,x.2⟩)]
theorem setD {α:Type} (l:List α) (i j:Nat) (a d:α):(l.set i a).getD j d=if i=j∧i < l.length then a else l.getD j d:=by
 rw [List.getD_eq_getElem?_getD,List.getD_eq_getElem?_getD,List.getElem?_set]
 by_cases h:i=j
 ·subst h
  by_cases h2:i < l.length
  ·rw [if_pos rfl,if_pos h2,if_pos ⟨rfl,h2⟩]; rfl
  ·rw [if_pos rfl,if_neg h2,if_neg (fun x=>h2 x.2),List.getElem?_eq_none (by omega)]
 ·rw [if_neg h,if_neg (fun x=>h x.1)]
theorem fin1_1 {s:RepS} (w:RW s) (j:J1 s.j s.m):fin1 s={ s with m:={ s.m with lives:=retL s.j.src s.j.goal s.m.lives s.m.lives.length,dead:=s.m.dead.set s.j.src.toNat true },j:=⟨0,0,0,0⟩ }:=by
 have mi:=w.mi
 have hpg:=mi.pgs
 have hl:=ly_rt mi.ok.right
 have hp:=mi.ok.pg
 have hnd:=mi.ok.nd
 obtain ⟨h1,h2,h3,h4,h5,h6,h7,h8⟩:=j
 unfold fin1
 rw [decide_eq_true h1,cond_true]
 unfold mRetire_s
 rw [rbel_of (show 0<=s.j.src∧s.j.src < ((s.m.dead.length:Nat):Int) by omega),wrap_ok (x:=s.j.goal - lySeen_v0 s.m.l) (by omega) (by omega),rbel_of (show 0<=s.j.goal - lySeen_v0 s.m.l∧s.j.goal - lySeen_v0 s.m.l < s.m.pages by omega)]
 rw [show s.m.dead.getD s.j.src.toNat eT0=false from h3,show s.m.dead.getD s.j.goal.toNat eT0=false from h5,decide_eq_false h6]; rfl
theorem fin1_2 {s:RepS} (w:RW s) (j:J2 s.j s.m):fin1 s={ s with m:={ s.m with sp:=s.m.sp.set s.j.src.toNat s.j.goal },j:=⟨0,0,0,0⟩ }:=by
 have mi:=w.mi
 have hg:=Gm.rt mi.g
 have hp:=mi.ok.rk
 have hns:=mi.ok.ns
 obtain ⟨h1,h2,h3,h4,h5,h6⟩:=j
 unfold fin1
 rw [decide_eq_false (show ¬ s.j.kind=1 by omega),cond_false]
 unfold mReplace_s
 rw [rbel_of (show 0<=s.j.src∧s.j.src < ((s.m.sp.length:Nat):Int) by omega),wrap_ok (x:=s.j.goal - s.m.l.g.ranks) (by omega) (by omega),rbel_of (show 0<=s.j.goal - s.m.l.g.ranks∧s.j.goal - s.m.l.g.ranks < s.m.rks by omega)]
 rw [show s.m.sp.getD s.j.src.toNat eI0=-1 from h3,decide_eq_true rfl]; rfl
theorem fin1_w {s:RepS} (w:RW s) (hb:s.j.kind ≠ 0):RW (fin1 s)∧(fin1 s).j=⟨0,0,0,0⟩∧(fin1 s).m.l=s.m.l∧(fin1 s).m.lives.length=s.m.lives.length ∧
   (s.j.next=jbCount_v0 s.j s.m.l->∀ p k,p < s.m.lives.length->(0<=k∧k < s.m.l.g.cols)->hpl (fin1 s) (lvA (fin1 s).m p) k=hpl s (lvA s.m p) k):=by
 have mi:=w.mi
 have hpg:=mi.pgs
 have hl:=ly_rt mi.ok.right
 have hok:=fin1_ok w.ok
 have hmp:=fin1_lv w.ok mi.mp
 rcases w.jw with j | j | j
 ·exact absurd (by rw [j]) hb
 ·have e:=fin1_1 w j
  have hlen:(fin1 s).m.lives.length=s.m.lives.length:=by rw [e]; exact retL_len ..
  obtain ⟨h1,h2,h3,h4,h5,h6,h7,h8⟩:=j
  have hlv:∀ p,p < s.m.lives.length->lvA (fin1 s).m p=if lvA s.m p=s.j.src then s.j.goal else lvA s.m p:=fun p hp=>by
   rw [e]
   show (retL s.j.src s.j.goal s.m.lives s.m.lives.length).getD p eI0=_
   rw [retL_at _ _ (Nat.le_refl _)]
   by_cases q:lvA s.m p=s.j.src
   ·rw [if_pos q,if_pos ⟨hp,q⟩]
   ·rw [if_neg q,if_neg (fun x=>q x.2)]; rfl
  have hdd:∀ h,0<=h->ddA (fin1 s).m h=if h=s.j.src then true else ddA s.m h:=fun h hh=>by
   rw [e]
   show (s.m.dead.set s.j.src.toNat true).getD h.toNat eT0=_
   have hnd:=mi.ok.nd
   rw [setD]
   by_cases q:h=s.j.src
   ·rw [if_pos q,if_pos ⟨by rw [q],by omega⟩]
   ·rw [if_neg q,if_neg (fun x=>q (by omega))]; rfl
  have hpl':(fin1 s).m.pages=s.m.pages∧(fin1 s).m.rks=s.m.rks∧(fin1 s).m.sp=s.m.sp∧(fin1 s).m.l=s.m.l∧(fin1 s).j=⟨0,0,0,0⟩:=by rw [e]; exact ⟨rfl,rfl,rfl,rfl,rfl⟩
  obtain ⟨p1,p2,p3,p4,p5⟩:=hpl'
  have hsp:∀ r,spA (fin1 s).m r=spA s.m r:=fun r=>by unfold spA; rw [p3]
  refine ⟨⟨hok,⟨hok.m,hmp,fun p hp=>?_,fun p q hp hq x=>?_,fun h h0 hd=>?_,fun r hr=>?_,fun r r' hr hr'=>?_⟩,Or.inl p5,fun h hh hd _=>?_⟩,p5,p4,hlen,fun hn p k hp hk=>?_⟩
  ·rw [hlen] at hp
   rw [hlv p hp,p4,p1]
   have hv:=mi.live p hp
   by_cases q:lvA s.m p=s.j.src
   ·rw [if_pos q,hdd _ (by omega),if_neg (fun x=>h6 x.symm)]; exact ⟨by omega,h5⟩
   ·rw [if_neg q,hdd _ (by omega),if_neg q]; exact hv
  ·rw [hlen] at hp hq
   rw [hlv p hp,hlv q hq] at x
   refine mi.inj p q hp hq ?_
   by_cases a:lvA s.m p=s.j.src <;> by_cases b:lvA s.m q=s.j.src
   ·rw [a,b]
   ·rw [if_pos a,if_neg b] at x; exact absurd x.symm (h7 q hq)
   ·rw [if_neg a,if_pos b] at x; exact absurd x (h7 p hp)
   ·rw [if_neg a,if_neg b] at x; exact x
  ·rw [p4,p1]
   rw [hdd h h0] at hd
   by_cases q:h=s.j.src
   ·omega
   ·rw [if_neg q] at hd; exact mi.du h h0 hd
  ·rw [p4] at hr; rw [hsp,p4,p2]; exact mi.sb r hr
  ·rw [p4] at hr hr'; rw [hsp,hsp]; exact mi.si r r' hr hr'
  ·rw [p4,p1] at hh
   rw [hdd h hh.1] at hd
   by_cases q:h=s.j.src
   ·rw [if_pos q] at hd; cases hd
   ·rw [if_neg q] at hd
    by_cases q2:h=s.j.goal
    ·obtain ⟨p,hp,he⟩:=w.all s.j.src h2 h3 (fun x=>h6 x.2.symm)
     exact ⟨p,by rw [hlen]; exact hp,by rw [hlv p hp,if_pos he]; exact q2.symm⟩
    ·obtain ⟨p,hp,he⟩:=w.all h hh hd (fun x=>q2 x.2.symm)
     exact ⟨p,by rw [hlen]; exact hp,by rw [hlv p hp,if_neg (by rw [he]; exact q)]; exact he⟩
  ·have hln:∀ h k,lnPl (fin1 s).m h k=lnPl s.m h k:=fun h k=>by
    unfold lnPl spOf mSpare_v1 mSpare_v0; rw [p3,p4]
   have hc:jbCount_v0 s.j s.m.l=s.m.l.g.cols:=by unfold jbCount_v0; rw [decide_eq_true h1]; rfl
   rw [hpl_0 (by rw [p5]),hln,hpl_1 h1,hlv p hp]
   by_cases q:lvA s.m p=s.j.src
   ·rw [if_pos q,if_pos ⟨q,by omega⟩]
   ·rw [if_neg q,if_neg (fun x=>q x.1)]
 ·have e:=fin1_2 w j
  have hj:=j
  obtain ⟨h1,h2,h3,h4,h5,h6⟩:=j
  have hg:=Gm.rt mi.g
  have hpl':(fin1 s).m.pages=s.m.pages∧(fin1 s).m.rks=s.m.rks∧(fin1 s).m.lives=s.m.lives∧(fin1 s).m.dead=s.m.dead∧(fin1 s).m.l=s.m.l∧(fin1 s).j=⟨0,0,0,0⟩:=by rw [e]; exact ⟨rfl,rfl,rfl,rfl,rfl,rfl⟩
  obtain ⟨p1,p2,p3,p3',p4,p5⟩:=hpl'
  have hlen:(fin1 s).m.lives.length=s.m.lives.length:=by rw [p3]
  have hlv:∀ p,lvA (fin1 s).m p=lvA s.m p:=fun p=>by unfold lvA; rw [p3]
  have hdd:∀ h,ddA (fin1 s).m h=ddA s.m h:=fun h=>by unfold ddA; rw [p3']
  have hsp:∀ r,0<=r->spA (fin1 s).m r=if r=s.j.src then s.j.goal else spA s.m r:=fun r hr=>by
   rw [e]
   show (s.m.sp.set s.j.src.toNat s.j.goal).getD r.toNat eI0=_
   have hns:=mi.ok.ns
   rw [setD]
   by_cases q:r=s.j.src
   ·rw [if_pos q,if_pos ⟨by rw [q],by omega⟩]
   ·rw [if_neg q,if_neg (fun x=>q (by omega))]; rfl
  have hmi:MI (fin1 s).m:=by
   refine ⟨hok.m,hmp,fun p hp=>?_,fun p q hp hq x=>?_,fun h h0 hd=>?_,fun r hr=>?_,fun r r' hr hr' n1 n2=>?_⟩
   ·rw [hlen] at hp; rw [hlv,hdd,p4,p1]; exact mi.live p hp
   ·rw [hlen] at hp hq; rw [hlv,hlv] at x; exact mi.inj p q hp hq x
   ·rw [hdd] at hd; rw [p4,p1]; exact mi.du h h0 hd
   ·rw [p4] at hr; rw [hsp r hr.1,p4,p2]
    by_cases q:r=s.j.src
    ·rw [if_pos q]; exact Or.inr h4
    ·rw [if_neg q]; exact mi.sb r hr
   ·rw [p4] at hr hr'
    rw [hsp r hr.1] at n1 n2
    rw [hsp r' hr'.1] at n2
    by_cases a:r=s.j.src <;> by_cases b:r'=s.j.src
    ·rw [a,b]
    ·rw [if_pos a,if_neg b] at n2; exact absurd n2.symm (h5 r' hr')
    ·rw [if_neg a,if_pos b] at n2; exact absurd n2 (h5 r hr)
    ·rw [if_neg a,if_neg b] at n2; rw [if_neg a] at n1; exact mi.si r r' hr hr' n1 n2
  refine ⟨⟨hok,hmi,Or.inl p5,fun h hh hd _=>?_⟩,p5,p4,hlen,fun hn p k hp hk=>?_⟩
  ·rw [p4,p1] at hh
   rw [hdd] at hd
   obtain ⟨p,hp,he⟩:=w.all h hh hd (fun x=>by omega)
   exact ⟨p,by rw [hlen]; exact hp,by rw [hlv]; exact he⟩
  ·have l1:=(mi.live p hp).1
   have i1:=pg_in mi.g s.m.l.way (lvA s.m p)
   have hord:=ord_in mi.g (p:=pgPl s.m.l.g s.m.l.way (lvA s.m p)) i1.2.1 i1.2.2.1 hk
   have hc:jbCount_v0 s.j s.m.l=s.m.l.g.banks * s.m.l.g.rows * s.m.l.g.cols:=by
    have:=(cnt_b (j:=s.j) (l:=s.m.l) mi.g).2.2
    unfold jbCount_v0; rw [decide_eq_false (show ¬ s.j.kind=1 by omega),decide_eq_true h1]; exact this
   rw [hpl_0 (by rw [p5]),hpl_2 h1,hlv]
   unfold lnPl
   rw [p4,spOf_at hmi (by rw [p4]; exact i1.1),hsp _ i1.1.1,spOf_at mi i1.1]
   by_cases q:(pgPl s.m.l.g s.m.l.way (lvA s.m p)).rank=s.j.src
   ·rw [if_pos q,if_neg (show ¬ s.j.goal=-1 by omega),if_pos (show _∧_ from ⟨q,by omega⟩)]
   ·rw [if_neg q,if_neg (show ¬ (_∧_) from fun x=>q x.1)]
theorem void_f {s:RepS} {a:Ak} (mi:MI s.m) (h:rpVoid_v0 s a=false):(a.kind=1∧(0<=a.which∧a.which < gpages_v0 s.m.l.g)∧ddA s.m a.which=false∧(mFreePage_v1 s.m=true->a.which < mFreePage_v0 s.m)) ∨ (a.kind=2∧(0<=a.which∧a.which < s.m.l.g.ranks)∧spA s.m a.which=-1):=by
 unfold rpVoid_v0 at h
 cases q1:decide (a.kind=1) with
 | true =>
   rw [q1,cond_true] at h
   left
   refine ⟨of_decide_eq_true q1,?_⟩
   cases q2:decide (a.which < 0) with
   | true=>rw [q2] at h; cases h
   | false =>
     rw [q2,cond_false] at h
     cases q3:decide (gpages_v0 s.m.l.g<=a.which) with
     | true=>rw [q3] at h; cases h
     | false =>
       rw [q3,cond_false] at h
       have q2:=of_decide_eq_false q2
       have q3:=of_decide_eq_false q3
       have hnd:=mi.ok.nd
       cases q4:mDead_v0 s.m a.which with
       | true=>rw [q4] at h; cases h
       | false =>
         rw [q4,cond_false] at h
         unfold mDead_v0 at q4
         rw [rbel_of (show 0<=a.which∧a.which < ((s.m.dead.length:Nat):Int) by omega),cond_true] at q4
         refine ⟨by omega,q4,fun hf=>?_⟩
         rw [hf,cond_true] at h
         cases q5:decide (mFreePage_v0 s.m<=a.which) with
         | true=>rw [q5] at h; cases h
         | false=>have:=of_decide_eq_false q5; omega
 | false =>
   rw [q1,cond_false] at h
   cases q2:decide (a.kind=2) with
   | false=>rw [q2] at h; cases h
   | true =>
     rw [q2,cond_true] at h
     right
     refine ⟨of_decide_eq_true q2,?_⟩
     cases q3:mSpare_v1 s.m a.which with
     | true=>rw [q3] at h; cases h
     | false =>
       rw [q3,cond_false] at h
       cases q4:decide (a.which < 0) with
       | true=>rw [q4] at h; cases h
       | false =>
         rw [q4,cond_false] at h
         cases q5:decide (s.m.l.g.ranks<=a.which) with
         | true=>rw [q5] at h; cases h
         | false =>
           have q4:=of_decide_eq_false q4
           have q5:=of_decide_eq_false q5
           have hr:0<=a.which∧a.which < s.m.l.g.ranks:=by omega
           refine ⟨hr,?_⟩
           rw [spare_v1 mi hr] at q3
           by_cases e:spA s.m a.which=-1
           ·exact e
           ·rw [decide_eq_false e] at q3; cases q3
theorem start_w {s:RepS} {a:Ak} (w:RW s) (h0:s.j=⟨0,0,0,0⟩) (hv:rpVoid_v0 s a=false):RI (rpStart_s s a)∧LvS s.m (rpStart_s s a).m∧((rpStart_s s a).j.kind ≠ 0->(rpStart_s s a).j.next=0):=by
 have mi:=w.mi
 have hl:=ly_rt mi.ok.right
 have hg:=Gm.rt mi.g
 have hpg:=mi.ok.pg
 have hrk:=mi.ok.rk
 have hlv:=rpStart_lv s a
 have hok:RepOk (rpStart_s s a):=rpStart_ok w.ok
 have hall:∀ h,0<=h∧h < lySeen_v0 s.m.l + s.m.pages->ddA s.m h=false->∃ p,p < s.m.lives.length∧lvA s.m p=h:=fun h hh hd=>w.all h hh hd (fun x=>by rw [h0] at x; exact absurd x.1 (by decide))
 refine ⟨?_,hlv,?_⟩
 rcases void_f mi hv with ⟨k1,k2,k3,k4⟩ | ⟨k1,k2,k3⟩
 ·-- a page
  have es:rpStart_s s a=bif decide ((((mTakePage_v1 s.m):Nat):Int)=0) then (⟨mTakePage_s s.m,⟨a.kind,a.which,mTakePage_v0 s.m,0⟩,s.q⟩:RepS) else { s with m:=mTakePage_s s.m }:=by
   unfold rpStart_s; rw [decide_eq_false (show ¬ a.kind=2 by omega)]; rfl
  unfold mTakePage_v1 mTakePage_v0 mTakePage_s at es
  cases hf:mFreePage_v1 s.m with
  | false =>
    rw [hf] at es
    have es:rpStart_s s a=s:=es
    rw [es]
    exact ⟨w,fun x=>absurd (by rw [h0]) x⟩
  | true =>
    rw [hf] at es
    have hne:s.m.pages ≠ s.m.l.res:=fun e=>by unfold mFreePage_v1 at hf; rw [decide_eq_true e] at hf; cases hf
    have hfp:mFreePage_v0 s.m=lySeen_v0 s.m.l + s.m.pages:=by
     unfold mFreePage_v0; rw [decide_eq_false hne,cond_false]; exact wrapN (by omega)
    have k4:=k4 hf
    rw [hfp] at k4
    have es:rpStart_s s a=(⟨{ s.m with pages:=IntKind.i64.wrap (s.m.pages + 1) },⟨a.kind,a.which,mFreePage_v0 s.m,0⟩,s.q⟩:RepS):=es
    rw [hfp,wrapN (x:=s.m.pages + 1) (by omega)] at es
    rw [es] at hok hlv ⊢
    refine ⟨⟨hok,⟨hok.m,mi.mp.same hlv,fun p hp=>?_,mi.inj,fun h h1 h2=>?_,mi.sb,mi.si⟩,Or.inr (Or.inl ⟨k1,?_,k3,?_,?_,?_,fun p hp=>?_,⟨Int.le_refl _,by show (0:Int)<=s.m.l.g.cols; omega⟩⟩),fun h hh hd hn=>?_⟩,fun _=>?_⟩
    ·have:=mi.live p hp
     refine ⟨⟨this.1.1,?_⟩,this.2⟩
     have h9:=this.1.2
     show lvA s.m p < lySeen_v0 s.m.l + (s.m.pages + 1)
     omega
    ·have:=mi.du h h1 h2
     show h < lySeen_v0 s.m.l + (s.m.pages + 1)
     omega
    ·show 0<=a.which∧a.which < lySeen_v0 s.m.l + (s.m.pages + 1); omega
    ·show lySeen_v0 s.m.l<=lySeen_v0 s.m.l + s.m.pages∧lySeen_v0 s.m.l + s.m.pages < lySeen_v0 s.m.l + (s.m.pages + 1); omega
    ·show ddA s.m (lySeen_v0 s.m.l + s.m.pages)=false
     cases q:ddA s.m (lySeen_v0 s.m.l + s.m.pages) with
     | false=>rfl
     | true=>have:=mi.du _ (by omega) q; omega
    ·show a.which ≠ lySeen_v0 s.m.l + s.m.pages; omega
    ·have:=(mi.live p hp).1
     show lvA s.m p ≠ lySeen_v0 s.m.l + s.m.pages
     omega
    ·have hh:0<=h∧h < lySeen_v0 s.m.l + (s.m.pages + 1):=hh
     have hn:¬ (a.kind=1∧lySeen_v0 s.m.l + s.m.pages=h):=hn
     exact hall h (by omega) hd
    ·show (0:Int) < jbCount_v0 _ s.m.l
     unfold jbCount_v0
     rw [decide_eq_true k1]
     show (0:Int) < s.m.l.g.cols
     omega
 ·-- a rank
  have es:rpStart_s s a=bif decide ((((mTakeSpare_v1 s.m):Nat):Int)=0) then (⟨mTakeSpare_s s.m,⟨a.kind,a.which,mTakeSpare_v0 s.m,0⟩,s.q⟩:RepS) else { s with m:=mTakeSpare_s s.m }:=by
   unfold rpStart_s; rw [decide_eq_true k1]; rfl
  unfold mTakeSpare_v1 mTakeSpare_v0 mTakeSpare_s at es
  cases hf:mFreeSpare_v1 s.m with
  | false =>
    rw [hf] at es
    have es:rpStart_s s a=s:=es
    rw [es]
    exact ⟨w,fun x=>absurd (by rw [h0]) x⟩
  | true =>
    rw [hf] at es
    have hne:s.m.rks ≠ s.m.l.g.spares:=fun e=>by unfold mFreeSpare_v1 at hf; rw [decide_eq_true e] at hf; cases hf
    have hfp:mFreeSpare_v0 s.m=s.m.l.g.ranks + s.m.rks:=by
     unfold mFreeSpare_v0; rw [decide_eq_false hne,cond_false]; exact wrapN (by omega)
    have es:rpStart_s s a=(⟨{ s.m with rks:=IntKind.i64.wrap (s.m.rks + 1) },⟨a.kind,a.which,mFreeSpare_v0 s.m,0⟩,s.q⟩:RepS):=es
    rw [hfp,wrapN (x:=s.m.rks + 1) (by omega)] at es
    rw [es] at hok hlv ⊢
    have m1:1<=s.m.l.g.banks * s.m.l.g.rows:=by
     have:=Int.mul_pos (a:=s.m.l.g.banks) (b:=s.m.l.g.rows) (by omega) (by omega)
     omega
    have m2:1<=s.m.l.g.banks * s.m.l.g.rows * s.m.l.g.cols:=by
     have:=Int.mul_pos (a:=s.m.l.g.banks * s.m.l.g.rows) (b:=s.m.l.g.cols) (by omega) (by omega)
     omega
    refine ⟨⟨hok,⟨hok.m,mi.mp.same hlv,mi.live,mi.inj,mi.du,fun r hr=>?_,mi.si⟩,Or.inr (Or.inr ⟨k1,k2,k3,?_,fun r hr=>?_,⟨Int.le_refl _,?_⟩⟩),fun h hh hd hn=>hall h hh hd⟩,fun _=>?_⟩
    ·rcases mi.sb r hr with h | h
     ·exact Or.inl h
     ·refine Or.inr ⟨h.1,?_⟩
      have h9:=h.2
      show spA s.m r < s.m.l.g.ranks + (s.m.rks + 1)
      omega
    ·show s.m.l.g.ranks<=s.m.l.g.ranks + s.m.rks∧s.m.l.g.ranks + s.m.rks < s.m.l.g.ranks + (s.m.rks + 1); omega
    ·have hr:0<=r∧r < s.m.l.g.ranks:=hr
     have:=mi.sb r hr
     show spA s.m r ≠ s.m.l.g.ranks + s.m.rks
     omega
    ·show (0:Int)<=s.m.l.g.banks * s.m.l.g.rows * s.m.l.g.cols; omega
    ·show (0:Int) < jbCount_v0 _ s.m.l
     have hc:=(cnt_b (j:=(⟨a.kind,a.which,s.m.l.g.ranks + s.m.rks,0⟩:Jb)) (l:=s.m.l) mi.g).2.2
     unfold jbCount_v0
     rw [decide_eq_false (show ¬ a.kind=1 by omega),decide_eq_true k1]
     show (0:Int) < perRank_v0 s.m.l.g
     omega
 ·have e0:s.j.next=0:=by rw [h0]
  let p:=fun t:RepS=>t.j.kind ≠ 0->t.j.next=0
  unfold rpStart_s
  exact bifG (p:=p) (bifG (p:=p) (fun _=>rfl) (fun _=>e0)) (bifG (p:=p) (fun _=>rfl) (fun _=>e0))
theorem hpl_n0 {s:RepS} (mi:MI s.m) (h:s.j.kind ≠ 0->s.j.next=0) (x:Int) {k:Int} (hk:0<=k∧k < s.m.l.g.cols):hpl s x k=lnPl s.m x k:=by
 by_cases e:s.j.kind=0
 ·exact hpl_0 e x k
 ·have h:=h e
  have i1:=pg_in mi.g s.m.l.way x
  have hord:=ord_in mi.g (p:=pgPl s.m.l.g s.m.l.way x) i1.2.1 i1.2.2.1 hk
  unfold hpl
  rw [if_neg (by omega),if_neg (by omega)]
theorem lnPl_lv {s t:MapS} (h:LvS s t) (x k:Int):lnPl t x k=lnPl s x k:=by
 obtain ⟨h1,h2,h3⟩:=h
 unfold lnPl spOf mSpare_v1 mSpare_v0; rw [h2,h3]
structure StH (s t:RepS):Prop where
 l:t.m.l=s.m.l
 n:t.m.lives.length=s.m.lives.length
 h:∀ p k,p < s.m.lives.length->(0<=k∧k < s.m.l.g.cols)->hpl t (lvA t.m p) k=hpl s (lvA s.m p) k
theorem StH.refl (s:RepS):StH s s:=⟨rfl,rfl,fun _ _ _ _=>rfl⟩
theorem StH.trans {a b c:RepS} (h:StH a b) (k:StH b c):StH a c:=⟨k.l.trans h.l,k.n.trans h.n,fun p x hp hx=>(k.h p x (by rw [h.n]; exact hp) (by rw [h.l]; exact hx)).trans (h.h p x hp hx)⟩
theorem start_h {s:RepS} {a:Ak} (w:RW s) (h0:s.j=⟨0,0,0,0⟩) (hv:rpVoid_v0 s a=false):RI (rpStart_s s a)∧StH s (rpStart_s s a):=by
 obtain ⟨h1,h2,h3⟩:=start_w w h0 hv
 refine ⟨h1,⟨h2.2.1,by rw [h2.1],fun p k hp hk=>?_⟩⟩
 rw [hpl_n0 h1.w.mi h3 _ (by rw [h2.2.1]; exact hk),hpl_0 (by rw [h0]),lnPl_lv h2]
 unfold lvA; rw [h2.1]
theorem RW.q {s:RepS} (w:RW s) {q:RgS} (hq:RgOk q):RW { s with q:=q }:=⟨⟨w.ok.m,hq,w.ok.g⟩,w.mi,w.jw,w.all⟩
theorem StH.q (s:RepS) (q:RgS):StH s { s with q:=q }:=⟨rfl,rfl,fun _ _ _ _=>rfl⟩
theorem rpAsk_h {s:RepS} (h:RI s) (a:Ak):RI (rpAsk_s s a)∧StH s (rpAsk_s s a):=by
 unfold rpAsk_s
 cases hv:rpVoid_v0 s a with
 | true=>exact ⟨h,.refl _⟩
 | false =>
   rw [cond_false]
   cases hk:decide (s.j.kind=0) with
   | true =>
     have hk:=of_decide_eq_true hk
     refine start_h h.w ?_ hv
     rcases h.w.jw with j | j | j
     ·exact j
     ·have:=j.1; omega
     ·have:=j.1; omega
   | false=>exact ⟨⟨h.w.q (ronce_ok h.w.ok.q),h.lt⟩,.q _ _⟩
theorem finR_h {x:RepS × List Ev} (w:RI x.1) (hg:finGo x=true):RI (finR x).1∧StH x.1 (finR x).1:=by
 unfold finGo at hg
 simp only [Bool.and_eq_true,decide_eq_true_eq] at hg
 have h0:x.1.j=⟨0,0,0,0⟩:=by
  rcases w.w.jw with j | j | j
  ·exact j
  ·have:=j.1; omega
  ·have:=j.1; omega
 have hq:=rremove_ok w.w.ok.q
 have wq:=w.w.q hq
 unfold finR
 cases hv:rpVoid_v0 { x.1 with q:=rremove_s x.1.q } ⟨rremove_v0 x.1.q,rremove_v1 x.1.q⟩ with
 | true=>exact ⟨⟨wq,w.lt⟩,.q _ _⟩
 | false =>
   obtain ⟨a,b⟩:=start_h wq h0 hv
   exact ⟨a,(StH.q _ _).trans b⟩
theorem finX_h {s:RepS} (w:RW s) (hb:s.j.kind ≠ 0) (hn:s.j.next=jbCount_v0 s.j s.m.l):∀ i,i<=finN s->RI (finX s i).1∧StH s (finX s i).1
 | 0,_=>by
   obtain ⟨a,b,c,d,e⟩:=fin1_w w hb
   have hx:(finX s 0).1=fin1 s:=rfl
   rw [hx]
   exact ⟨⟨a,fun x=>absurd (by rw [b]) x⟩,⟨c,d,e hn⟩⟩
 | i + 1,hi=>by
   obtain ⟨a,b⟩:=finX_h w hb hn i (by omega)
   obtain ⟨c,d⟩:=finR_h a (finX_go (by omega))
   exact ⟨c,b.trans d⟩
theorem rpFinish_h {s:RepS} (w:RW s) (hb:s.j.kind ≠ 0) (hn:s.j.next=jbCount_v0 s.j s.m.l):RI (rpFinish_s s)∧StH s (rpFinish_s s):=by
 obtain ⟨a,b⟩:=finX_h w hb hn _ (Nat.le_refl _)
 unfold rpFinish_s
 cases decide ((finX s (finN s)).1.j.kind=0)
 ·exact ⟨a,b⟩
 ·exact ⟨⟨a.w.q (rremove_ok a.w.ok.q),a.lt⟩,b.trans (.q _ _)⟩
def Lns (l:Ly) (n:Int):Prop:=0<=n∧n < IntKind.i64.wrap ((lySeen_v0 l) * l.g.cols)
def RT (s:RepS) (n:Int):Int:=jroute_v0 s.j s.m n
def nP (s:RepS) (n:Int):Pl:=hpl s (lvA s.m (n / s.m.l.g.cols).toNat) (n % s.m.l.g.cols)
theorem Lns.b {s:MapS} (mi:MI s) {n:Int} (hn:Lns s.l n):(n / s.l.g.cols).toNat < s.lives.length∧(0<=n % s.l.g.cols∧n % s.l.g.cols < s.l.g.cols)∧(((n / s.l.g.cols).toNat:Nat):Int)=n / s.l.g.cols:=by
 obtain ⟨b1,b2,_,_,_⟩:=line_b mi.ok.right hn
 have hg:=Gm.rt mi.g
 have:=mi.ok.nl
 exact ⟨by omega,modB (by omega),by omega⟩
theorem jright_w {s:RepS} (w:RW s):jright_v0 s.j s.m=true:=by
 have mi:=w.mi
 have hl:=ly_rt mi.ok.right
 have hg:=Gm.rt mi.g
 have hpg:=mi.pgs
 have hc:=cnt_b (j:=s.j) (l:=s.m.l) mi.g
 unfold jright_v0
 rcases w.jw with j | j | j
 ·rw [j]; rfl
 ·obtain ⟨h1,h2,h3,h4,h5,h6,h7,h8⟩:=j
  have hnd:=mi.ok.nd
  have ec:jbCount_v0 s.j s.m.l=s.m.l.g.cols:=by unfold jbCount_v0; rw [decide_eq_true h1]; rfl
  rw [decide_eq_false (show ¬ s.j.kind=0 by omega),decide_eq_true h1,ec,wrapN (x:=s.m.l.g.cols + 1) (by omega),cbel_of (show 0<=s.j.next∧s.j.next < s.m.l.g.cols + 1 by omega)]
  unfold jpages_v0 mDead_v0
  rw [cbel_of (show 0<=s.j.src∧s.j.src < gpages_v0 s.m.l.g by omega),cbel_of (show 0<=s.j.goal∧s.j.goal < gpages_v0 s.m.l.g by omega),decide_eq_false h6,rbel_of (show 0<=s.j.src∧s.j.src < ((s.m.dead.length:Nat):Int) by omega),rbel_of (show 0<=s.j.goal∧s.j.goal < ((s.m.dead.length:Nat):Int) by omega),show s.m.dead.getD s.j.src.toNat eT0=false from h3,show s.m.dead.getD s.j.goal.toNat eT0=false from h5]
  rfl
 ·obtain ⟨h1,h2,h3,h4,h5,h6⟩:=j
  have hrk:=mi.ok.rk
  have ec:jbCount_v0 s.j s.m.l=perRank_v0 s.m.l.g:=by unfold jbCount_v0; rw [decide_eq_false (show ¬ s.j.kind=1 by omega),decide_eq_true h1]; rfl
  rw [decide_eq_false (show ¬ s.j.kind=0 by omega),decide_eq_false (show ¬ s.j.kind=1 by omega),decide_eq_true h1,wrapN (x:=jbCount_v0 s.j s.m.l + 1) (by omega),cbel_of (show 0<=s.j.next∧s.j.next < jbCount_v0 s.j s.m.l + 1 by omega)]
  unfold jranks_v0
  rw [cbel_of h2,spare_v1 mi h2,decide_eq_true h3,wrap_ok (x:=s.j.goal - s.m.l.g.ranks) (by omega) (by omega),cbel_of (show 0<=s.j.goal - s.m.l.g.ranks∧s.j.goal - s.m.l.g.ranks < s.m.l.g.spares by omega)]
  rfl
theorem hpl_in {s:RepS} (w:RW s) {p:Nat} (hp:p < s.m.lives.length) {k:Int} (hk:0<=k∧k < s.m.l.g.cols):s.m.l.g.holds (hpl s (lvA s.m p) k)=true:=by
 have mi:=w.mi
 have hpg:=mi.pgs
 have hl:=ly_rt mi.ok.right
 have l1:=(mi.live p hp).1
 have h0:s.m.l.g.holds (lnPl s.m (lvA s.m p) k)=true:=lnPl_in mi.ok mi.mp.sp (by omega) hk
 have i1:=pg_in mi.g s.m.l.way (lvA s.m p)
 have hrk:=mi.ok.rk
 unfold hpl
 split
 ·next h =>
  rcases w.jw with j | j | j
  ·rw [j] at h; exact absurd h.1 (by decide)
  ·have:=j.2.2.2.1; exact lnPl_in mi.ok mi.mp.sp (by omega) hk
  ·have:=j.1; omega
 ·split
  ·next h =>
   rcases w.jw with j | j | j
   ·rw [j] at h; exact absurd h.1 (by decide)
   ·have:=j.1; omega
   ·have:=j.2.2.2.1
    have hg:=Gm.rt mi.g
    exact holds_of mi.g (p:=⟨s.j.goal,_,_,k⟩) (show 0<=s.j.goal∧s.j.goal < s.m.l.g.ranks + s.m.l.g.spares by omega) i1.2.1 i1.2.2.1 hk
  ·exact h0
theorem RT_eq {s:RepS} (w:RW s) {n:Int} (hn:Lns s.m.l n):RT s n=(nP s n).ix∧s.m.l.g.holds (nP s n)=true:=by
 have mi:=w.mi
 have hl:=ly_rt mi.ok.right
 have hpg:=mi.pgs
 have h0:=mIndex_0 mi.ok mi.mp.lv hn
 obtain ⟨e0,e1,e2,e3⟩:=mIndex_eq mi.ok mi.mp.lv mi.mp.sp hn
 obtain ⟨b1,b2,b3⟩:=hn.b mi
 obtain ⟨_,_,_,b4,_⟩:=line_b mi.ok.right hn
 have hp:=hpl_in w b1 b2
 refine ⟨?_,hp⟩
 have hx:s.m.lives.getD (n / s.m.l.g.cols).toNat eI0=lvA s.m (n / s.m.l.g.cols).toNat:=rfl
 rw [hx] at e0 e1 e2 e3
 unfold RT nP jroute_v0
 have hg:=gorder_ix e1
 rw [h0,jright_w w,e2,e3,b4,e0,hg]
 generalize lvA s.m (n / s.m.l.g.cols).toNat=h at *
 generalize n % s.m.l.g.cols=k at *
 simp only [cond_true,decide_true]
 have hr:=Gm.rt mi.g
 rcases w.jw with j | j | j
 ·rw [hpl_0 (by rw [j]),decide_eq_false (show ¬ s.j.kind=1 by rw [j]; decide),decide_eq_false (show ¬ s.j.kind=2 by rw [j]; decide)]; rfl
 ·rw [hpl_1 j.1,decide_eq_true j.1,decide_eq_false (show ¬ s.j.kind=2 by have:=j.1; omega)]
  simp only [cond_true,cond_false]
  by_cases q1:h=s.j.src
  ·rw [decide_eq_true q1]
   by_cases q2:k < s.j.next
   ·rw [decide_eq_true q2,if_pos ⟨q1,q2⟩]
    have hgo:0<=s.j.goal∧s.j.goal < gpages_v0 s.m.l.g:=by have:=j.2.2.2.1; omega
    have ec:jbCount_v0 s.j s.m.l=s.m.l.g.cols:=by unfold jbCount_v0; rw [decide_eq_true j.1]; rfl
    show jat_v0 s.j s.m s.j.goal k=_
    unfold jat_v0
    rw [jright_w w,ec,cbel_of b2,decide_eq_false (show ¬ s.j.kind=2 by have:=j.1; omega),mlies_0 mi.ok hgo]
    exact lies_ix mi.ok mi.mp.sp hgo b2
   ·rw [decide_eq_false q2,if_neg (fun x=>q2 x.2)]; rfl
  ·rw [decide_eq_false q1,if_neg (fun x=>q1 x.1)]; rfl
 ·rw [hpl_2 j.1, decide_eq_false (show ¬ s.j.kind = 1 by have := j.1; omega), decide_eq_true j.1]
  simp only [cond_true,cond_false]
  have i1:=pg_in mi.g s.m.l.way h
  by_cases q1:(pgPl s.m.l.g s.m.l.way h).rank=s.j.src
  ·rw [decide_eq_true q1]
   show (bif decide (ordP s.m.l.g (pgPl s.m.l.g s.m.l.way h) k < s.j.next) then jat_v0 s.j s.m s.j.goal (ordP s.m.l.g (pgPl s.m.l.g s.m.l.way h) k) else (lnPl s.m h k).ix)=_
   by_cases q2:ordP s.m.l.g (pgPl s.m.l.g s.m.l.way h) k < s.j.next
   ·rw [decide_eq_true q2,if_pos ⟨q1,q2⟩,cond_true]
    have hord:=ord_in mi.g (p:=pgPl s.m.l.g s.m.l.way h) i1.2.1 i1.2.2.1 b2
    have hc:=(cnt_b (j:=s.j) (l:=s.m.l) mi.g).2.2
    have ec:jbCount_v0 s.j s.m.l=s.m.l.g.banks * s.m.l.g.rows * s.m.l.g.cols:=by
     unfold jbCount_v0; rw [decide_eq_false (show ¬ s.j.kind=1 by have:=j.1; omega),decide_eq_true j.1]; exact hc
    have hrk:=mi.ok.rk
    have hgo:=j.2.2.2.1
    unfold jat_v0
    rw [jright_w w,ec,cbel_of hord,decide_eq_true j.1]
    simp only [cond_true]
    rw [(nth_ix mi.g (r:=s.j.goal) (by omega) hord).1,nth_ord mi.g i1.2.2.1 b2]
   ·rw [decide_eq_false q2,if_neg (fun x=>q2 x.2)]; rfl
  ·rw [decide_eq_false q1,if_neg (fun x=>q1 x.1)]; rfl
theorem RT_inj {s:RepS} (w:RW s) {n m:Int} (hn:Lns s.m.l n) (hm:Lns s.m.l m) (e:RT s n=RT s m):n=m:=by
 obtain ⟨a1,a2⟩:=RT_eq w hn
 obtain ⟨b1,b2⟩:=RT_eq w hm
 rw [a1,b1] at e
 have k:=ix_inj a2 b2 e
 obtain ⟨c1,c2,c3⟩:=hn.b w.mi
 obtain ⟨d1,d2,d3⟩:=hm.b w.mi
 obtain ⟨h1,h2⟩:=hpl_inj w c1 d1 k
 have hg:=Gm.rt w.mi.g
 exact radix (r:=0) (s:=0) (by omega) h2 (by rw [← c3,← d3,h1])
theorem RT_hs {s t:RepS} (w:RW s) (w':RW t) (h:StH s t) {n:Int} (hn:Lns s.m.l n):RT t n=RT s n:=by
 obtain ⟨c1,c2,_⟩:=hn.b w.mi
 rw [(RT_eq w hn).1,(RT_eq w' (by rw [h.l]; exact hn)).1]
 unfold nP
 rw [h.l,h.h _ _ c1 c2]
theorem next_eq {s:RepS} (h:RI s) (hb:s.j.kind ≠ 0):rpNext_v0 s=(frP s).ix∧rpNext_v1 s=(toP s).ix∧rpNext_v2 s=0∧s.m.l.g.holds (frP s)=true∧s.m.l.g.holds (toP s)=true:=by
 have w:=h.w
 have mi:=w.mi
 have hl:=ly_rt mi.ok.right
 have hpg:=mi.pgs
 have hlt:=h.lt hb
 have hr:=Gm.rt mi.g
 have hrk:=mi.ok.rk
 have hc:=(cnt_b (j:=s.j) (l:=s.m.l) mi.g).2.2
 rcases w.jw with j | j | j
 ·exact absurd (by rw [j]) hb
 ·have hgo:0<=s.j.goal∧s.j.goal < gpages_v0 s.m.l.g:=by have:=j.2.2.2.1; omega
  have hsr:0<=s.j.src∧s.j.src < gpages_v0 s.m.l.g:=by have:=j.2.1; omega
  have ec:jbCount_v0 s.j s.m.l=s.m.l.g.cols:=by unfold jbCount_v0; rw [decide_eq_true j.1]; rfl
  have hk:0<=s.j.next∧s.j.next < s.m.l.g.cols:=by have:=j.2.2.2.2.2.2.2; omega
  obtain ⟨f1,f2⟩:=fr_1 j.1
  have hat:∀ x,(0<=x∧x < gpages_v0 s.m.l.g)->jat_v0 s.j s.m x s.j.next=(lnPl s.m x s.j.next).ix∧jat_v1 s.j s.m x s.j.next=0:=fun x hx=>by
   unfold jat_v0 jat_v1
   rw [jright_w w,ec,cbel_of hk,decide_eq_false (show ¬ s.j.kind=2 by have:=j.1; omega),mlies_0 mi.ok hx]
   exact ⟨lies_ix mi.ok mi.mp.sp hx hk,rfl⟩
  obtain ⟨x1,x2⟩:=hat _ hsr
  obtain ⟨y1,y2⟩:=hat _ hgo
  rw [f1,f2]
  unfold rpNext_v0 rpNext_v1 rpNext_v2
  rw [decide_eq_false hb,x1,x2,y1,y2]
  exact ⟨rfl,rfl,rfl,lnPl_in mi.ok mi.mp.sp hsr hk,lnPl_in mi.ok mi.mp.sp hgo hk⟩
 ·have hj:=j
  have ec:jbCount_v0 s.j s.m.l=s.m.l.g.banks * s.m.l.g.rows * s.m.l.g.cols:=by
   unfold jbCount_v0; rw [decide_eq_false (show ¬ s.j.kind=1 by have:=j.1; omega),decide_eq_true j.1]; exact hc
  have hk:0<=s.j.next∧s.j.next < s.m.l.g.banks * s.m.l.g.rows * s.m.l.g.cols:=by have:=j.2.2.2.2.2; omega
  obtain ⟨f1,f2⟩:=fr_2 j.1
  have hat:∀ x,(0<=x∧x < s.m.l.g.ranks + s.m.l.g.spares)->jat_v0 s.j s.m x s.j.next=(nthP s.m.l.g x s.j.next).ix∧jat_v1 s.j s.m x s.j.next=0:=fun x hx=>by
   unfold jat_v0 jat_v1
   rw [jright_w w,ec,cbel_of hk,decide_eq_true j.1]
   exact nth_ix mi.g hx hk
  have hs1:=j.2.1
  have hs2:=j.2.2.2.1
  obtain ⟨x1,x2⟩:=hat s.j.src (by omega)
  obtain ⟨y1,y2⟩:=hat s.j.goal (by omega)
  rw [f1,f2]
  unfold rpNext_v0 rpNext_v1 rpNext_v2
  rw [decide_eq_false hb,x1,x2,y1,y2]
  exact ⟨rfl,rfl,rfl,nth_in mi.g (by omega) hk,nth_in mi.g (by omega) hk⟩
theorem nx_w {s:RepS} (h:RI s) (hb:s.j.kind ≠ 0):RW (nx s):=by
 have w:=h.w
 have hlt:=h.lt hb
 have hc:=(cnt_b (j:=s.j) (l:=s.m.l) w.mi.g).2.2
 refine ⟨⟨w.ok.m,w.ok.q,w.ok.g⟩,w.mi,?_,w.all⟩
 rcases w.jw with j | j | j
 ·exact absurd (by rw [j]) hb
 ·have ec:jbCount_v0 s.j s.m.l=s.m.l.g.cols:=by unfold jbCount_v0; rw [decide_eq_true j.1]; rfl
  obtain ⟨h1,h2,h3,h4,h5,h6,h7,h8⟩:=j
  exact Or.inr (Or.inl ⟨h1,h2,h3,h4,h5,h6,h7,by show 0<=s.j.next + 1∧s.j.next + 1<=s.m.l.g.cols; omega⟩)
 ·have ec:jbCount_v0 s.j s.m.l=s.m.l.g.banks * s.m.l.g.rows * s.m.l.g.cols:=by
   unfold jbCount_v0; rw [decide_eq_false (show ¬ s.j.kind=1 by have:=j.1; omega),decide_eq_true j.1]; exact hc
  obtain ⟨h1,h2,h3,h4,h5,h6⟩:=j
  exact Or.inr (Or.inr ⟨h1,h2,h3,h4,h5,by show 0<=s.j.next + 1∧s.j.next + 1<=s.m.l.g.banks * s.m.l.g.rows * s.m.l.g.cols; omega⟩)
theorem rpStep_h {s:RepS} (h:RI s) (hb:s.j.kind ≠ 0):RI (rpStep_s s)∧(rpStep_s s).m.l=s.m.l∧(∀ n,Lns s.m.l n->RT (rpStep_s s) n=(if RT s n=rpNext_v0 s then rpNext_v1 s else RT s n)∧RT s n ≠ rpNext_v1 s):=by
 have w:=h.w
 have wn:=nx_w h hb
 have hc:=cnt_b (j:=s.j) (l:=s.m.l) w.mi.g
 have hlt:=h.lt hb
 have hn0:0<=s.j.next:=by
  rcases w.jw with j | j | j
  ·exact absurd (by rw [j]) hb
  ·exact j.2.2.2.2.2.2.2.1
  ·exact j.2.2.2.2.2.1
 obtain ⟨e0,e1,_,h3,h4⟩:=next_eq h hb
 have hnx:(⟨s.m,{ s.j with next:=IntKind.i64.wrap (s.j.next + 1) },s.q⟩:RepS)=nx s:=by rw [wrapN (x:=s.j.next + 1) (by omega)]; rfl
 -- the routes behind the move
 have hrt:∀ n,Lns s.m.l n->RT (nx s) n=(if RT s n=rpNext_v0 s then rpNext_v1 s else RT s n)∧RT s n ≠ rpNext_v1 s:=fun n hn=>by
  obtain ⟨c1,c2,_⟩:=hn.b w.mi
  obtain ⟨m1,m2⟩:=hpl_nx w hb hlt c1 c2
  obtain ⟨a1,a2⟩:=RT_eq w hn
  rw [(RT_eq wn (n:=n) hn).1,a1,e0,e1]
  refine ⟨?_,fun e=>m2 (ix_inj a2 h4 e)⟩
  show (hpl (nx s) (lvA s.m (n / s.m.l.g.cols).toNat) (n % s.m.l.g.cols)).ix=_
  rw [m1]
  by_cases e:hpl s (lvA s.m (n / s.m.l.g.cols).toNat) (n % s.m.l.g.cols)=frP s
  ·rw [if_pos e,if_pos (by unfold nP; rw [e])]
  ·rw [if_neg e,if_neg (show ¬ (nP s n).ix=(frP s).ix from fun x=>e (ix_inj a2 h3 x))]; rfl
 unfold rpStep_s
 rw [decide_eq_false hb,cond_false]
 show RI (bif jbDone_v0 _ s.m.l then rpFinish_s (⟨s.m,{ s.j with next:=IntKind.i64.wrap (s.j.next + 1) },s.q⟩:RepS) else (⟨s.m,{ s.j with next:=IntKind.i64.wrap (s.j.next + 1) },s.q⟩:RepS))∧(bif jbDone_v0 _ s.m.l then rpFinish_s (⟨s.m,{ s.j with next:=IntKind.i64.wrap (s.j.next + 1) },s.q⟩:RepS) else (⟨s.m,{ s.j with next:=IntKind.i64.wrap (s.j.next + 1) },s.q⟩:RepS)).m.l=s.m.l∧(∀ n,Lns s.m.l n->RT (bif jbDone_v0 _ s.m.l then rpFinish_s (⟨s.m,{ s.j with next:=IntKind.i64.wrap (s.j.next + 1) },s.q⟩:RepS) else (⟨s.m,{ s.j with next:=IntKind.i64.wrap (s.j.next + 1) },s.q⟩:RepS)) n=_∧_)
 rw [hnx,wrapN (x:=s.j.next + 1) (by omega)]
 cases q:jbDone_v0 { s.j with next:=s.j.next + 1 } s.m.l with
 | false =>
   rw [cond_false]
   refine ⟨⟨wn,fun _=>?_⟩,rfl,hrt⟩
   unfold jbDone_v0 at q
   have hb':¬ ({ s.j with next:=s.j.next + 1 }:Jb).kind=0:=hb
   rw [decide_eq_false hb',cond_false] at q
   have q:=of_decide_eq_false q
   have e:jbCount_v0 ({ s.j with next:=s.j.next + 1 }:Jb) s.m.l=jbCount_v0 s.j s.m.l:=rfl
   rw [e] at q
   show s.j.next + 1 < jbCount_v0 s.j s.m.l
   have q:¬ s.j.next + 1=jbCount_v0 s.j s.m.l:=q
   omega
 | true =>
   rw [cond_true]
   unfold jbDone_v0 at q
   have hb':¬ ({ s.j with next:=s.j.next + 1 }:Jb).kind=0:=hb
   rw [decide_eq_false hb',cond_false] at q
   obtain ⟨a,b⟩:=rpFinish_h wn hb (of_decide_eq_true q)
   exact ⟨a,b.l,fun n hn=>by rw [RT_hs wn a.w b hn]; exact hrt n hn⟩
theorem mix3 {x y z a b c:Int} (hx:0<=x∧x < a) (hy:0<=y∧y < b) (hz:0<=z∧z < c):0<=(z * b + y) * a + x∧(z * b + y) * a + x < c * b * a∧0<=z * b∧0<=(z * b + y) * a∧z * b + y < c * b:=by
 have m0:0<=z * b:=Int.mul_nonneg hz.1 (by omega)
 have m1:0<=(z * b + y) * a:=Int.mul_nonneg (by omega) (by omega)
 have m2:z * b + y + 1<=c * b:=by
  have:(z + 1) * b<=c * b:=Int.mul_le_mul_of_nonneg_right (by omega) (by omega)
  rw [Int.add_mul,Int.one_mul] at this
  omega
 have m3:(z * b + y + 1) * a<=c * b * a:=Int.mul_le_mul_of_nonneg_right m2 (by omega)
 rw [Int.add_mul (z * b + y),Int.one_mul] at m3
 omega
theorem num3 {x y z a b c:Int} (hx:0<=x∧x < a) (hy:0<=y∧y < b) (hz:0<=z∧z < c) (hm:c * b * a<=131072):number3_v0 x y z a b c=(z * b + y) * a + x:=by
 obtain ⟨h1,h2,h3,h4,h5⟩:=mix3 hx hy hz
 have h6:c * b<=131072:=by
  have:c * b * 1<=c * b * a:=Int.mul_le_mul_of_nonneg_left (by omega) (by omega)
  omega
 have h7:z<=131072:=by
  have:z * 1<=z * b:=Int.mul_le_mul_of_nonneg_left (by omega) hz.1
  omega
 unfold number3_v0
 show IntKind.i64.wrap (IntKind.i64.wrap (IntKind.i64.wrap (IntKind.i64.wrap (IntKind.i64.wrap (IntKind.i64.wrap (0 * c) + z) * b) + y) * a) + x)=_
 rw [Int.zero_mul,show IntKind.i64.wrap 0=0 from rfl,Int.zero_add,wrapN (x:=z) (by omega),wrapN (x:=z * b) (by omega),wrapN (x:=z * b + y) (by omega),wrapN (x:=(z * b + y) * a) (by omega),wrapN (by omega)]
theorem iBack_r {g:Gm} {w:Int} (hi:interRight_v0 g w=true) (hg:g.right=true) {r b k:Int} (h1:0<=r∧r < g.ranks) (h2:0<=b∧b < g.banks) (h3:0<=k∧k < g.rows) :
 (0<=iBack_v0 g w (r * 16384 + b * 1024 + k)∧iBack_v0 g w (r * 16384 + b * 1024 + k) < gpages_v0 g)∧pgPl g w (iBack_v0 g w (r * 16384 + b * 1024 + k))=⟨r,b,k,0⟩:=by
 have hr:=Gm.rt hg
 obtain ⟨hp,_,hq⟩:=gpages_eq hg
 have hh:g.holds ⟨r,b,k,0⟩=true:=holds_of hg ⟨h1.1,by show r < _; omega⟩ h2 h3 ⟨Int.le_refl _,by show (0:Int) < g.cols; omega⟩
 obtain ⟨a1,a2,a3,a4⟩:=holds_16 hh
 simp only at a1 a2 a3 a4
 have ex:IntKind.i64.wrap ((r * 16384 + b * 1024 + k) * 2 ^ 6)=(⟨r,b,k,0⟩:Pl).ix:=by
  rw [ix_eq (p:=⟨r,b,k,0⟩) a1 a2 a3 a4,show (2:Int) ^ 6=64 from rfl,wrapN (by omega)]
  show _=r * 1048576 + b * 65536 + k * 64 + 0
  omega
 have hat:g.at (⟨r,b,k,0⟩:Pl).ix=⟨r,b,k,0⟩:=by
  unfold Gm.at; rw [atB_ix hh,plOf_ix (p:=⟨r,b,k,0⟩) a1 a2 a3 a4]; rfl
 have hm:=mixR hg h2 h3
 have hmm:bits .xor .i64 (bits .xor .i64 b (bits .and .i64 k (IntKind.i64.wrap (g.banks - 1)))) (bits .and .i64 k (IntKind.i64.wrap (g.banks - 1)))=b:=by
  obtain ⟨x,y,e1,e2,e3,e4⟩:=mixB (Gm.pw hg) h2 (b:=k) (by omega)
  obtain ⟨x',y',e1',e2',e3',e4'⟩:=mixB (Gm.pw hg) hm (b:=k) (by omega)
  rw [e2',e1]
  have:x'=x ^^^ y:=by omega
  rw [this,e4',← e4,Nat.xor_assoc,Nat.xor_self,Nat.xor_zero]
 have c1:g.ranks * g.banks * g.rows=g.ranks * g.rows * g.banks:=Int.mul_right_comm ..
 have c2:g.ranks * g.banks * g.rows=g.rows * g.banks * g.ranks:=by rw [Int.mul_comm g.ranks g.banks,Int.mul_comm g.rows,Int.mul_assoc,Int.mul_comm g.ranks,← Int.mul_assoc]
 have B:iBack_v0 g w (r * 16384 + b * 1024 + k)=bif decide (w=0) then (r * g.banks + b) * g.rows + k else (bif decide (w=1) then (r * g.rows + k) * g.banks + b else (bif decide (w=3) then (k * g.banks + bits .xor .i64 b (bits .and .i64 k (IntKind.i64.wrap (g.banks - 1)))) * g.ranks + r else (k * g.banks + b) * g.ranks + r)):=by
  unfold iBack_v0
  rw [hi,decide_eq_false (show ¬ r * 16384 + b * 1024 + k < 0 by omega),decide_eq_false (show ¬ 131072<=r * 16384 + b * 1024 + k by omega),ex,atE_0 (atB_ix hh),hat]
  simp only [cond_true,cond_false,decide_true]
  rw [decide_eq_false (show ¬ g.ranks<=r by omega),cond_false]
  rw [num3 (x:=k) (y:=b) (z:=r) (a:=g.rows) (b:=g.banks) (c:=g.ranks) h3 h2 h1 (by omega),num3 (x:=b) (y:=k) (z:=r) (a:=g.banks) (b:=g.rows) (c:=g.ranks) h2 h3 h1 (by omega),num3 (x:=r) (y:=b) (z:=k) (a:=g.ranks) (b:=g.banks) (c:=g.rows) h1 h2 h3 (by omega),num3 (x:=r) (z:=k) (a:=g.ranks) (b:=g.banks) (c:=g.rows) h1 hm h3 (by omega)]
  cases q3:decide (w=3) with
  | true =>
    have q3:=of_decide_eq_true q3
    rw [decide_eq_false (show ¬ w=0 by omega),decide_eq_false (show ¬ w=1 by omega)]; rfl
  | false=>cases decide (w=0) <;> cases decide (w=1) <;> rfl
 rw [B,hp]
 unfold pgPl
 cases q0:decide (w=0) with
 | true =>
   simp only [cond_true]
   have d:=mix3 h3 h2 h1
   have e1:=dmx (x:=r * g.banks + b) (c:=g.rows) (by omega) h3
   have e2:=dmx (x:=r) (c:=g.banks) (by omega) h2
   rw [e1.1,e1.2,e2.1,e2.2,modS h1]
   exact ⟨⟨d.1,d.2.1⟩,rfl⟩
 | false =>
   simp only [cond_false]
   cases q1:decide (w=1) with
   | true =>
     simp only [cond_true]
     have d:=mix3 h2 h3 h1
     have e1:=dmx (x:=r * g.rows + k) (c:=g.banks) (by omega) h2
     have e2:=dmx (x:=r) (c:=g.rows) (by omega) h3
     rw [e1.1,e1.2,e2.1,e2.2,modS h1]
     exact ⟨⟨d.1,by rw [c1]; exact d.2.1⟩,rfl⟩
   | false =>
     simp only [cond_false]
     cases q3:decide (w=3) with
     | true =>
       simp only [cond_true]
       have d:=mix3 h1 hm h3
       have e1:=dmx (x:=k * g.banks + bits .xor .i64 b (bits .and .i64 k (IntKind.i64.wrap (g.banks - 1)))) (c:=g.ranks) (by omega) h1
       have e2:=dmx (x:=k) (c:=g.banks) (by omega) hm
       rw [e1.1,e1.2,e2.1,e2.2,modS h3,hmm]
       exact ⟨⟨d.1,by rw [c2]; exact d.2.1⟩,rfl⟩
     | false =>
       simp only [cond_false]
       have d:=mix3 h1 h2 h3
       have e1:=dmx (x:=k * g.banks + b) (c:=g.ranks) (by omega) h1
       have e2:=dmx (x:=k) (c:=g.banks) (by omega) h2
       rw [e1.1,e1.2,e2.1,e2.2,modS h3]
       exact ⟨⟨d.1,by rw [c2]; exact d.2.1⟩,rfl⟩
def srcH (s:RepS):Int:=bif decide (s.j.kind=2) then iBack_v0 s.m.l.g s.m.l.way ((rpNext_v0 s).fdiv (2 ^ 6)) else s.j.src
theorem srcH_2 {s:RepS} (h:RI s) (j:J2 s.j s.m):(0<=srcH s∧srcH s < gpages_v0 s.m.l.g)∧pgPl s.m.l.g s.m.l.way (srcH s)=⟨s.j.src,s.j.next / s.m.l.g.cols / s.m.l.g.rows,s.j.next / s.m.l.g.cols % s.m.l.g.rows,0⟩:=by
 have w:=h.w
 have mi:=w.mi
 have hl:=ly_rt mi.ok.right
 have hb:s.j.kind ≠ 0:=by have:=j.1; omega
 obtain ⟨e0,_,_,h3,_⟩:=next_eq h hb
 have hr:=Gm.rt mi.g
 obtain ⟨f1,_⟩:=fr_2 j.1
 rw [f1] at e0 h3
 obtain ⟨a1,a2,a3,a4⟩:=holds_16 h3
 obtain ⟨_,b1,b2,b3,b4⟩:=holds_t h3
 have e:(rpNext_v0 s).fdiv (2 ^ 6)=s.j.src * 16384 + (s.j.next / s.m.l.g.cols / s.m.l.g.rows) * 1024 + s.j.next / s.m.l.g.cols % s.m.l.g.rows:=by
  rw [e0,ix_eq a1 a2 a3 a4,Int.fdiv_eq_ediv_of_nonneg _ (by decide),show (2:Int) ^ 6=64 from rfl]
  show (s.j.src * 1048576 + (s.j.next / s.m.l.g.cols / s.m.l.g.rows) * 65536 + (s.j.next / s.m.l.g.cols % s.m.l.g.rows) * 64 + s.j.next % s.m.l.g.cols) / 64=_
  have b4:0<=s.j.next % s.m.l.g.cols∧s.j.next % s.m.l.g.cols < s.m.l.g.cols:=b4
  omega
 have eH:srcH s=iBack_v0 s.m.l.g s.m.l.way (s.j.src * 16384 + (s.j.next / s.m.l.g.cols / s.m.l.g.rows) * 1024 + s.j.next / s.m.l.g.cols % s.m.l.g.rows):=by
  unfold srcH; rw [decide_eq_true j.1,e]; rfl
 rw [eH]
 exact iBack_r hl.2.1 mi.g j.2.1 b2 b3
theorem used_t {s:MapS} (mi:MI s) {h:Int}:mUsed_v0 s h=true ↔ (0<=h∧h < lySeen_v0 s.l + s.pages)∧ddA s h=false:=by
 have hl:=ly_rt mi.ok.right
 have hp:=mi.ok.pg
 unfold mUsed_v0
 rw [wrapN (x:=lySeen_v0 s.l + s.pages) (by omega)]
 constructor
 ·intro h
  obtain ⟨a,b⟩:=cT h
  refine ⟨rbel_t a,?_⟩
  cases q:ddA s _ with
  | false=>rfl
  | true=>unfold ddA at q; rw [q] at b; cases b
 ·rintro ⟨a,b⟩
  unfold ddA at b
  rw [rbel_of a,b]; rfl
theorem used_no {s:RepS} (h:RI s) (hb:s.j.kind ≠ 0) (hu:mUsed_v0 s.m (srcH s)=false) {n:Int} (hn:Lns s.m.l n):RT s n ≠ rpNext_v0 s:=fun e=>by
 have w:=h.w
 have mi:=w.mi
 have hpg:=mi.pgs
 obtain ⟨e0,_,_,h3,_⟩:=next_eq h hb
 obtain ⟨a1,a2⟩:=RT_eq w hn
 obtain ⟨c1,c2,_⟩:=hn.b mi
 rw [a1,e0] at e
 have k:=ix_inj a2 h3 e
 have hx:mUsed_v0 s.m (srcH s)=true:=by
  rcases w.jw with j | j | j
  ·exact absurd (by rw [j]) hb
  ·have eH:srcH s=s.j.src:=by unfold srcH; rw [decide_eq_false (show ¬ s.j.kind=2 by have:=j.1; omega)]; rfl
   rw [eH]
   exact (used_t mi).2 ⟨j.2.1,j.2.2.1⟩
  ·obtain ⟨s1,s2⟩:=srcH_2 h j
   obtain ⟨k1,k2⟩:=(fr_iff w j.1 c2).1 k
   have l1:=mi.live _ c1
   have i1:=pg_in mi.g s.m.l.way (lvA s.m (n / s.m.l.g.cols).toNat)
   have eh:lvA s.m (n / s.m.l.g.cols).toNat=srcH s:=by
    refine pgPl_inj (w:=s.m.l.way) mi.g (by omega) s1 ?_
    rw [s2]
    have hr:=Gm.rt mi.g
    have k3:=nth_ord mi.g (r:=s.j.src) i1.2.2.1 c2
    rw [k2] at k3
    unfold nthP at k3
    simp only [Pl.mk.injEq] at k3
    exact plx i1.2.2.2 rfl k1 k3.2.1.symm k3.2.2.1.symm
   rw [← eh]
   exact (used_t mi).2 l1
 rw [hx] at hu; cases hu
theorem ljudge_h {s:LedS} (h:RI s.rep) (x:Nt):RI (ljudge_s s x).rep∧StH s.rep (ljudge_s s x).rep:=by
 let p:=fun t:LedS=>RI t.rep∧StH s.rep t.rep
 have hc:∀ (t:LedS) (k:Int) (l:List Ev) (i:Nat),p t->p (lcame t k l i):=fun t k l i h=>by show RI _∧StH _ _; rw [lcame_rep]; exact h
 have ha:∀ (t:LedS) (a:Ak),p t->RI (rpAsk_s t.rep a)∧StH s.rep (rpAsk_s t.rep a):=fun t a h=>by
  obtain ⟨a1,a2⟩:=rpAsk_h h.1 a
  exact ⟨a1,h.2.trans a2⟩
 have h0:p s:=⟨h,.refl _⟩
 have j1:p (ljudge_j1 s x):=by unfold ljudge_j1; exact bifG (p:=p) (hc _ _ _ _ (ha s _ h0)) h0
 have j2:p (ljudge_j2 s x):=by unfold ljudge_j2; exact bifG (p:=p) (hc _ _ _ _ (ha _ _ j1)) j1
 have j3:p (ljudge_j3 s x):=by unfold ljudge_j3; exact bifG (p:=p) (hc _ _ _ _ (ha s _ h0)) h0
 have j4:p (ljudge_j4 s x):=by unfold ljudge_j4; exact bifG (p:=p) (hc _ _ _ _ (ha _ _ j3)) j3
 unfold ljudge_s
 exact bifG (p:=p) h0 (bifG (p:=p) j2 (bifG (p:=p) h0 j4))
theorem lap_h {s:LedS} (h:RI s.rep) {x:Nt} (hx:x.kind ≠ 3):RI (lapply_s s x).rep∧StH s.rep (lapply_s s x).rep:=by
 let p:=fun t:LedS=>RI t.rep∧StH s.rep t.rep
 have h0:p s:=⟨h,.refl _⟩
 unfold lapply_s
 rw [decide_eq_false hx,cond_false]
 exact bifG (p:=p) (ljudge_h h x) (bifG (p:=p) h0 (bifG (p:=p) h0 h0))
theorem lap_3 {s:LedS} {x:Nt} (hx:x.kind=3):(lapply_s s x).rep=rpStep_s s.rep:=by
 unfold lapply_s
 rw [decide_eq_false (show ¬ x.kind=1 by omega),decide_eq_false (show ¬ x.kind=2 by omega),decide_eq_true hx]
 show (lcame _ _ _ _).rep=_
 rw [lcame_rep]
theorem rpNew_ri {l:Ly} (h:lyRight_v0 l=true):RI (rpNew l):=by
 have hl:=ly_rt h
 have hlv:∀ p,p < (mNew_s l).lives.length->lvA (mNew_s l) p=((p:Nat):Int):=fun p hp=>by
  show (liveL (lySeen_v0 l).toNat).getD p eI0=_
  have hp:p < (liveL (lySeen_v0 l).toNat).length:=hp
  rw [liveL_len] at hp
  exact liveL_at _ _ hp
 have hdd:∀ x,ddA (mNew_s l) x=false:=fun x=>by
  show (List.replicate (gpN l.g) eT0).getD x.toNat eT0=false
  rw [List.getD_eq_getElem?_getD,List.getElem?_replicate]; split <;> rfl
 have ok:=mNew_ok h
 have hlen:(mNew_s l).lives.length=(lySeen_v0 l).toNat:=liveL_len _
 have hsp:∀ r,0<=r∧r < l.g.ranks->spA (mNew_s l) r=-1:=fun r hr=>by
  have hns:(((mNew_s l).sp.length:Nat):Int)=l.g.ranks:=ok.ns
  exact spL_in _ _ (gDm (l:=(mNew_s l).sp) (i:=r.toNat) eI0 (by omega))
 refine ⟨⟨rpNew_ok h,⟨ok,mNew_mp h,fun p hp=>?_,fun p q hp hq e=>?_,fun x _ e=>?_,fun r hr=>Or.inl (hsp r hr),fun r r' hr hr' e=>absurd (hsp r hr) e⟩,Or.inl rfl,fun x hx _ _=>?_⟩,fun e=>absurd rfl e⟩
 ·have hp:p < (mNew_s l).lives.length:=hp
  show (0<=lvA (mNew_s l) p∧lvA (mNew_s l) p < lySeen_v0 l + 0)∧_
  rw [hlv p hp]
  exact ⟨⟨by omega,by omega⟩,hdd _⟩
 ·have e:lvA (mNew_s l) p=lvA (mNew_s l) q:=e
  rw [hlv p hp,hlv q hq] at e; omega
 ·have e:ddA (mNew_s l) x=true:=e
  rw [hdd] at e; cases e
 ·have hx:0<=x∧x < lySeen_v0 l + 0:=hx
  have hp:x.toNat < (mNew_s l).lives.length:=by omega
  exact ⟨x.toNat,hp,by show lvA (mNew_s l) _=_; rw [hlv _ hp]; omega⟩
end Go.Proofs.YtfhiggfmkjmeiaaGreat
