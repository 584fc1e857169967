import Derived.Test.YtfhiggfmkjmeiaaGreatLNj
set_option linter.all false
namespace Go.Proofs.YtfhiggfmkjmeiaaGreat
open Go Go.RowKit
def lvA (s:MapS) (p:Nat):Int:=s.lives.getD p eI0
def ddA (s:MapS) (h:Int):Bool:=s.dead.getD h.toNat eT0
def spA (s:MapS) (r:Int):Int:=s.sp.getD r.toNat eI0
structure MI (s:MapS):Prop where
 ok:MapOk s
 mp:MpIn s
 live:∀ p,p < s.lives.length->(0<=lvA s p/\lvA s p < A0 s.l + s.pages)/\ddA s (lvA s p)=false
 inj:∀ p q,p < s.lives.length->q < s.lives.length->lvA s p=lvA s q->p=q
 du:∀ h,0<=h->ddA s h=true->h < A0 s.l + s.pages
 sb:∀ r,0<=r/\r < s.l.g.ranks->spA s r=-1 ∨ (s.l.g.ranks<=spA s r/\spA s r < s.l.g.ranks + s.rks)
 si:∀ r r',(0<=r/\r < s.l.g.ranks)->(0<=r'/\r' < s.l.g.ranks)->spA s r ≠ -1->spA s r=spA s r'->r=r'
def J1 (j:Jb) (s:MapS):Prop:=j.kind=1/\(0<=j.src/\j.src < A0 s.l + s.pages)/\ddA s j.src=false/\(A0 s.l<=j.goal/\j.goal < A0 s.l + s.pages)/\ddA s j.goal=false/\j.src ≠ j.goal/\(∀ p,p < s.lives.length->lvA s p ≠ j.goal)/\(0<=j.next/\j.next<=s.l.g.cols)
def J2 (j:Jb) (s:MapS):Prop:=j.kind=2/\(0<=j.src/\j.src < s.l.g.ranks)/\spA s j.src=-1/\(s.l.g.ranks<=j.goal/\j.goal < s.l.g.ranks + s.rks)/\(∀ r,0<=r/\r < s.l.g.ranks->spA s r ≠ j.goal)/\(0<=j.next/\j.next<=s.l.g.banks * s.l.g.rows * s.l.g.cols)
def JW (j:Jb) (s:MapS):Prop:=j=⟨0,0,0,0⟩ ∨ J1 j s ∨ J2 j s
structure RW (s:RepS):Prop where
 ok:RepOk s
 mi:MI s.m
 jw:JW s.j s.m
 all:∀ h,0<=h/\h < A0 s.m.l + s.m.pages->ddA s.m h=false->¬ (s.j.kind=1/\s.j.goal=h)->∃ p,p < s.m.lives.length/\lvA s.m p=h
structure RI (s:RepS):Prop where
 w:RW s
 lt:s.j.kind ≠ 0->s.j.next < A6 s.j s.m.l
theorem MI.g {s:MapS} (h:MI s):s.l.g.right=true:=(C0 h.ok.right).1
theorem MI.pgs {s:MapS} (h:MI s):A0 s.l + s.pages<=A9 s.l.g:=by
 have:=C0 h.ok.right
 have:=h.ok.pg
 omega
theorem dmx {x c k:Int} (hc:1<=c) (hk:0<=k/\k < c):(x * c + k) / c=x/\(x * c + k) % c=k:=by
 constructor
 ·rw [Int.add_comm,Int.add_mul_ediv_right _ _ (by omega),Int.ediv_eq_zero_of_lt hk.1 hk.2,Int.zero_add]
 ·rw [Int.add_comm,Int.add_mul_emod_self_right,Int.emod_eq_of_lt hk.1 hk.2]
theorem dmy {x c:Int}:x / c * c + x % c=x:=by rw [Int.add_comm,Int.mul_comm]; exact Int.emod_add_mul_ediv x c
def Kg (g:Gm) (p:Pl) (k:Int):Int:=(p.bank * g.rows + p.row) * g.cols + k
def Pc (g:Gm) (r i:Int):Pl:=⟨r,i / g.cols / g.rows,i / g.cols % g.rows,i % g.cols⟩
theorem A65 {g:Gm} (hg:g.right=true) {p:Pl} {k:Int} (hb:0<=p.bank/\p.bank < g.banks) (hw:0<=p.row/\p.row < g.rows) (hk:0<=k/\k < g.cols):0<=Kg g p k/\Kg g p k < g.banks * g.rows * g.cols:=by
 have hr:=Gm.rt hg
 have m0:0<=p.bank * g.rows:=Int.mul_nonneg hb.1 (by omega)
 have m1:0<=(p.bank * g.rows + p.row) * g.cols:=Int.mul_nonneg (by omega) (by omega)
 have m2:p.bank * g.rows + p.row + 1<=g.banks * g.rows:=by
  have:(p.bank + 1) * g.rows<=g.banks * g.rows:=Int.mul_le_mul_of_nonneg_right (by omega) (by omega)
  rw [Int.add_mul,Int.one_mul] at this
  omega
 have m3:(p.bank * g.rows + p.row + 1) * g.cols<=g.banks * g.rows * g.cols:=Int.mul_le_mul_of_nonneg_right m2 (by omega)
 rw [Int.add_mul (p.bank * g.rows + p.row),Int.one_mul] at m3
 unfold Kg
 omega
theorem Ul {g:Gm} (hg:g.right=true) {p:Pl} {k r:Int} (hw:0<=p.row/\p.row < g.rows) (hk:0<=k/\k < g.cols):Pc g r (Kg g p k)=⟨r,p.bank,p.row,k⟩:=by
 have hr:=Gm.rt hg
 have h1:=dmx (x:=p.bank * g.rows + p.row) (c:=g.cols) (by omega) hk
 have h2:=dmx (x:=p.bank) (c:=g.rows) (by omega) hw
 unfold Pc Kg
 rw [h1.1,h1.2,h2.1,h2.2]
theorem A66 {g:Gm} (r i:Int):Kg g (Pc g r i) (i % g.cols)=i:=by
 unfold Kg Pc
 simp only
 rw [dmy,dmy]
theorem Acr {g:Gm} (hg:g.right=true) {r i:Int} (hr:0<=r/\r < g.ranks + g.spares) (hi:0<=i/\i < g.banks * g.rows * g.cols):g.holds (Pc g r i)=true:=by
 have hx:=Gm.rt hg
 have q1:0<=i / g.cols:=Int.ediv_nonneg hi.1 (by omega)
 have q2:i / g.cols < g.banks * g.rows:=Int.ediv_lt_of_lt_mul (by omega) hi.2
 exact Kv hg hr ⟨Int.ediv_nonneg q1 (by omega),Int.ediv_lt_of_lt_mul (by omega) q2⟩ (Fi (by omega)) (Fi (by omega))
theorem Ao9 {g:Gm} (hg:g.right=true) {r i:Int} (hr:0<=r/\r < g.ranks + g.spares) (hi:0<=i/\i < g.banks * g.rows * g.cols):A0j g r i=(Pc g r i).ix/\Wd g r i=0:=by
 have hx:=Gm.rt hg
 have m1:=Il (a:=g.banks) (b:=g.rows) (A:=16) (B:=1024) (by omega) (by omega)
 have m2:=Il (a:=g.banks * g.rows) (b:=g.cols) (A:=16384) (B:=64) (by omega) (by omega)
 have q1:0<=i / g.cols:=Int.ediv_nonneg hi.1 (by omega)
 have q2:i / g.cols < g.banks * g.rows:=Int.ediv_lt_of_lt_mul (by omega) hi.2
 have q3:0<=i / g.cols / g.rows:=Int.ediv_nonneg q1 (by omega)
 have q4:i / g.cols / g.rows < g.banks:=Int.ediv_lt_of_lt_mul (by omega) q2
 refine ⟨?_,Ao8 hg hr hi⟩
 unfold A0j
 rw [Int.tdiv_eq_ediv_of_nonneg hi.1,Ca (x:=i / g.cols) (by omega),Int.tdiv_eq_ediv_of_nonneg q1,Ca (x:=i / g.cols / g.rows) (by omega),Int.tmod_eq_emod_of_nonneg q1,Int.tmod_eq_emod_of_nonneg hi.1]
 unfold Gm.ix
 rw [show (⟨r,i / g.cols / g.rows,i / g.cols % g.rows,i % g.cols⟩:Pl)=Pc g r i from rfl,Acr hg hr hi]; rfl
theorem Aib {g:Gm} {p:Pl} (h:g.holds p=true):B6 g p.ix=Kg g p p.col:=by
 obtain ⟨h0,h1,h2,h3,h4⟩:=U7 h
 have hr:=Gm.rt h0
 obtain ⟨a,b,c,d⟩:=Ip h
 have ha:=K5 h
 have m1:=Il (a:=p.bank) (b:=g.rows) (A:=16) (B:=1024) (by omega) (by omega)
 have m2:=Il (a:=p.bank * g.rows + p.row) (b:=g.cols) (A:=32768) (B:=64) (by omega) (by omega)
 unfold B6 Gm.atE Gm.at
 rw [ha,S3 a b c d]
 simp only [cond_true,decide_true]
 rw [Ca (x:=p.bank * g.rows) (by omega),Ca (x:=p.bank * g.rows + p.row) (by omega),Ca (x:=(p.bank * g.rows + p.row) * g.cols) (by omega),Ca (by omega)]
 rfl
theorem S8 {s:MapS} (h:MI s) {r:Int} (hr:0<=r/\r < s.l.g.ranks):Sg s r=if spA s r=-1 then r else spA s r:=by
 have hns:=h.ok.ns
 unfold Sg Cr Gn
 rw [Hk (show 0<=r/\r < ((s.sp.length:Nat):Int) by omega)]
 show (bif (bif decide (spA s r=-1) then false else true) then (bif decide (spA s r=-1) then 0 else spA s r) else r)=_
 by_cases e:spA s r=-1
 ·rw [tq e,if_pos e]; rfl
 ·rw [fq e,if_neg e]; rfl
theorem Aac {s:MapS} (h:MI s) {r:Int} (hr:0<=r/\r < s.l.g.ranks):Cr s r=!decide (spA s r=-1):=by
 have hns:=h.ok.ns
 unfold Cr
 rw [Hk (show 0<=r/\r < ((s.sp.length:Nat):Int) by omega)]
 show (bif decide (spA s r=-1) then false else true)=_
 cases decide (spA s r=-1) <;> rfl
theorem Aab {s:MapS} (h:MI s) {r r':Int} (hr:0<=r/\r < s.l.g.ranks) (hr':0<=r'/\r' < s.l.g.ranks) (e:Sg s r=Sg s r'):r=r':=by
 rw [S8 h hr,S8 h hr'] at e
 have b1:=h.sb r hr
 have b2:=h.sb r' hr'
 by_cases e1:spA s r=-1
 ·rw [if_pos e1] at e
  by_cases e2:spA s r'=-1
  ·rw [if_pos e2] at e; exact e
  ·rw [if_neg e2] at e; omega
 ·rw [if_neg e1] at e
  by_cases e2:spA s r'=-1
  ·rw [if_pos e2] at e; omega
  ·rw [if_neg e2] at e; exact h.si r r' hr hr' e1 e
theorem plx {p q:Pl} (hp:p.col=0) (hq:q.col=0) (h1:p.rank=q.rank) (h2:p.bank=q.bank) (h3:p.row=q.row):p=q:=by
 obtain ⟨a,b,c,d⟩:=p
 obtain ⟨a',b',c',d'⟩:=q
 simp only at hp hq h1 h2 h3
 subst h1; subst h2; subst h3; subst hp; subst hq; rfl
theorem H8 {s:MapS} (h:MI s) {a b k k':Int} (ha:0<=a/\a < A9 s.l.g) (hb:0<=b/\b < A9 s.l.g) (e:Hx s a k=Hx s b k'):a=b/\k=k':=by
 unfold Hx at e
 simp only [Pl.mk.injEq] at e
 have i1:=Mu h.g s.l.way a
 have i2:=Mu h.g s.l.way b
 have hr:=Aab h i1.1 i2.1 e.1
 exact ⟨A0w h.g ha hb (plx i1.2.2.2 i2.2.2.2 hr e.2.1 e.2.2.1),e.2.2.2⟩
def hpl (s:RepS) (h k:Int):Pl :=
 if s.j.kind=1/\h=s.j.src/\k < s.j.next then Hx s.m s.j.goal k
 else if s.j.kind=2/\(C2 s.m.l.g s.m.l.way h).rank=s.j.src/\Kg s.m.l.g (C2 s.m.l.g s.m.l.way h) k < s.j.next then ⟨s.j.goal,(C2 s.m.l.g s.m.l.way h).bank,(C2 s.m.l.g s.m.l.way h).row,k⟩
 else Hx s.m h k
theorem Zp {s:RepS} (hk:s.j.kind=0) (h k:Int):hpl s h k=Hx s.m h k:=by
 unfold hpl; rw [if_neg (by omega),if_neg (by omega)]
theorem Zq {s:RepS} (hk:s.j.kind=1) (h k:Int):hpl s h k=if h=s.j.src/\k < s.j.next then Hx s.m s.j.goal k else Hx s.m h k:=by
 unfold hpl
 by_cases e:h=s.j.src/\k < s.j.next
 ·rw [if_pos ⟨hk,e⟩,if_pos e]
 ·rw [if_neg (fun x=>e x.2),if_neg (by omega),if_neg e]
theorem U8 {s:RepS} (hk:s.j.kind=2) (h k:Int):hpl s h k=if (C2 s.m.l.g s.m.l.way h).rank=s.j.src/\Kg s.m.l.g (C2 s.m.l.g s.m.l.way h) k < s.j.next then ⟨s.j.goal,(C2 s.m.l.g s.m.l.way h).bank,(C2 s.m.l.g s.m.l.way h).row,k⟩ else Hx s.m h k:=by
 unfold hpl
 rw [if_neg (by omega)]
 by_cases e:(C2 s.m.l.g s.m.l.way h).rank=s.j.src/\Kg s.m.l.g (C2 s.m.l.g s.m.l.way h) k < s.j.next
 ·rw [if_pos ⟨hk,e⟩,if_pos e]
 ·rw [if_neg (fun x=>e x.2),if_neg e]
theorem Afe (s:RepS) (h k:Int):(hpl s h k).col=k:=by
 unfold hpl
 split
 ·rfl
 ·split <;> rfl
theorem Afa {s:RepS} (h:MI s.m) (j:J2 s.j s.m) {r:Int} (hr:0<=r/\r < s.m.l.g.ranks):Sg s.m r ≠ s.j.goal:=by
 obtain ⟨_,_,_,g1,g2,_⟩:=j
 rw [S8 h hr]
 by_cases e:spA s.m r=-1
 ·rw [if_pos e]; omega
 ·rw [if_neg e]; exact g2 r hr
theorem Asi {s:RepS} (w:RW s) {p q:Nat} {k k':Int} (hp:p < s.m.lives.length) (hq:q < s.m.lives.length) (e:hpl s (lvA s.m p) k=hpl s (lvA s.m q) k'):p=q/\k=k':=by
 have hk:k=k':=by rw [← Afe s (lvA s.m p) k,e,Afe]
 subst hk
 refine ⟨?_,rfl⟩
 have mi:=w.mi
 have hpg:=mi.pgs
 have l1:=(mi.live p hp).1
 have l2:=(mi.live q hq).1
 have hx:0<=lvA s.m p/\lvA s.m p < A9 s.m.l.g:=by omega
 have hy:0<=lvA s.m q/\lvA s.m q < A9 s.m.l.g:=by omega
 have i1:=Mu mi.g s.m.l.way (lvA s.m p)
 have i2:=Mu mi.g s.m.l.way (lvA s.m q)
 refine mi.inj p q hp hq ?_
 rcases w.jw with j | j | j
 ·rw [Zp (by rw [j]),Zp (by rw [j])] at e
  exact (H8 mi hx hy e).1
 ·have hgo:0<=s.j.goal/\s.j.goal < A9 s.m.l.g:=by have:=j.2.2.2.1; have:=C0 mi.ok.right; omega
  have hno:=j.2.2.2.2.2.2.1
  rw [Zq j.1,Zq j.1] at e
  by_cases e1:lvA s.m p=s.j.src/\k < s.j.next
  ·rw [if_pos e1] at e
   by_cases e2:lvA s.m q=s.j.src/\k < s.j.next
   ·rw [e1.1,e2.1]
   ·rw [if_neg e2] at e
    exact absurd (H8 mi hgo hy e).1.symm (hno q hq)
  ·rw [if_neg e1] at e
   by_cases e2:lvA s.m q=s.j.src/\k < s.j.next
   ·rw [if_pos e2] at e
    exact absurd (H8 mi hx hgo e).1 (hno p hp)
   ·rw [if_neg e2] at e
    exact (H8 mi hx hy e).1
 ·have hno:=fun r hr=>Afa mi j (r:=r) hr
  rw [U8 j.1,U8 j.1] at e
  by_cases e1:(C2 s.m.l.g s.m.l.way (lvA s.m p)).rank=s.j.src/\Kg s.m.l.g (C2 s.m.l.g s.m.l.way (lvA s.m p)) k < s.j.next
  ·rw [if_pos e1] at e
   by_cases e2:(C2 s.m.l.g s.m.l.way (lvA s.m q)).rank=s.j.src/\Kg s.m.l.g (C2 s.m.l.g s.m.l.way (lvA s.m q)) k < s.j.next
   ·rw [if_pos e2] at e
    simp only [Pl.mk.injEq] at e
    exact A0w mi.g hx hy (plx i1.2.2.2 i2.2.2.2 (e1.1.trans e2.1.symm) e.2.1 e.2.2.1)
   ·rw [if_neg e2] at e
    unfold Hx at e
    simp only [Pl.mk.injEq] at e
    exact absurd e.1.symm (hno _ i2.1)
  ·rw [if_neg e1] at e
   by_cases e2:(C2 s.m.l.g s.m.l.way (lvA s.m q)).rank=s.j.src/\Kg s.m.l.g (C2 s.m.l.g s.m.l.way (lvA s.m q)) k < s.j.next
   ·rw [if_pos e2] at e
    unfold Hx at e
    simp only [Pl.mk.injEq] at e
    exact absurd e.1 (hno _ i1.1)
   ·rw [if_neg e2] at e
    exact (H8 mi hx hy e).1
def frP (s:RepS):Pl:=if s.j.kind=1 then Hx s.m s.j.src s.j.next else Pc s.m.l.g s.j.src s.j.next
def toP (s:RepS):Pl:=if s.j.kind=1 then Hx s.m s.j.goal s.j.next else Pc s.m.l.g s.j.goal s.j.next
def nx (s:RepS):RepS:={ s with j:={ s.j with next:=s.j.next + 1 } }
theorem Axe {s:RepS} (hk:s.j.kind=1):frP s=Hx s.m s.j.src s.j.next/\toP s=Hx s.m s.j.goal s.j.next:=by unfold frP toP; rw [if_pos hk,if_pos hk]; exact ⟨rfl,rfl⟩
theorem Am2 {s:RepS} (hk:s.j.kind=2):frP s=Pc s.m.l.g s.j.src s.j.next/\toP s=Pc s.m.l.g s.j.goal s.j.next:=by unfold frP toP; rw [if_neg (by omega),if_neg (by omega)]; exact ⟨rfl,rfl⟩
theorem Abx {s:RepS} (w:RW s) (hk:s.j.kind=2) {h k:Int} (hc:0<=k/\k < s.m.l.g.cols):hpl s h k=frP s ↔ (C2 s.m.l.g s.m.l.way h).rank=s.j.src/\Kg s.m.l.g (C2 s.m.l.g s.m.l.way h) k=s.j.next:=by
 have mi:=w.mi
 have i1:=Mu mi.g s.m.l.way h
 have j:J2 s.j s.m:=by
  rcases w.jw with j | j | j
  ·rw [j] at hk; cases hk
  ·have:=j.1; omega
  ·exact j
 have hsp:Sg s.m s.j.src=s.j.src:=by rw [S8 mi j.2.1,if_pos j.2.2.1]
 rw [U8 hk,(Am2 hk).1]
 constructor
 ·intro e
  by_cases e1:(C2 s.m.l.g s.m.l.way h).rank=s.j.src/\Kg s.m.l.g (C2 s.m.l.g s.m.l.way h) k < s.j.next
  ·rw [if_pos e1] at e
   unfold Pc at e
   simp only [Pl.mk.injEq] at e
   have:=j.2.1
   have:=j.2.2.2.1
   omega
  ·rw [if_neg e1] at e
   have e2:=e
   unfold Hx Pc at e
   simp only [Pl.mk.injEq] at e
   have hr:(C2 s.m.l.g s.m.l.way h).rank=s.j.src:=Aab mi i1.1 j.2.1 (by rw [hsp]; exact e.1)
   refine ⟨hr,?_⟩
   rw [← A66 (g:=s.m.l.g) s.j.src s.j.next]
   unfold Kg Pc
   simp only
   rw [e.2.1,e.2.2.1,e.2.2.2]
 ·rintro ⟨h1,h2⟩
  rw [if_neg (by omega),← h2,Ul mi.g i1.2.2.1 hc]
  unfold Hx
  rw [h1,hsp]
open Classical in
theorem Axm {s:RepS} (w:RW s) (hb:s.j.kind ≠ 0) (hlt:s.j.next < A6 s.j s.m.l) {p:Nat} (hp:p < s.m.lives.length) {k:Int} (hc:0<=k/\k < s.m.l.g.cols) :
    (hpl (nx s) (lvA s.m p) k=if hpl s (lvA s.m p) k=frP s then toP s else hpl s (lvA s.m p) k)/\hpl s (lvA s.m p) k ≠ toP s:=by
 have mi:=w.mi
 have hpg:=mi.pgs
 have l1:=(mi.live p hp).1
 have hx:0<=lvA s.m p/\lvA s.m p < A9 s.m.l.g:=by omega
 have i1:=Mu mi.g s.m.l.way (lvA s.m p)
 rcases w.jw with j | j | j
 ·exact absurd (by rw [j]) hb
 ·have hgo:0<=s.j.goal/\s.j.goal < A9 s.m.l.g:=by have:=j.2.2.2.1; have:=C0 mi.ok.right; omega
  have hsr:0<=s.j.src/\s.j.src < A9 s.m.l.g:=by have:=j.2.1; omega
  have hno:=j.2.2.2.2.2.2.1
  have hk1:(nx s).j.kind=1:=j.1
  obtain ⟨f1,f2⟩:=Axe j.1
  have hA:=Zq j.1 (lvA s.m p) k
  have hB:hpl (nx s) (lvA s.m p) k=if lvA s.m p=s.j.src/\k < s.j.next + 1 then Hx s.m s.j.goal k else Hx s.m (lvA s.m p) k:=Zq hk1 _ _
  rw [f1,f2]
  by_cases e1:lvA s.m p=s.j.src
  ·rcases Int.lt_trichotomy k s.j.next with h | h | h
   ·rw [if_pos (And.intro e1 h)] at hA
    rw [if_pos (And.intro e1 (show k < s.j.next + 1 by omega))] at hB
    rw [hA,hB,if_neg (fun e=>by have:=(H8 mi hgo hsr e).2; omega)]
    exact ⟨rfl,fun e=>by have:=(H8 mi hgo hgo e).2; omega⟩
   ·subst h
    rw [if_neg (show ¬ (lvA s.m p=s.j.src/\s.j.next < s.j.next) by omega)] at hA
    rw [if_pos (And.intro e1 (show s.j.next < s.j.next + 1 by omega))] at hB
    rw [hA,hB,e1,if_pos rfl]
    exact ⟨rfl,fun e=>j.2.2.2.2.2.1 (H8 mi hsr hgo e).1⟩
   ·rw [if_neg (show ¬ (lvA s.m p=s.j.src/\k < s.j.next) by omega)] at hA
    rw [if_neg (show ¬ (lvA s.m p=s.j.src/\k < s.j.next + 1) by omega)] at hB
    rw [hA,hB,if_neg (fun e=>by have:=(H8 mi hx hsr e).2; omega)]
    exact ⟨rfl,fun e=>by have:=(H8 mi hx hgo e).2; omega⟩
  ·rw [if_neg (show ¬ (lvA s.m p=s.j.src/\k < s.j.next) from fun x=>e1 x.1)] at hA
   rw [if_neg (show ¬ (lvA s.m p=s.j.src/\k < s.j.next + 1) from fun x=>e1 x.1)] at hB
   rw [hA,hB,if_neg (fun e=>e1 (H8 mi hx hsr e).1)]
   exact ⟨rfl,fun e=>hno p hp (H8 mi hx hgo e).1⟩
 ·have hno:=fun r hr=>Afa mi j (r:=r) hr
  have hk2:(nx s).j.kind=2:=j.1
  have hif:=Abx w j.1 (h:=lvA s.m p) hc
  have hord:=A65 mi.g (p:=C2 s.m.l.g s.m.l.way (lvA s.m p)) i1.2.1 i1.2.2.1 hc
  have h2:hpl s (lvA s.m p) k ≠ toP s:=fun e=>by
   rw [(Am2 j.1).2,U8 j.1] at e
   by_cases e1:(C2 s.m.l.g s.m.l.way (lvA s.m p)).rank=s.j.src/\Kg s.m.l.g (C2 s.m.l.g s.m.l.way (lvA s.m p)) k < s.j.next
   ·rw [if_pos e1] at e
    have e2:=e
    rw [← Ul mi.g (r:=s.j.goal) i1.2.2.1 hc] at e2
    have e3:Kg s.m.l.g (C2 s.m.l.g s.m.l.way (lvA s.m p)) k=s.j.next:=by
     rw [← A66 (g:=s.m.l.g) s.j.goal s.j.next]
     unfold Pc at e
     simp only [Pl.mk.injEq] at e
     unfold Kg Pc
     simp only
     rw [e.2.1,e.2.2.1,e.2.2.2]
    omega
   ·rw [if_neg e1] at e
    unfold Hx Pc at e
    simp only [Pl.mk.injEq] at e
    exact hno _ i1.1 e.1
  refine ⟨?_,h2⟩
  by_cases e:hpl s (lvA s.m p) k=frP s
  ·rw [if_pos e]
   obtain ⟨h3,h4⟩:=hif.1 e
   rw [U8 hk2,(Am2 j.1).2]
   show (if (C2 s.m.l.g s.m.l.way (lvA s.m p)).rank=s.j.src/\Kg s.m.l.g (C2 s.m.l.g s.m.l.way (lvA s.m p)) k < s.j.next + 1 then _ else _)=_
   rw [if_pos ⟨h3,by omega⟩]
   rw [← h4,Ul mi.g i1.2.2.1 hc]; rfl
  ·rw [if_neg e,U8 hk2,U8 j.1]
   show (if (C2 s.m.l.g s.m.l.way (lvA s.m p)).rank=s.j.src/\Kg s.m.l.g (C2 s.m.l.g s.m.l.way (lvA s.m p)) k < s.j.next + 1 then _ else _)=_
   by_cases e1:(C2 s.m.l.g s.m.l.way (lvA s.m p)).rank=s.j.src/\Kg s.m.l.g (C2 s.m.l.g s.m.l.way (lvA s.m p)) k < s.j.next
   ·rw [if_pos ⟨e1.1,by omega⟩,if_pos e1]; rfl
   ·rw [if_neg (fun x=>e1 ⟨x.1,by have:Kg s.m.l.g (C2 s.m.l.g s.m.l.way (lvA s.m p)) k ≠ s.j.next:=fun y=>e (hif.2 ⟨x.1,y⟩); omega⟩),if_neg e1]; rfl
theorem Agc {h t:Int} {l:List Int}:∀ n i,n<=l.length->(Lt h t l n).getD i eI0=if i < n/\l.getD i eI0=h then t else l.getD i eI0
 | 0,i,_=>by rw [if_neg (by omega)]; rfl
 | n + 1, i, hn => by
   have ih:=Agc (h:=h) (t:=t) (l:=l) n
   have hlen:(Lt h t l n).length=l.length:=Ky ..
   rw [Lt,ih n (by omega),if_neg (by omega)]
   cases q:decide (l.getD n eI0=h) with
   | false =>
     have q:=ofq q
     rw [cond_false,ih i (by omega)]
     by_cases e:i=n
     ·subst e; rw [if_neg (by omega),if_neg (fun x=>q x.2)]
     ·by_cases e2:i < n/\l.getD i eI0=h
      ·rw [if_pos e2,if_pos ⟨by omega,e2.2⟩]
      ·rw [if_neg e2,if_neg (fun x=>e2 ⟨by omega,x.2⟩)]
   | true =>
     have q:=otq q
     rw [cond_true,List.getD_eq_getElem?_getD,List.getElem?_set,hlen]
     by_cases e:n=i
     ·subst e
      rw [if_pos rfl,if_pos (by omega),if_pos ⟨by omega,q⟩]; rfl
     ·rw [if_neg e,← List.getD_eq_getElem?_getD,ih i (by omega)]
      by_cases e2:i < n/\l.getD i eI0=h
      ·rw [if_pos e2,if_pos ⟨by omega,e2.2⟩]
      ·rw [if_neg e2,if_neg (fun x=>e2 ⟨by omega,x.2⟩)]
theorem B0z {α:Type} (l:List α) (i j:Nat) (a d:α):(l.set i a).getD j d=if i=j/\i < l.length then a else l.getD j d:=by
 rw [List.getD_eq_getElem?_getD,List.getD_eq_getElem?_getD,List.getElem?_set]
 by_cases h:i=j
 ·subst h
  by_cases h2:i < l.length
  ·rw [if_pos rfl,if_pos h2,if_pos ⟨rfl,h2⟩]; rfl
  ·rw [if_pos rfl,if_neg h2,if_neg (fun x=>h2 x.2),List.getElem?_eq_none (by omega)]
 ·rw [if_neg h,if_neg (fun x=>h x.1)]
theorem Ax2 {s:RepS} (w:RW s) (j:J1 s.j s.m):F7 s={ s with m:={ s.m with lives:=Lt s.j.src s.j.goal s.m.lives s.m.lives.length,dead:=s.m.dead.set s.j.src.toNat true },j:=⟨0,0,0,0⟩ }:=by
 have mi:=w.mi
 have hpg:=mi.pgs
 have hl:=C0 mi.ok.right
 have hp:=mi.ok.pg
 have hnd:=mi.ok.nd
 obtain ⟨h1,h2,h3,h4,h5,h6,h7,h8⟩:=j
 unfold F7
 rw [tq h1,cond_true]
 unfold Fh
 rw [Hk (show 0<=s.j.src/\s.j.src < ((s.m.dead.length:Nat):Int) by omega),D1 (x:=s.j.goal - A0 s.m.l) (by omega) (by omega),Hk (show 0<=s.j.goal - A0 s.m.l/\s.j.goal - A0 s.m.l < s.m.pages by omega)]
 rw [show s.m.dead.getD s.j.src.toNat eT0=false from h3,show s.m.dead.getD s.j.goal.toNat eT0=false from h5,fq h6]; rfl
theorem Ax3 {s:RepS} (w:RW s) (j:J2 s.j s.m):F7 s={ s with m:={ s.m with sp:=s.m.sp.set s.j.src.toNat s.j.goal },j:=⟨0,0,0,0⟩ }:=by
 have mi:=w.mi
 have hg:=Gm.rt mi.g
 have hp:=mi.ok.rk
 have hns:=mi.ok.ns
 obtain ⟨h1,h2,h3,h4,h5,h6⟩:=j
 unfold F7
 rw [fq (show ¬ s.j.kind=1 by omega),cond_false]
 unfold Dx
 rw [Hk (show 0<=s.j.src/\s.j.src < ((s.m.sp.length:Nat):Int) by omega),D1 (x:=s.j.goal - s.m.l.g.ranks) (by omega) (by omega),Hk (show 0<=s.j.goal - s.m.l.g.ranks/\s.j.goal - s.m.l.g.ranks < s.m.rks by omega)]
 rw [show s.m.sp.getD s.j.src.toNat eI0=-1 from h3,tq rfl]; rfl
theorem Ax5 {s:RepS} (w:RW s) (hb:s.j.kind ≠ 0):RW (F7 s)/\(F7 s).j=⟨0,0,0,0⟩/\(F7 s).m.l=s.m.l/\(F7 s).m.lives.length=s.m.lives.length /\
   (s.j.next=A6 s.j s.m.l->∀ p k,p < s.m.lives.length->(0<=k/\k < s.m.l.g.cols)->hpl (F7 s) (lvA (F7 s).m p) k=hpl s (lvA s.m p) k):=by
 have mi:=w.mi
 have hpg:=mi.pgs
 have hl:=C0 mi.ok.right
 have hok:=A55 w.ok
 have hmp:=Aez w.ok mi.mp
 rcases w.jw with j | j | j
 ·exact absurd (by rw [j]) hb
 ·have e:=Ax2 w j
  have hlen:(F7 s).m.lives.length=s.m.lives.length:=by rw [e]; exact Ky ..
  obtain ⟨h1,h2,h3,h4,h5,h6,h7,h8⟩:=j
  have hlv:∀ p,p < s.m.lives.length->lvA (F7 s).m p=if lvA s.m p=s.j.src then s.j.goal else lvA s.m p:=fun p hp=>by
   rw [e]
   show (Lt s.j.src s.j.goal s.m.lives s.m.lives.length).getD p eI0=_
   rw [Agc _ _ (Nat.le_refl _)]
   by_cases q:lvA s.m p=s.j.src
   ·rw [if_pos q,if_pos ⟨hp,q⟩]
   ·rw [if_neg q,if_neg (fun x=>q x.2)]; rfl
  have hdd:∀ h,0<=h->ddA (F7 s).m h=if h=s.j.src then true else ddA s.m h:=fun h hh=>by
   rw [e]
   show (s.m.dead.set s.j.src.toNat true).getD h.toNat eT0=_
   have hnd:=mi.ok.nd
   rw [B0z]
   by_cases q:h=s.j.src
   ·rw [if_pos q,if_pos ⟨by rw [q],by omega⟩]
   ·rw [if_neg q,if_neg (fun x=>q (by omega))]; rfl
  have hpl':(F7 s).m.pages=s.m.pages/\(F7 s).m.rks=s.m.rks/\(F7 s).m.sp=s.m.sp/\(F7 s).m.l=s.m.l/\(F7 s).j=⟨0,0,0,0⟩:=by rw [e]; exact ⟨rfl,rfl,rfl,rfl,rfl⟩
  obtain ⟨p1,p2,p3,p4,p5⟩:=hpl'
  have hsp:∀ r,spA (F7 s).m r=spA s.m r:=fun r=>by unfold spA; rw [p3]
  refine ⟨⟨hok,⟨hok.m,hmp,fun p hp=>?_,fun p q hp hq x=>?_,fun h h0 hd=>?_,fun r hr=>?_,fun r r' hr hr'=>?_⟩,Or.inl p5,fun h hh hd _=>?_⟩,p5,p4,hlen,fun hn p k hp hk=>?_⟩
  ·rw [hlen] at hp
   rw [hlv p hp,p4,p1]
   have hv:=mi.live p hp
   by_cases q:lvA s.m p=s.j.src
   ·rw [if_pos q,hdd _ (by omega),if_neg (fun x=>h6 x.symm)]; exact ⟨by omega,h5⟩
   ·rw [if_neg q,hdd _ (by omega),if_neg q]; exact hv
  ·rw [hlen] at hp hq
   rw [hlv p hp,hlv q hq] at x
   refine mi.inj p q hp hq ?_
   by_cases a:lvA s.m p=s.j.src <;> by_cases b:lvA s.m q=s.j.src
   ·rw [a,b]
   ·rw [if_pos a,if_neg b] at x; exact absurd x.symm (h7 q hq)
   ·rw [if_neg a,if_pos b] at x; exact absurd x (h7 p hp)
   ·rw [if_neg a,if_neg b] at x; exact x
  ·rw [p4,p1]
   rw [hdd h h0] at hd
   by_cases q:h=s.j.src
   ·omega
   ·rw [if_neg q] at hd; exact mi.du h h0 hd
  ·rw [p4] at hr; rw [hsp,p4,p2]; exact mi.sb r hr
  ·rw [p4] at hr hr'; rw [hsp,hsp]; exact mi.si r r' hr hr'
  ·rw [p4,p1] at hh
   rw [hdd h hh.1] at hd
   by_cases q:h=s.j.src
   ·rw [if_pos q] at hd; cases hd
   ·rw [if_neg q] at hd
    by_cases q2:h=s.j.goal
    ·obtain ⟨p,hp,he⟩:=w.all s.j.src h2 h3 (fun x=>h6 x.2.symm)
     exact ⟨p,by rw [hlen]; exact hp,by rw [hlv p hp,if_pos he]; exact q2.symm⟩
    ·obtain ⟨p,hp,he⟩:=w.all h hh hd (fun x=>q2 x.2.symm)
     exact ⟨p,by rw [hlen]; exact hp,by rw [hlv p hp,if_neg (by rw [he]; exact q)]; exact he⟩
  ·have hln:∀ h k,Hx (F7 s).m h k=Hx s.m h k:=fun h k=>by
    unfold Hx Sg Cr Gn; rw [p3,p4]
   have hc:A6 s.j s.m.l=s.m.l.g.cols:=by unfold A6; rw [tq h1]; rfl
   rw [Zp (by rw [p5]),hln,Zq h1,hlv p hp]
   by_cases q:lvA s.m p=s.j.src
   ·rw [if_pos q,if_pos ⟨q,by omega⟩]
   ·rw [if_neg q,if_neg (fun x=>q x.1)]
 ·have e:=Ax3 w j
  have hj:=j
  obtain ⟨h1,h2,h3,h4,h5,h6⟩:=j
  have hg:=Gm.rt mi.g
  have hpl':(F7 s).m.pages=s.m.pages/\(F7 s).m.rks=s.m.rks/\(F7 s).m.lives=s.m.lives/\(F7 s).m.dead=s.m.dead/\(F7 s).m.l=s.m.l/\(F7 s).j=⟨0,0,0,0⟩:=by rw [e]; exact ⟨rfl,rfl,rfl,rfl,rfl,rfl⟩
  obtain ⟨p1,p2,p3,p3',p4,p5⟩:=hpl'
  have hlen:(F7 s).m.lives.length=s.m.lives.length:=by rw [p3]
  have hlv:∀ p,lvA (F7 s).m p=lvA s.m p:=fun p=>by unfold lvA; rw [p3]
  have hdd:∀ h,ddA (F7 s).m h=ddA s.m h:=fun h=>by unfold ddA; rw [p3']
  have hsp:∀ r,0<=r->spA (F7 s).m r=if r=s.j.src then s.j.goal else spA s.m r:=fun r hr=>by
   rw [e]
   show (s.m.sp.set s.j.src.toNat s.j.goal).getD r.toNat eI0=_
   have hns:=mi.ok.ns
   rw [B0z]
   by_cases q:r=s.j.src
   ·rw [if_pos q,if_pos ⟨by rw [q],by omega⟩]
   ·rw [if_neg q,if_neg (fun x=>q (by omega))]; rfl
  have hmi:MI (F7 s).m:=by
   refine ⟨hok.m,hmp,fun p hp=>?_,fun p q hp hq x=>?_,fun h h0 hd=>?_,fun r hr=>?_,fun r r' hr hr' n1 n2=>?_⟩
   ·rw [hlen] at hp; rw [hlv,hdd,p4,p1]; exact mi.live p hp
   ·rw [hlen] at hp hq; rw [hlv,hlv] at x; exact mi.inj p q hp hq x
   ·rw [hdd] at hd; rw [p4,p1]; exact mi.du h h0 hd
   ·rw [p4] at hr; rw [hsp r hr.1,p4,p2]
    by_cases q:r=s.j.src
    ·rw [if_pos q]; exact Or.inr h4
    ·rw [if_neg q]; exact mi.sb r hr
   ·rw [p4] at hr hr'
    rw [hsp r hr.1] at n1 n2
    rw [hsp r' hr'.1] at n2
    by_cases a:r=s.j.src <;> by_cases b:r'=s.j.src
    ·rw [a,b]
    ·rw [if_pos a,if_neg b] at n2; exact absurd n2.symm (h5 r' hr')
    ·rw [if_neg a,if_pos b] at n2; exact absurd n2 (h5 r hr)
    ·rw [if_neg a,if_neg b] at n2; rw [if_neg a] at n1; exact mi.si r r' hr hr' n1 n2
  refine ⟨⟨hok,hmi,Or.inl p5,fun h hh hd _=>?_⟩,p5,p4,hlen,fun hn p k hp hk=>?_⟩
  ·rw [p4,p1] at hh
   rw [hdd] at hd
   obtain ⟨p,hp,he⟩:=w.all h hh hd (fun x=>by omega)
   exact ⟨p,by rw [hlen]; exact hp,by rw [hlv]; exact he⟩
  ·have l1:=(mi.live p hp).1
   have i1:=Mu mi.g s.m.l.way (lvA s.m p)
   have hord:=A65 mi.g (p:=C2 s.m.l.g s.m.l.way (lvA s.m p)) i1.2.1 i1.2.2.1 hk
   have hc:A6 s.j s.m.l=s.m.l.g.banks * s.m.l.g.rows * s.m.l.g.cols:=by
    have:=(Q5 (j:=s.j) (l:=s.m.l) mi.g).2.2
    unfold A6; rw [fq (show ¬ s.j.kind=1 by omega),tq h1]; exact this
   rw [Zp (by rw [p5]),U8 h1,hlv]
   unfold Hx
   rw [p4,S8 hmi (by rw [p4]; exact i1.1),hsp _ i1.1.1,S8 mi i1.1]
   by_cases q:(C2 s.m.l.g s.m.l.way (lvA s.m p)).rank=s.j.src
   ·rw [if_pos q,if_neg (show ¬ s.j.goal=-1 by omega),if_pos (show _/\_ from ⟨q,by omega⟩)]
   ·rw [if_neg q,if_neg (show ¬ (_/\_) from fun x=>q x.1)]
theorem Az5 {s:RepS} {a:Ak} (mi:MI s.m) (h:D3 s a=false):(a.kind=1/\(0<=a.which/\a.which < A9 s.m.l.g)/\ddA s.m a.which=false/\(C5 s.m=true->a.which < Ci s.m)) ∨ (a.kind=2/\(0<=a.which/\a.which < s.m.l.g.ranks)/\spA s.m a.which=-1):=by
 unfold D3 at h
 cases q1:decide (a.kind=1) with
 | true =>
   rw [q1,cond_true] at h
   left
   refine ⟨otq q1,?_⟩
   cases q2:decide (a.which < 0) with
   | true=>rw [q2] at h; cases h
   | false =>
     rw [q2,cond_false] at h
     cases q3:decide (A9 s.m.l.g<=a.which) with
     | true=>rw [q3] at h; cases h
     | false =>
       rw [q3,cond_false] at h
       have q2:=ofq q2
       have q3:=ofq q3
       have hnd:=mi.ok.nd
       cases q4:Hy s.m a.which with
       | true=>rw [q4] at h; cases h
       | false =>
         rw [q4,cond_false] at h
         unfold Hy at q4
         rw [Hk (show 0<=a.which/\a.which < ((s.m.dead.length:Nat):Int) by omega),cond_true] at q4
         refine ⟨by omega,q4,fun hf=>?_⟩
         rw [hf,cond_true] at h
         cases q5:decide (Ci s.m<=a.which) with
         | true=>rw [q5] at h; cases h
         | false=>have:=ofq q5; omega
 | false =>
   rw [q1,cond_false] at h
   cases q2:decide (a.kind=2) with
   | false=>rw [q2] at h; cases h
   | true =>
     rw [q2,cond_true] at h
     right
     refine ⟨otq q2,?_⟩
     cases q3:Cr s.m a.which with
     | true=>rw [q3] at h; cases h
     | false =>
       rw [q3,cond_false] at h
       cases q4:decide (a.which < 0) with
       | true=>rw [q4] at h; cases h
       | false =>
         rw [q4,cond_false] at h
         cases q5:decide (s.m.l.g.ranks<=a.which) with
         | true=>rw [q5] at h; cases h
         | false =>
           have q4:=ofq q4
           have q5:=ofq q5
           have hr:0<=a.which/\a.which < s.m.l.g.ranks:=by omega
           refine ⟨hr,?_⟩
           rw [Aac mi hr] at q3
           by_cases e:spA s.m a.which=-1
           ·exact e
           ·rw [fq e] at q3; cases q3
theorem Atu {s:RepS} {a:Ak} (w:RW s) (h0:s.j=⟨0,0,0,0⟩) (hv:D3 s a=false):RI (B1 s a)/\LvS s.m (B1 s a).m/\((B1 s a).j.kind ≠ 0->(B1 s a).j.next=0):=by
 have mi:=w.mi
 have hl:=C0 mi.ok.right
 have hg:=Gm.rt mi.g
 have hpg:=mi.ok.pg
 have hrk:=mi.ok.rk
 have hlv:=T8 s a
 have hok:RepOk (B1 s a):=T9 w.ok
 have hall:∀ h,0<=h/\h < A0 s.m.l + s.m.pages->ddA s.m h=false->∃ p,p < s.m.lives.length/\lvA s.m p=h:=fun h hh hd=>w.all h hh hd (fun x=>by rw [h0] at x; exact absurd x.1 (by decide))
 refine ⟨?_,hlv,?_⟩
 rcases Az5 mi hv with ⟨k1,k2,k3,k4⟩ | ⟨k1,k2,k3⟩
 ·-- a page
  have es:B1 s a=bif decide ((((G7 s.m):Nat):Int)=0) then (⟨Cy s.m,⟨a.kind,a.which,Di s.m,0⟩,s.q⟩:RepS) else { s with m:=Cy s.m }:=by
   unfold B1; rw [fq (show ¬ a.kind=2 by omega)]; rfl
  unfold G7 Di Cy at es
  cases hf:C5 s.m with
  | false =>
    rw [hf] at es
    have es:B1 s a=s:=es
    rw [es]
    exact ⟨w,fun x=>absurd (by rw [h0]) x⟩
  | true =>
    rw [hf] at es
    have hne:s.m.pages ≠ s.m.l.res:=fun e=>by unfold C5 at hf; rw [tq e] at hf; cases hf
    have hfp:Ci s.m=A0 s.m.l + s.m.pages:=by
     unfold Ci; rw [fq hne,cond_false]; exact Ca (by omega)
    have k4:=k4 hf
    rw [hfp] at k4
    have es:B1 s a=(⟨{ s.m with pages:=IntKind.i64.wrap (s.m.pages + 1) },⟨a.kind,a.which,Ci s.m,0⟩,s.q⟩:RepS):=es
    rw [hfp,Ca (x:=s.m.pages + 1) (by omega)] at es
    rw [es] at hok hlv ⊢
    refine ⟨⟨hok,⟨hok.m,mi.mp.same hlv,fun p hp=>?_,mi.inj,fun h h1 h2=>?_,mi.sb,mi.si⟩,Or.inr (Or.inl ⟨k1,?_,k3,?_,?_,?_,fun p hp=>?_,⟨Int.le_refl _,by show (0:Int)<=s.m.l.g.cols; omega⟩⟩),fun h hh hd hn=>?_⟩,fun _=>?_⟩
    ·have:=mi.live p hp
     refine ⟨⟨this.1.1,?_⟩,this.2⟩
     have h9:=this.1.2
     show lvA s.m p < A0 s.m.l + (s.m.pages + 1)
     omega
    ·have:=mi.du h h1 h2
     show h < A0 s.m.l + (s.m.pages + 1)
     omega
    ·show 0<=a.which/\a.which < A0 s.m.l + (s.m.pages + 1); omega
    ·show A0 s.m.l<=A0 s.m.l + s.m.pages/\A0 s.m.l + s.m.pages < A0 s.m.l + (s.m.pages + 1); omega
    ·show ddA s.m (A0 s.m.l + s.m.pages)=false
     cases q:ddA s.m (A0 s.m.l + s.m.pages) with
     | false=>rfl
     | true=>have:=mi.du _ (by omega) q; omega
    ·show a.which ≠ A0 s.m.l + s.m.pages; omega
    ·have:=(mi.live p hp).1
     show lvA s.m p ≠ A0 s.m.l + s.m.pages
     omega
    ·have hh:0<=h/\h < A0 s.m.l + (s.m.pages + 1):=hh
     have hn:¬ (a.kind=1/\A0 s.m.l + s.m.pages=h):=hn
     exact hall h (by omega) hd
    ·show (0:Int) < A6 _ s.m.l
     unfold A6
     rw [tq k1]
     show (0:Int) < s.m.l.g.cols
     omega
 ·-- a rank
  have es:B1 s a=bif decide ((((F9 s.m):Nat):Int)=0) then (⟨Cj s.m,⟨a.kind,a.which,D5 s.m,0⟩,s.q⟩:RepS) else { s with m:=Cj s.m }:=by
   unfold B1; rw [tq k1]; rfl
  unfold F9 D5 Cj at es
  cases hf:Co s.m with
  | false =>
    rw [hf] at es
    have es:B1 s a=s:=es
    rw [es]
    exact ⟨w,fun x=>absurd (by rw [h0]) x⟩
  | true =>
    rw [hf] at es
    have hne:s.m.rks ≠ s.m.l.g.spares:=fun e=>by unfold Co at hf; rw [tq e] at hf; cases hf
    have hfp:Dg s.m=s.m.l.g.ranks + s.m.rks:=by
     unfold Dg; rw [fq hne,cond_false]; exact Ca (by omega)
    have es:B1 s a=(⟨{ s.m with rks:=IntKind.i64.wrap (s.m.rks + 1) },⟨a.kind,a.which,Dg s.m,0⟩,s.q⟩:RepS):=es
    rw [hfp,Ca (x:=s.m.rks + 1) (by omega)] at es
    rw [es] at hok hlv ⊢
    have m1:1<=s.m.l.g.banks * s.m.l.g.rows:=by
     have:=Int.mul_pos (a:=s.m.l.g.banks) (b:=s.m.l.g.rows) (by omega) (by omega)
     omega
    have m2:1<=s.m.l.g.banks * s.m.l.g.rows * s.m.l.g.cols:=by
     have:=Int.mul_pos (a:=s.m.l.g.banks * s.m.l.g.rows) (b:=s.m.l.g.cols) (by omega) (by omega)
     omega
    refine ⟨⟨hok,⟨hok.m,mi.mp.same hlv,mi.live,mi.inj,mi.du,fun r hr=>?_,mi.si⟩,Or.inr (Or.inr ⟨k1,k2,k3,?_,fun r hr=>?_,⟨Int.le_refl _,?_⟩⟩),fun h hh hd hn=>hall h hh hd⟩,fun _=>?_⟩
    ·rcases mi.sb r hr with h | h
     ·exact Or.inl h
     ·refine Or.inr ⟨h.1,?_⟩
      have h9:=h.2
      show spA s.m r < s.m.l.g.ranks + (s.m.rks + 1)
      omega
    ·show s.m.l.g.ranks<=s.m.l.g.ranks + s.m.rks/\s.m.l.g.ranks + s.m.rks < s.m.l.g.ranks + (s.m.rks + 1); omega
    ·have hr:0<=r/\r < s.m.l.g.ranks:=hr
     have:=mi.sb r hr
     show spA s.m r ≠ s.m.l.g.ranks + s.m.rks
     omega
    ·show (0:Int)<=s.m.l.g.banks * s.m.l.g.rows * s.m.l.g.cols; omega
    ·show (0:Int) < A6 _ s.m.l
     have hc:=(Q5 (j:=(⟨a.kind,a.which,s.m.l.g.ranks + s.m.rks,0⟩:Jb)) (l:=s.m.l) mi.g).2.2
     unfold A6
     rw [fq (show ¬ a.kind=1 by omega),tq k1]
     show (0:Int) < Cd s.m.l.g
     omega
 ·have e0:s.j.next=0:=by rw [h0]
  let p:=fun t:RepS=>t.j.kind ≠ 0->t.j.next=0
  unfold B1
  exact Ad (p:=p) (Ad (p:=p) (fun _=>rfl) (fun _=>e0)) (Ad (p:=p) (fun _=>rfl) (fun _=>e0))
theorem Axl {s:RepS} (mi:MI s.m) (h:s.j.kind ≠ 0->s.j.next=0) (x:Int) {k:Int} (hk:0<=k/\k < s.m.l.g.cols):hpl s x k=Hx s.m x k:=by
 by_cases e:s.j.kind=0
 ·exact Zp e x k
 ·have h:=h e
  have i1:=Mu mi.g s.m.l.way x
  have hord:=A65 mi.g (p:=C2 s.m.l.g s.m.l.way x) i1.2.1 i1.2.2.1 hk
  unfold hpl
  rw [if_neg (by omega),if_neg (by omega)]
theorem Ass {s t:MapS} (h:LvS s t) (x k:Int):Hx t x k=Hx s x k:=by
 obtain ⟨h1,h2,h3⟩:=h
 unfold Hx Sg Cr Gn; rw [h2,h3]
structure StH (s t:RepS):Prop where
 l:t.m.l=s.m.l
 n:t.m.lives.length=s.m.lives.length
 h:∀ p k,p < s.m.lives.length->(0<=k/\k < s.m.l.g.cols)->hpl t (lvA t.m p) k=hpl s (lvA s.m p) k
theorem StH.refl (s:RepS):StH s s:=⟨rfl,rfl,fun _ _ _ _=>rfl⟩
theorem StH.trans {a b c:RepS} (h:StH a b) (k:StH b c):StH a c:=⟨k.l.trans h.l,k.n.trans h.n,fun p x hp hx=>(k.h p x (by rw [h.n]; exact hp) (by rw [h.l]; exact hx)).trans (h.h p x hp hx)⟩
theorem Ago {s:RepS} {a:Ak} (w:RW s) (h0:s.j=⟨0,0,0,0⟩) (hv:D3 s a=false):RI (B1 s a)/\StH s (B1 s a):=by
 obtain ⟨h1,h2,h3⟩:=Atu w h0 hv
 refine ⟨h1,⟨h2.2.1,by rw [h2.1],fun p k hp hk=>?_⟩⟩
 rw [Axl h1.w.mi h3 _ (by rw [h2.2.1]; exact hk),Zp (by rw [h0]),Ass h2]
 unfold lvA; rw [h2.1]
theorem RW.q {s:RepS} (w:RW s) {q:RgS} (hq:RgOk q):RW { s with q:=q }:=⟨⟨w.ok.m,hq,w.ok.g⟩,w.mi,w.jw,w.all⟩
theorem StH.q (s:RepS) (q:RgS):StH s { s with q:=q }:=⟨rfl,rfl,fun _ _ _ _=>rfl⟩
theorem Atn {s:RepS} (h:RI s) (a:Ak):RI (Bf s a)/\StH s (Bf s a):=by
 unfold Bf
 cases hv:D3 s a with
 | true=>exact ⟨h,.refl _⟩
 | false =>
   rw [cond_false]
   cases hk:decide (s.j.kind=0) with
   | true =>
     have hk:=otq hk
     refine Ago h.w ?_ hv
     rcases h.w.jw with j | j | j
     ·exact j
     ·have:=j.1; omega
     ·have:=j.1; omega
   | false=>exact ⟨⟨h.w.q (A9u h.w.ok.q),h.lt⟩,.q _ _⟩
theorem Ax6 {x:RepS × List Ev} (w:RI x.1) (hg:Pt x=true):RI (Vz x).1/\StH x.1 (Vz x).1:=by
 unfold Pt at hg
 simp only [bq,decide_eq_true_eq] at hg
 have h0:x.1.j=⟨0,0,0,0⟩:=by
  rcases w.w.jw with j | j | j
  ·exact j
  ·have:=j.1; omega
  ·have:=j.1; omega
 have hq:=Pi w.w.ok.q
 have wq:=w.w.q hq
 unfold Vz
 cases hv:D3 { x.1 with q:=B2 x.1.q } ⟨Ce x.1.q,Cf x.1.q⟩ with
 | true=>exact ⟨⟨wq,w.lt⟩,.q _ _⟩
 | false =>
   obtain ⟨a,b⟩:=Ago wq h0 hv
   exact ⟨a,(StH.q _ _).trans b⟩
theorem Alx {s:RepS} (w:RW s) (hb:s.j.kind ≠ 0) (hn:s.j.next=A6 s.j s.m.l):∀ i,i<=L8 s->RI (Cu s i).1/\StH s (Cu s i).1
 | 0,_=>by
   obtain ⟨a,b,c,d,e⟩:=Ax5 w hb
   have hx:(Cu s 0).1=F7 s:=rfl
   rw [hx]
   exact ⟨⟨a,fun x=>absurd (by rw [b]) x⟩,⟨c,d,e hn⟩⟩
 | i + 1,hi=>by
   obtain ⟨a,b⟩:=Alx w hb hn i (by omega)
   obtain ⟨c,d⟩:=Ax6 a (Af0 (by omega))
   exact ⟨c,b.trans d⟩
theorem Adb {s:RepS} (w:RW s) (hb:s.j.kind ≠ 0) (hn:s.j.next=A6 s.j s.m.l):RI (Cv s)/\StH s (Cv s):=by
 obtain ⟨a,b⟩:=Alx w hb hn _ (Nat.le_refl _)
 unfold Cv
 cases decide ((Cu s (L8 s)).1.j.kind=0)
 ·exact ⟨a,b⟩
 ·exact ⟨⟨a.w.q (Pi a.w.ok.q),a.lt⟩,b.trans (.q _ _)⟩
def Lns (l:Ly) (n:Int):Prop:=0<=n/\n < IntKind.i64.wrap ((A0 l) * l.g.cols)
def RT (s:RepS) (n:Int):Int:=I9 s.j s.m n
def nP (s:RepS) (n:Int):Pl:=hpl s (lvA s.m (n / s.m.l.g.cols).toNat) (n % s.m.l.g.cols)
theorem Lns.b {s:MapS} (mi:MI s) {n:Int} (hn:Lns s.l n):(n / s.l.g.cols).toNat < s.lives.length/\(0<=n % s.l.g.cols/\n % s.l.g.cols < s.l.g.cols)/\(((n / s.l.g.cols).toNat:Nat):Int)=n / s.l.g.cols:=by
 obtain ⟨b1,b2,_,_,_⟩:=A05 mi.ok.right hn
 have hg:=Gm.rt mi.g
 have:=mi.ok.nl
 exact ⟨by omega,Fi (by omega),by omega⟩
theorem Qm {s:RepS} (w:RW s):Cq s.j s.m=true:=by
 have mi:=w.mi
 have hl:=C0 mi.ok.right
 have hg:=Gm.rt mi.g
 have hpg:=mi.pgs
 have hc:=Q5 (j:=s.j) (l:=s.m.l) mi.g
 unfold Cq
 rcases w.jw with j | j | j
 ·rw [j]; rfl
 ·obtain ⟨h1,h2,h3,h4,h5,h6,h7,h8⟩:=j
  have hnd:=mi.ok.nd
  have ec:A6 s.j s.m.l=s.m.l.g.cols:=by unfold A6; rw [tq h1]; rfl
  rw [fq (show ¬ s.j.kind=0 by omega),tq h1,ec,Ca (x:=s.m.l.g.cols + 1) (by omega),I6 (show 0<=s.j.next/\s.j.next < s.m.l.g.cols + 1 by omega)]
  unfold Kd Hy
  rw [I6 (show 0<=s.j.src/\s.j.src < A9 s.m.l.g by omega),I6 (show 0<=s.j.goal/\s.j.goal < A9 s.m.l.g by omega),fq h6,Hk (show 0<=s.j.src/\s.j.src < ((s.m.dead.length:Nat):Int) by omega),Hk (show 0<=s.j.goal/\s.j.goal < ((s.m.dead.length:Nat):Int) by omega),show s.m.dead.getD s.j.src.toNat eT0=false from h3,show s.m.dead.getD s.j.goal.toNat eT0=false from h5]
  rfl
 ·obtain ⟨h1,h2,h3,h4,h5,h6⟩:=j
  have hrk:=mi.ok.rk
  have ec:A6 s.j s.m.l=Cd s.m.l.g:=by unfold A6; rw [fq (show ¬ s.j.kind=1 by omega),tq h1]; rfl
  rw [fq (show ¬ s.j.kind=0 by omega),fq (show ¬ s.j.kind=1 by omega),tq h1,Ca (x:=A6 s.j s.m.l + 1) (by omega),I6 (show 0<=s.j.next/\s.j.next < A6 s.j s.m.l + 1 by omega)]
  unfold Ke
  rw [I6 h2,Aac mi h2,tq h3,D1 (x:=s.j.goal - s.m.l.g.ranks) (by omega) (by omega),I6 (show 0<=s.j.goal - s.m.l.g.ranks/\s.j.goal - s.m.l.g.ranks < s.m.l.g.spares by omega)]
  rfl
theorem Axk {s:RepS} (w:RW s) {p:Nat} (hp:p < s.m.lives.length) {k:Int} (hk:0<=k/\k < s.m.l.g.cols):s.m.l.g.holds (hpl s (lvA s.m p) k)=true:=by
 have mi:=w.mi
 have hpg:=mi.pgs
 have hl:=C0 mi.ok.right
 have l1:=(mi.live p hp).1
 have h0:s.m.l.g.holds (Hx s.m (lvA s.m p) k)=true:=P9 mi.ok mi.mp.sp (by omega) hk
 have i1:=Mu mi.g s.m.l.way (lvA s.m p)
 have hrk:=mi.ok.rk
 unfold hpl
 split
 ·next h =>
  rcases w.jw with j | j | j
  ·rw [j] at h; exact absurd h.1 (by decide)
  ·have:=j.2.2.2.1; exact P9 mi.ok mi.mp.sp (by omega) hk
  ·have:=j.1; omega
 ·split
  ·next h =>
   rcases w.jw with j | j | j
   ·rw [j] at h; exact absurd h.1 (by decide)
   ·have:=j.1; omega
   ·have:=j.2.2.2.1
    have hg:=Gm.rt mi.g
    exact Kv mi.g (p:=⟨s.j.goal,_,_,k⟩) (show 0<=s.j.goal/\s.j.goal < s.m.l.g.ranks + s.m.l.g.spares by omega) i1.2.1 i1.2.2.1 hk
  ·exact h0
theorem Te {s:RepS} (w:RW s) {n:Int} (hn:Lns s.m.l n):RT s n=(nP s n).ix/\s.m.l.g.holds (nP s n)=true:=by
 have mi:=w.mi
 have hl:=C0 mi.ok.right
 have hpg:=mi.pgs
 have h0:=A09 mi.ok mi.mp.lv hn
 obtain ⟨e0,e1,e2,e3⟩:=A3b mi.ok mi.mp.lv mi.mp.sp hn
 obtain ⟨b1,b2,b3⟩:=hn.b mi
 obtain ⟨_,_,_,b4,_⟩:=A05 mi.ok.right hn
 have hp:=Axk w b1 b2
 refine ⟨?_,hp⟩
 have hx:s.m.lives.getD (n / s.m.l.g.cols).toNat eI0=lvA s.m (n / s.m.l.g.cols).toNat:=rfl
 rw [hx] at e0 e1 e2 e3
 unfold RT nP I9
 have hg:=Aib e1
 rw [h0,Qm w,e2,e3,b4,e0,hg]
 generalize lvA s.m (n / s.m.l.g.cols).toNat=h at *
 generalize n % s.m.l.g.cols=k at *
 simp only [cond_true,decide_true]
 have hr:=Gm.rt mi.g
 rcases w.jw with j | j | j
 ·rw [Zp (by rw [j]),fq (show ¬ s.j.kind=1 by rw [j]; decide),fq (show ¬ s.j.kind=2 by rw [j]; decide)]; rfl
 ·rw [Zq j.1,tq j.1,fq (show ¬ s.j.kind=2 by have:=j.1; omega)]
  simp only [cond_true,cond_false]
  by_cases q1:h=s.j.src
  ·rw [tq q1]
   by_cases q2:k < s.j.next
   ·rw [tq q2,if_pos ⟨q1,q2⟩]
    have hgo:0<=s.j.goal/\s.j.goal < A9 s.m.l.g:=by have:=j.2.2.2.1; omega
    have ec:A6 s.j s.m.l=s.m.l.g.cols:=by unfold A6; rw [tq j.1]; rfl
    show Fm s.j s.m s.j.goal k=_
    unfold Fm
    rw [Qm w,ec,I6 b2,fq (show ¬ s.j.kind=2 by have:=j.1; omega),Rz mi.ok hgo]
    exact Y7 mi.ok mi.mp.sp hgo b2
   ·rw [fq q2,if_neg (fun x=>q2 x.2)]; rfl
  ·rw [fq q1,if_neg (fun x=>q1 x.1)]; rfl
 ·rw [U8 j.1, fq (show ¬ s.j.kind = 1 by have := j.1; omega), tq j.1]
  simp only [cond_true,cond_false]
  have i1:=Mu mi.g s.m.l.way h
  by_cases q1:(C2 s.m.l.g s.m.l.way h).rank=s.j.src
  ·rw [tq q1]
   show (bif decide (Kg s.m.l.g (C2 s.m.l.g s.m.l.way h) k < s.j.next) then Fm s.j s.m s.j.goal (Kg s.m.l.g (C2 s.m.l.g s.m.l.way h) k) else (Hx s.m h k).ix)=_
   by_cases q2:Kg s.m.l.g (C2 s.m.l.g s.m.l.way h) k < s.j.next
   ·rw [tq q2,if_pos ⟨q1,q2⟩,cond_true]
    have hord:=A65 mi.g (p:=C2 s.m.l.g s.m.l.way h) i1.2.1 i1.2.2.1 b2
    have hc:=(Q5 (j:=s.j) (l:=s.m.l) mi.g).2.2
    have ec:A6 s.j s.m.l=s.m.l.g.banks * s.m.l.g.rows * s.m.l.g.cols:=by
     unfold A6; rw [fq (show ¬ s.j.kind=1 by have:=j.1; omega),tq j.1]; exact hc
    have hrk:=mi.ok.rk
    have hgo:=j.2.2.2.1
    unfold Fm
    rw [Qm w,ec,I6 hord,tq j.1]
    simp only [cond_true]
    rw [(Ao9 mi.g (r:=s.j.goal) (by omega) hord).1,Ul mi.g i1.2.2.1 b2]
   ·rw [fq q2,if_neg (fun x=>q2 x.2)]; rfl
  ·rw [fq q1,if_neg (fun x=>q1 x.1)]; rfl
theorem Avt {s:RepS} (w:RW s) {n m:Int} (hn:Lns s.m.l n) (hm:Lns s.m.l m) (e:RT s n=RT s m):n=m:=by
 obtain ⟨a1,a2⟩:=Te w hn
 obtain ⟨b1,b2⟩:=Te w hm
 rw [a1,b1] at e
 have k:=A5k a2 b2 e
 obtain ⟨c1,c2,c3⟩:=hn.b w.mi
 obtain ⟨d1,d2,d3⟩:=hm.b w.mi
 obtain ⟨h1,h2⟩:=Asi w c1 d1 k
 have hg:=Gm.rt w.mi.g
 exact Up (r:=0) (s:=0) (by omega) h2 (by rw [← c3,← d3,h1])
theorem Au7 {s t:RepS} (w:RW s) (w':RW t) (h:StH s t) {n:Int} (hn:Lns s.m.l n):RT t n=RT s n:=by
 obtain ⟨c1,c2,_⟩:=hn.b w.mi
 rw [(Te w hn).1,(Te w' (by rw [h.l]; exact hn)).1]
 unfold nP
 rw [h.l,h.h _ _ c1 c2]
theorem S0 {s:RepS} (h:RI s) (hb:s.j.kind ≠ 0):A5 s=(frP s).ix/\Ax s=(toP s).ix/\G1 s=0/\s.m.l.g.holds (frP s)=true/\s.m.l.g.holds (toP s)=true:=by
 have w:=h.w
 have mi:=w.mi
 have hl:=C0 mi.ok.right
 have hpg:=mi.pgs
 have hlt:=h.lt hb
 have hr:=Gm.rt mi.g
 have hrk:=mi.ok.rk
 have hc:=(Q5 (j:=s.j) (l:=s.m.l) mi.g).2.2
 rcases w.jw with j | j | j
 ·exact absurd (by rw [j]) hb
 ·have hgo:0<=s.j.goal/\s.j.goal < A9 s.m.l.g:=by have:=j.2.2.2.1; omega
  have hsr:0<=s.j.src/\s.j.src < A9 s.m.l.g:=by have:=j.2.1; omega
  have ec:A6 s.j s.m.l=s.m.l.g.cols:=by unfold A6; rw [tq j.1]; rfl
  have hk:0<=s.j.next/\s.j.next < s.m.l.g.cols:=by have:=j.2.2.2.2.2.2.2; omega
  obtain ⟨f1,f2⟩:=Axe j.1
  have hat:∀ x,(0<=x/\x < A9 s.m.l.g)->Fm s.j s.m x s.j.next=(Hx s.m x s.j.next).ix/\Gi s.j s.m x s.j.next=0:=fun x hx=>by
   unfold Fm Gi
   rw [Qm w,ec,I6 hk,fq (show ¬ s.j.kind=2 by have:=j.1; omega),Rz mi.ok hx]
   exact ⟨Y7 mi.ok mi.mp.sp hx hk,rfl⟩
  obtain ⟨x1,x2⟩:=hat _ hsr
  obtain ⟨y1,y2⟩:=hat _ hgo
  rw [f1,f2]
  unfold A5 Ax G1
  rw [fq hb,x1,x2,y1,y2]
  exact ⟨rfl,rfl,rfl,P9 mi.ok mi.mp.sp hsr hk,P9 mi.ok mi.mp.sp hgo hk⟩
 ·have hj:=j
  have ec:A6 s.j s.m.l=s.m.l.g.banks * s.m.l.g.rows * s.m.l.g.cols:=by
   unfold A6; rw [fq (show ¬ s.j.kind=1 by have:=j.1; omega),tq j.1]; exact hc
  have hk:0<=s.j.next/\s.j.next < s.m.l.g.banks * s.m.l.g.rows * s.m.l.g.cols:=by have:=j.2.2.2.2.2; omega
  obtain ⟨f1,f2⟩:=Am2 j.1
  have hat:∀ x,(0<=x/\x < s.m.l.g.ranks + s.m.l.g.spares)->Fm s.j s.m x s.j.next=(Pc s.m.l.g x s.j.next).ix/\Gi s.j s.m x s.j.next=0:=fun x hx=>by
   unfold Fm Gi
   rw [Qm w,ec,I6 hk,tq j.1]
   exact Ao9 mi.g hx hk
  have hs1:=j.2.1
  have hs2:=j.2.2.2.1
  obtain ⟨x1,x2⟩:=hat s.j.src (by omega)
  obtain ⟨y1,y2⟩:=hat s.j.goal (by omega)
  rw [f1,f2]
  unfold A5 Ax G1
  rw [fq hb,x1,x2,y1,y2]
  exact ⟨rfl,rfl,rfl,Acr mi.g (by omega) hk,Acr mi.g (by omega) hk⟩
theorem B24 {s:RepS} (h:RI s) (hb:s.j.kind ≠ 0):RW (nx s):=by
 have w:=h.w
 have hlt:=h.lt hb
 have hc:=(Q5 (j:=s.j) (l:=s.m.l) w.mi.g).2.2
 refine ⟨⟨w.ok.m,w.ok.q,w.ok.g⟩,w.mi,?_,w.all⟩
 rcases w.jw with j | j | j
 ·exact absurd (by rw [j]) hb
 ·have ec:A6 s.j s.m.l=s.m.l.g.cols:=by unfold A6; rw [tq j.1]; rfl
  obtain ⟨h1,h2,h3,h4,h5,h6,h7,h8⟩:=j
  exact Or.inr (Or.inl ⟨h1,h2,h3,h4,h5,h6,h7,by show 0<=s.j.next + 1/\s.j.next + 1<=s.m.l.g.cols; omega⟩)
 ·have ec:A6 s.j s.m.l=s.m.l.g.banks * s.m.l.g.rows * s.m.l.g.cols:=by
   unfold A6; rw [fq (show ¬ s.j.kind=1 by have:=j.1; omega),tq j.1]; exact hc
  obtain ⟨h1,h2,h3,h4,h5,h6⟩:=j
  exact Or.inr (Or.inr ⟨h1,h2,h3,h4,h5,by show 0<=s.j.next + 1/\s.j.next + 1<=s.m.l.g.banks * s.m.l.g.rows * s.m.l.g.cols; omega⟩)
theorem Aov {s:RepS} (h:RI s) (hb:s.j.kind ≠ 0):RI (Du s)/\(Du s).m.l=s.m.l/\(∀ n,Lns s.m.l n->RT (Du s) n=(if RT s n=A5 s then Ax s else RT s n)/\RT s n ≠ Ax s):=by
 have w:=h.w
 have wn:=B24 h hb
 have hc:=Q5 (j:=s.j) (l:=s.m.l) w.mi.g
 have hlt:=h.lt hb
 have hn0:0<=s.j.next:=by
  rcases w.jw with j | j | j
  ·exact absurd (by rw [j]) hb
  ·exact j.2.2.2.2.2.2.2.1
  ·exact j.2.2.2.2.2.1
 obtain ⟨e0,e1,_,h3,h4⟩:=S0 h hb
 have hnx:(⟨s.m,{ s.j with next:=IntKind.i64.wrap (s.j.next + 1) },s.q⟩:RepS)=nx s:=by rw [Ca (x:=s.j.next + 1) (by omega)]; rfl
 -- the routes behind the move
 have hrt:∀ n,Lns s.m.l n->RT (nx s) n=(if RT s n=A5 s then Ax s else RT s n)/\RT s n ≠ Ax s:=fun n hn=>by
  obtain ⟨c1,c2,_⟩:=hn.b w.mi
  obtain ⟨m1,m2⟩:=Axm w hb hlt c1 c2
  obtain ⟨a1,a2⟩:=Te w hn
  rw [(Te wn (n:=n) hn).1,a1,e0,e1]
  refine ⟨?_,fun e=>m2 (A5k a2 h4 e)⟩
  show (hpl (nx s) (lvA s.m (n / s.m.l.g.cols).toNat) (n % s.m.l.g.cols)).ix=_
  rw [m1]
  by_cases e:hpl s (lvA s.m (n / s.m.l.g.cols).toNat) (n % s.m.l.g.cols)=frP s
  ·rw [if_pos e,if_pos (by unfold nP; rw [e])]
  ·rw [if_neg e,if_neg (show ¬ (nP s n).ix=(frP s).ix from fun x=>e (A5k a2 h3 x))]; rfl
 unfold Du
 rw [fq hb,cond_false]
 show RI (bif Fc _ s.m.l then Cv (⟨s.m,{ s.j with next:=IntKind.i64.wrap (s.j.next + 1) },s.q⟩:RepS) else (⟨s.m,{ s.j with next:=IntKind.i64.wrap (s.j.next + 1) },s.q⟩:RepS))/\(bif Fc _ s.m.l then Cv (⟨s.m,{ s.j with next:=IntKind.i64.wrap (s.j.next + 1) },s.q⟩:RepS) else (⟨s.m,{ s.j with next:=IntKind.i64.wrap (s.j.next + 1) },s.q⟩:RepS)).m.l=s.m.l/\(∀ n,Lns s.m.l n->RT (bif Fc _ s.m.l then Cv (⟨s.m,{ s.j with next:=IntKind.i64.wrap (s.j.next + 1) },s.q⟩:RepS) else (⟨s.m,{ s.j with next:=IntKind.i64.wrap (s.j.next + 1) },s.q⟩:RepS)) n=_/\_)
 rw [hnx,Ca (x:=s.j.next + 1) (by omega)]
 cases q:Fc { s.j with next:=s.j.next + 1 } s.m.l with
 | false =>
   rw [cond_false]
   refine ⟨⟨wn,fun _=>?_⟩,rfl,hrt⟩
   unfold Fc at q
   have hb':¬ ({ s.j with next:=s.j.next + 1 }:Jb).kind=0:=hb
   rw [fq hb',cond_false] at q
   have q:=ofq q
   have e:A6 ({ s.j with next:=s.j.next + 1 }:Jb) s.m.l=A6 s.j s.m.l:=rfl
   rw [e] at q
   show s.j.next + 1 < A6 s.j s.m.l
   have q:¬ s.j.next + 1=A6 s.j s.m.l:=q
   omega
 | true =>
   rw [cond_true]
   unfold Fc at q
   have hb':¬ ({ s.j with next:=s.j.next + 1 }:Jb).kind=0:=hb
   rw [fq hb',cond_false] at q
   obtain ⟨a,b⟩:=Adb wn hb (otq q)
   exact ⟨a,b.l,fun n hn=>by rw [Au7 wn a.w b hn]; exact hrt n hn⟩
theorem Anr {x y z a b c:Int} (hx:0<=x/\x < a) (hy:0<=y/\y < b) (hz:0<=z/\z < c):0<=(z * b + y) * a + x/\(z * b + y) * a + x < c * b * a/\0<=z * b/\0<=(z * b + y) * a/\z * b + y < c * b:=by
 have m0:0<=z * b:=Int.mul_nonneg hz.1 (by omega)
 have m1:0<=(z * b + y) * a:=Int.mul_nonneg (by omega) (by omega)
 have m2:z * b + y + 1<=c * b:=by
  have:(z + 1) * b<=c * b:=Int.mul_le_mul_of_nonneg_right (by omega) (by omega)
  rw [Int.add_mul,Int.one_mul] at this
  omega
 have m3:(z * b + y + 1) * a<=c * b * a:=Int.mul_le_mul_of_nonneg_right m2 (by omega)
 rw [Int.add_mul (z * b + y),Int.one_mul] at m3
 omega
theorem At5 {x y z a b c:Int} (hx:0<=x/\x < a) (hy:0<=y/\y < b) (hz:0<=z/\z < c) (hm:c * b * a<=131072):H3 x y z a b c=(z * b + y) * a + x:=by
 obtain ⟨h1,h2,h3,h4,h5⟩:=Anr hx hy hz
 have h6:c * b<=131072:=by
  have:c * b * 1<=c * b * a:=Int.mul_le_mul_of_nonneg_left (by omega) (by omega)
  omega
 have h7:z<=131072:=by
  have:z * 1<=z * b:=Int.mul_le_mul_of_nonneg_left (by omega) hz.1
  omega
 unfold H3
 show IntKind.i64.wrap (IntKind.i64.wrap (IntKind.i64.wrap (IntKind.i64.wrap (IntKind.i64.wrap (IntKind.i64.wrap (0 * c) + z) * b) + y) * a) + x)=_
 rw [Int.zero_mul,show IntKind.i64.wrap 0=0 from rfl,Int.zero_add,Ca (x:=z) (by omega),Ca (x:=z * b) (by omega),Ca (x:=z * b + y) (by omega),Ca (x:=(z * b + y) * a) (by omega),Ca (by omega)]
theorem Asj {g:Gm} {w:Int} (hi:B7 g w=true) (hg:g.right=true) {r b k:Int} (h1:0<=r/\r < g.ranks) (h2:0<=b/\b < g.banks) (h3:0<=k/\k < g.rows) :
 (0<=Hu g w (r * 16384 + b * 1024 + k)/\Hu g w (r * 16384 + b * 1024 + k) < A9 g)/\C2 g w (Hu g w (r * 16384 + b * 1024 + k))=⟨r,b,k,0⟩:=by
 have hr:=Gm.rt hg
 obtain ⟨hp,_,hq⟩:=J7 hg
 have hh:g.holds ⟨r,b,k,0⟩=true:=Kv hg ⟨h1.1,by show r < _; omega⟩ h2 h3 ⟨Int.le_refl _,by show (0:Int) < g.cols; omega⟩
 obtain ⟨a1,a2,a3,a4⟩:=Ip hh
 simp only at a1 a2 a3 a4
 have ex:IntKind.i64.wrap ((r * 16384 + b * 1024 + k) * 2 ^ 6)=(⟨r,b,k,0⟩:Pl).ix:=by
  rw [Zv (p:=⟨r,b,k,0⟩) a1 a2 a3 a4,show (2:Int) ^ 6=64 from rfl,Ca (by omega)]
  show _=r * 1048576 + b * 65536 + k * 64 + 0
  omega
 have hat:g.at (⟨r,b,k,0⟩:Pl).ix=⟨r,b,k,0⟩:=by
  unfold Gm.at; rw [K5 hh,S3 (p:=⟨r,b,k,0⟩) a1 a2 a3 a4]; rfl
 have hm:=B0f hg h2 h3
 have hmm:bits .xor .i64 (bits .xor .i64 b (bits .and .i64 k (IntKind.i64.wrap (g.banks - 1)))) (bits .and .i64 k (IntKind.i64.wrap (g.banks - 1)))=b:=by
  obtain ⟨x,y,e1,e2,e3,e4⟩:=Ais (Gm.pw hg) h2 (b:=k) (by omega)
  obtain ⟨x',y',e1',e2',e3',e4'⟩:=Ais (Gm.pw hg) hm (b:=k) (by omega)
  rw [e2',e1]
  have:x'=x ^^^ y:=by omega
  rw [this,e4',← e4,Nat.xor_assoc,Nat.xor_self,Nat.xor_zero]
 have c1:g.ranks * g.banks * g.rows=g.ranks * g.rows * g.banks:=Int.mul_right_comm ..
 have c2:g.ranks * g.banks * g.rows=g.rows * g.banks * g.ranks:=by rw [Int.mul_comm g.ranks g.banks,Int.mul_comm g.rows,Int.mul_assoc,Int.mul_comm g.ranks,← Int.mul_assoc]
 have B:Hu g w (r * 16384 + b * 1024 + k)=bif decide (w=0) then (r * g.banks + b) * g.rows + k else (bif decide (w=1) then (r * g.rows + k) * g.banks + b else (bif decide (w=3) then (k * g.banks + bits .xor .i64 b (bits .and .i64 k (IntKind.i64.wrap (g.banks - 1)))) * g.ranks + r else (k * g.banks + b) * g.ranks + r)):=by
  unfold Hu
  rw [hi,fq (show ¬ r * 16384 + b * 1024 + k < 0 by omega),fq (show ¬ 131072<=r * 16384 + b * 1024 + k by omega),ex,Ma (K5 hh),hat]
  simp only [cond_true,cond_false,decide_true]
  rw [fq (show ¬ g.ranks<=r by omega),cond_false]
  rw [At5 (x:=k) (y:=b) (z:=r) (a:=g.rows) (b:=g.banks) (c:=g.ranks) h3 h2 h1 (by omega),At5 (x:=b) (y:=k) (z:=r) (a:=g.banks) (b:=g.rows) (c:=g.ranks) h2 h3 h1 (by omega),At5 (x:=r) (y:=b) (z:=k) (a:=g.ranks) (b:=g.banks) (c:=g.rows) h1 h2 h3 (by omega),At5 (x:=r) (z:=k) (a:=g.ranks) (b:=g.banks) (c:=g.rows) h1 hm h3 (by omega)]
  cases q3:decide (w=3) with
  | true =>
    have q3:=otq q3
    rw [fq (show ¬ w=0 by omega),fq (show ¬ w=1 by omega)]; rfl
  | false=>cases decide (w=0) <;> cases decide (w=1) <;> rfl
 rw [B,hp]
 unfold C2
 cases q0:decide (w=0) with
 | true =>
   simp only [cond_true]
   have d:=Anr h3 h2 h1
   have e1:=dmx (x:=r * g.banks + b) (c:=g.rows) (by omega) h3
   have e2:=dmx (x:=r) (c:=g.banks) (by omega) h2
   rw [e1.1,e1.2,e2.1,e2.2,Xs h1]
   exact ⟨⟨d.1,d.2.1⟩,rfl⟩
 | false =>
   simp only [cond_false]
   cases q1:decide (w=1) with
   | true =>
     simp only [cond_true]
     have d:=Anr h2 h3 h1
     have e1:=dmx (x:=r * g.rows + k) (c:=g.banks) (by omega) h2
     have e2:=dmx (x:=r) (c:=g.rows) (by omega) h3
     rw [e1.1,e1.2,e2.1,e2.2,Xs h1]
     exact ⟨⟨d.1,by rw [c1]; exact d.2.1⟩,rfl⟩
   | false =>
     simp only [cond_false]
     cases q3:decide (w=3) with
     | true =>
       simp only [cond_true]
       have d:=Anr h1 hm h3
       have e1:=dmx (x:=k * g.banks + bits .xor .i64 b (bits .and .i64 k (IntKind.i64.wrap (g.banks - 1)))) (c:=g.ranks) (by omega) h1
       have e2:=dmx (x:=k) (c:=g.banks) (by omega) hm
       rw [e1.1,e1.2,e2.1,e2.2,Xs h3,hmm]
       exact ⟨⟨d.1,by rw [c2]; exact d.2.1⟩,rfl⟩
     | false =>
       simp only [cond_false]
       have d:=Anr h1 h2 h3
       have e1:=dmx (x:=k * g.banks + b) (c:=g.ranks) (by omega) h1
       have e2:=dmx (x:=k) (c:=g.banks) (by omega) h2
       rw [e1.1,e1.2,e2.1,e2.2,Xs h3]
       exact ⟨⟨d.1,by rw [c2]; exact d.2.1⟩,rfl⟩
def R9 (s:RepS):Int:=bif decide (s.j.kind=2) then Hu s.m.l.g s.m.l.way ((A5 s).fdiv (2 ^ 6)) else s.j.src
theorem Apf {s:RepS} (h:RI s) (j:J2 s.j s.m):(0<=R9 s/\R9 s < A9 s.m.l.g)/\C2 s.m.l.g s.m.l.way (R9 s)=⟨s.j.src,s.j.next / s.m.l.g.cols / s.m.l.g.rows,s.j.next / s.m.l.g.cols % s.m.l.g.rows,0⟩:=by
 have w:=h.w
 have mi:=w.mi
 have hl:=C0 mi.ok.right
 have hb:s.j.kind ≠ 0:=by have:=j.1; omega
 obtain ⟨e0,_,_,h3,_⟩:=S0 h hb
 have hr:=Gm.rt mi.g
 obtain ⟨f1,_⟩:=Am2 j.1
 rw [f1] at e0 h3
 obtain ⟨a1,a2,a3,a4⟩:=Ip h3
 obtain ⟨_,b1,b2,b3,b4⟩:=U7 h3
 have e:(A5 s).fdiv (2 ^ 6)=s.j.src * 16384 + (s.j.next / s.m.l.g.cols / s.m.l.g.rows) * 1024 + s.j.next / s.m.l.g.cols % s.m.l.g.rows:=by
  rw [e0,Zv a1 a2 a3 a4,Int.fdiv_eq_ediv_of_nonneg _ (by decide),show (2:Int) ^ 6=64 from rfl]
  show (s.j.src * 1048576 + (s.j.next / s.m.l.g.cols / s.m.l.g.rows) * 65536 + (s.j.next / s.m.l.g.cols % s.m.l.g.rows) * 64 + s.j.next % s.m.l.g.cols) / 64=_
  have b4:0<=s.j.next % s.m.l.g.cols/\s.j.next % s.m.l.g.cols < s.m.l.g.cols:=b4
  omega
 have eH:R9 s=Hu s.m.l.g s.m.l.way (s.j.src * 16384 + (s.j.next / s.m.l.g.cols / s.m.l.g.rows) * 1024 + s.j.next / s.m.l.g.cols % s.m.l.g.rows):=by
  unfold R9; rw [tq j.1,e]; rfl
 rw [eH]
 exact Asj hl.2.1 mi.g j.2.1 b2 b3
theorem Adm {s:MapS} (mi:MI s) {h:Int}:Gp s h=true ↔ (0<=h/\h < A0 s.l + s.pages)/\ddA s h=false:=by
 have hl:=C0 mi.ok.right
 have hp:=mi.ok.pg
 unfold Gp
 rw [Ca (x:=A0 s.l + s.pages) (by omega)]
 constructor
 ·intro h
  obtain ⟨a,b⟩:=cT h
  refine ⟨Ju a,?_⟩
  cases q:ddA s _ with
  | false=>rfl
  | true=>unfold ddA at q; rw [q] at b; cases b
 ·rintro ⟨a,b⟩
  unfold ddA at b
  rw [Hk a,b]; rfl
theorem Aq7 {s:RepS} (h:RI s) (hb:s.j.kind ≠ 0) (hu:Gp s.m (R9 s)=true):∃ n,Lns s.m.l n/\RT s n=A5 s:=by
 have w:=h.w
 have mi:=w.mi
 have hl:=C0 mi.ok.right
 have hnl:=mi.ok.nl
 have hlt:=h.lt hb
 have hr:=Gm.rt mi.g
 obtain ⟨u1,u2⟩:=(Adm mi).1 hu
 obtain ⟨e0,_,_,h3,_⟩:=S0 h hb
 have key:∀ p k,p < s.m.lives.length->(0<=k/\k < s.m.l.g.cols)->hpl s (lvA s.m p) k=frP s->∃ n,Lns s.m.l n/\RT s n=A5 s:=fun p k hp hk e=>by
  obtain ⟨d1,d2⟩:=dmx (x:=((p:Nat):Int)) (c:=s.m.l.g.cols) (by omega) hk
  have hn:Lns s.m.l (((p:Nat):Int) * s.m.l.g.cols + k):=by
   have m1:(((p:Nat):Int) + 1) * s.m.l.g.cols<=A0 s.m.l * s.m.l.g.cols:=Int.mul_le_mul_of_nonneg_right (by omega) (by omega)
   rw [Int.add_mul,Int.one_mul] at m1
   have m0:0<=((p:Nat):Int) * s.m.l.g.cols:=Int.mul_nonneg (by omega) (by omega)
   unfold Lns
   rw [hl.2.2.2.2.2.2.1]
   omega
  refine ⟨_,hn,?_⟩
  rw [(Te w hn).1,e0]
  unfold nP
  rw [d1,d2,show (((p:Nat):Int)).toNat=p by omega,e]
 rcases w.jw with j | j | j
 ·exact absurd (by rw [j]) hb
 ·have eH:R9 s=s.j.src:=by unfold R9; rw [fq (show ¬ s.j.kind=2 by have:=j.1; omega)]; rfl
  rw [eH] at u1 u2
  obtain ⟨p,hp,he⟩:=w.all s.j.src u1 u2 (fun x=>j.2.2.2.2.2.1 x.2.symm)
  have ec:A6 s.j s.m.l=s.m.l.g.cols:=by unfold A6; rw [tq j.1]; rfl
  refine key p s.j.next hp ⟨j.2.2.2.2.2.2.2.1,by omega⟩ ?_
  rw [Zq j.1,if_neg (by omega),(Axe j.1).1,he]
 ·obtain ⟨s1,s2⟩:=Apf h j
  obtain ⟨p,hp,he⟩:=w.all (R9 s) u1 u2 (fun x=>by have:=j.1; omega)
  have hk:0<=s.j.next % s.m.l.g.cols/\s.j.next % s.m.l.g.cols < s.m.l.g.cols:=Fi (by omega)
  refine key p (s.j.next % s.m.l.g.cols) hp hk ?_
  rw [Abx w j.1 hk,he,s2]
  exact ⟨rfl,A66 (g:=s.m.l.g) s.j.src s.j.next⟩
theorem Agu {s:RepS} (h:RI s) (hb:s.j.kind ≠ 0) (hu:Gp s.m (R9 s)=false) {n:Int} (hn:Lns s.m.l n):RT s n ≠ A5 s:=fun e=>by
 have w:=h.w
 have mi:=w.mi
 have hpg:=mi.pgs
 obtain ⟨e0,_,_,h3,_⟩:=S0 h hb
 obtain ⟨a1,a2⟩:=Te w hn
 obtain ⟨c1,c2,_⟩:=hn.b mi
 rw [a1,e0] at e
 have k:=A5k a2 h3 e
 have hx:Gp s.m (R9 s)=true:=by
  rcases w.jw with j | j | j
  ·exact absurd (by rw [j]) hb
  ·have eH:R9 s=s.j.src:=by unfold R9; rw [fq (show ¬ s.j.kind=2 by have:=j.1; omega)]; rfl
   rw [eH]
   exact (Adm mi).2 ⟨j.2.1,j.2.2.1⟩
  ·obtain ⟨s1,s2⟩:=Apf h j
   obtain ⟨k1,k2⟩:=(Abx w j.1 c2).1 k
   have l1:=mi.live _ c1
   have i1:=Mu mi.g s.m.l.way (lvA s.m (n / s.m.l.g.cols).toNat)
   have eh:lvA s.m (n / s.m.l.g.cols).toNat=R9 s:=by
    refine A0w (w:=s.m.l.way) mi.g (by omega) s1 ?_
    rw [s2]
    have hr:=Gm.rt mi.g
    have k3:=Ul mi.g (r:=s.j.src) i1.2.2.1 c2
    rw [k2] at k3
    unfold Pc at k3
    simp only [Pl.mk.injEq] at k3
    exact plx i1.2.2.2 rfl k1 k3.2.1.symm k3.2.2.1.symm
   rw [← eh]
   exact (Adm mi).2 l1
 rw [hx] at hu; cases hu
theorem An9 {s:LedS} (h:RI s.rep) (x:Nt):RI (Ds s x).rep/\StH s.rep (Ds s x).rep:=by
 let p:=fun t:LedS=>RI t.rep/\StH s.rep t.rep
 have hc:∀ (t:LedS) (k:Int) (l:List Ev) (i:Nat),p t->p (Gk t k l i):=fun t k l i h=>by show RI _/\StH _ _; rw [M5]; exact h
 have ha:∀ (t:LedS) (a:Ak),p t->RI (Bf t.rep a)/\StH s.rep (Bf t.rep a):=fun t a h=>by
  obtain ⟨a1,a2⟩:=Atn h.1 a
  exact ⟨a1,h.2.trans a2⟩
 have h0:p s:=⟨h,.refl _⟩
 have j1:p (B9 s x):=by unfold B9; exact Ad (p:=p) (hc _ _ _ _ (ha s _ h0)) h0
 have j2:p (Fz s x):=by unfold Fz; exact Ad (p:=p) (hc _ _ _ _ (ha _ _ j1)) j1
 have j3:p (Ba s x):=by unfold Ba; exact Ad (p:=p) (hc _ _ _ _ (ha s _ h0)) h0
 have j4:p (G0 s x):=by unfold G0; exact Ad (p:=p) (hc _ _ _ _ (ha _ _ j3)) j3
 unfold Ds
 exact Ad (p:=p) h0 (Ad (p:=p) j2 (Ad (p:=p) h0 j4))
theorem Aux {s:LedS} (h:RI s.rep) {x:Nt} (hx:x.kind ≠ 3):RI (C8 s x).rep/\StH s.rep (C8 s x).rep:=by
 let p:=fun t:LedS=>RI t.rep/\StH s.rep t.rep
 have h0:p s:=⟨h,.refl _⟩
 unfold C8
 rw [fq hx,cond_false]
 exact Ad (p:=p) (An9 h x) (Ad (p:=p) h0 (Ad (p:=p) h0 h0))
theorem B06 {s:LedS} {x:Nt} (hx:x.kind=3):(C8 s x).rep=Du s.rep:=by
 unfold C8
 rw [fq (show ¬ x.kind=1 by omega),fq (show ¬ x.kind=2 by omega),tq hx]
 show (Gk _ _ _ _).rep=_
 rw [M5]
theorem Aos {l:Ly} (h:Bc l=true):RI (A9w l):=by
 have hl:=C0 h
 have hlv:∀ p,p < (Ga l).lives.length->lvA (Ga l) p=((p:Nat):Int):=fun p hp=>by
  show (Od (A0 l).toNat).getD p eI0=_
  have hp:p < (Od (A0 l).toNat).length:=hp
  rw [M6] at hp
  exact A8v _ _ hp
 have hdd:∀ x,ddA (Ga l) x=false:=fun x=>by
  show (List.replicate (gpN l.g) eT0).getD x.toNat eT0=false
  rw [List.getD_eq_getElem?_getD,List.getElem?_replicate]; split <;> rfl
 have ok:=Afv h
 have hlen:(Ga l).lives.length=(A0 l).toNat:=M6 _
 have hsp:∀ r,0<=r/\r < l.g.ranks->spA (Ga l) r=-1:=fun r hr=>by
  have hns:(((Ga l).sp.length:Nat):Int)=l.g.ranks:=ok.ns
  exact A6r _ _ (gDm (l:=(Ga l).sp) (i:=r.toNat) eI0 (by omega))
 refine ⟨⟨A9x h,⟨ok,Asx h,fun p hp=>?_,fun p q hp hq e=>?_,fun x _ e=>?_,fun r hr=>Or.inl (hsp r hr),fun r r' hr hr' e=>absurd (hsp r hr) e⟩,Or.inl rfl,fun x hx _ _=>?_⟩,fun e=>absurd rfl e⟩
 ·have hp:p < (Ga l).lives.length:=hp
  show (0<=lvA (Ga l) p/\lvA (Ga l) p < A0 l + 0)/\_
  rw [hlv p hp]
  exact ⟨⟨by omega,by omega⟩,hdd _⟩
 ·have e:lvA (Ga l) p=lvA (Ga l) q:=e
  rw [hlv p hp,hlv q hq] at e; omega
 ·have e:ddA (Ga l) x=true:=e
  rw [hdd] at e; cases e
 ·have hx:0<=x/\x < A0 l + 0:=hx
  have hp:x.toNat < (Ga l).lives.length:=by omega
  exact ⟨x.toNat,hp,by show lvA (Ga l) _=_; rw [hlv _ hp]; omega⟩
