import Derived.Test.YtfhiggfmkjmeiaaGreatLNj
set_option linter.all false
namespace Go.Proofs.YtfhiggfmkjmeiaaGreat
open Go Go.RowKit
def lvA (s:MapS) (p:Nat):Int:=s.lives.getD p eI0
def ddA (s:MapS) (h:Int):Bool:=s.dead.getD h.toNat eT0
def spA (s:MapS) (r:Int):Int:=s.sp.getD r.toNat eI0
structure MI (s:MapS):Prop where
 ok:MapOk s
 mp:MpIn s
 live:∀ p,p < s.lives.length->(0<=lvA s p/\lvA s p < A0 s.l + s.pages)/\ddA s (lvA s p)=false
 inj:∀ p q,p < s.lives.length->q < s.lives.length->lvA s p=lvA s q->p=q
 du:∀ h,0<=h->ddA s h=true->h < A0 s.l + s.pages
 sb:∀ r,0<=r/\r < s.l.g.ranks->spA s r=-1 ∨ (s.l.g.ranks<=spA s r/\spA s r < s.l.g.ranks + s.rks)
 si:∀ r r',(0<=r/\r < s.l.g.ranks)->(0<=r'/\r' < s.l.g.ranks)->spA s r ≠ -1->spA s r=spA s r'->r=r'
def J1 (j:Jb) (s:MapS):Prop:=j.kind=1/\(0<=j.src/\j.src < A0 s.l + s.pages)/\ddA s j.src=false/\(A0 s.l<=j.goal/\j.goal < A0 s.l + s.pages)/\ddA s j.goal=false/\j.src ≠ j.goal/\(∀ p,p < s.lives.length->lvA s p ≠ j.goal)/\(0<=j.next/\j.next<=s.l.g.cols)
def J2 (j:Jb) (s:MapS):Prop:=j.kind=2/\(0<=j.src/\j.src < s.l.g.ranks)/\spA s j.src=-1/\(s.l.g.ranks<=j.goal/\j.goal < s.l.g.ranks + s.rks)/\(∀ r,0<=r/\r < s.l.g.ranks->spA s r ≠ j.goal)/\(0<=j.next/\j.next<=s.l.g.banks * s.l.g.rows * s.l.g.cols)
def JW (j:Jb) (s:MapS):Prop:=j=⟨0,0,0,0⟩ ∨ J1 j s ∨ J2 j s
structure RW (s:RepS):Prop where
 ok:RepOk s
 mi:MI s.m
 jw:JW s.j s.m
 all:∀ h,0<=h/\h < A0 s.m.l + s.m.pages->ddA s.m h=false->¬ (s.j.kind=1/\s.j.goal=h)->∃ p,p < s.m.lives.length/\lvA s.m p=h
structure RI (s:RepS):Prop where
 w:RW s
 lt:s.j.kind ≠ 0->s.j.next < A6 s.j s.m.l
theorem MI.g {s:MapS} (h:MI s):s.l.g.right=true:=(C0 h.ok.right).1
theorem MI.pgs {s:MapS} (h:MI s):A0 s.l + s.pages<=A9 s.l.g:=by
 have:=C0 h.ok.right
 have:=h.ok.pg
 omega
theorem dmx {x c k:Int} (hc:1<=c) (hk:0<=k/\k < c):(x * c + k) / c=x/\(x * c + k) % c=k:=by
 constructor
 ·rw [Int.add_comm,Int.add_mul_ediv_right _ _ (by omega),Int.ediv_eq_zero_of_lt hk.1 hk.2,Int.zero_add]
 ·rw [Int.add_comm,Int.add_mul_emod_self_right,Int.emod_eq_of_lt hk.1 hk.2]
def Kg (g:Gm) (p:Pl) (k:Int):Int:=(p.bank * g.rows + p.row) * g.cols + k
def Pc (g:Gm) (r i:Int):Pl:=⟨r,i / g.cols / g.rows,i / g.cols % g.rows,i % g.cols⟩
theorem A65 {g:Gm} (hg:g.right=true) {p:Pl} {k:Int} (hb:0<=p.bank/\p.bank < g.banks) (hw:0<=p.row/\p.row < g.rows) (hk:0<=k/\k < g.cols):0<=Kg g p k/\Kg g p k < g.banks * g.rows * g.cols:=by
 have hr:=Gm.rt hg
 have m0:0<=p.bank * g.rows:=Int.mul_nonneg hb.1 (by omega)
 have m1:0<=(p.bank * g.rows + p.row) * g.cols:=Int.mul_nonneg (by omega) (by omega)
 have m2:p.bank * g.rows + p.row + 1<=g.banks * g.rows:=by
  have:(p.bank + 1) * g.rows<=g.banks * g.rows:=Int.mul_le_mul_of_nonneg_right (by omega) (by omega)
  rw [Int.add_mul,Int.one_mul] at this
  omega
 have m3:(p.bank * g.rows + p.row + 1) * g.cols<=g.banks * g.rows * g.cols:=Int.mul_le_mul_of_nonneg_right m2 (by omega)
 rw [Int.add_mul (p.bank * g.rows + p.row),Int.one_mul] at m3
 unfold Kg
 omega
theorem Ul {g:Gm} (hg:g.right=true) {p:Pl} {k r:Int} (hw:0<=p.row/\p.row < g.rows) (hk:0<=k/\k < g.cols):Pc g r (Kg g p k)=⟨r,p.bank,p.row,k⟩:=by
 have hr:=Gm.rt hg
 have h1:=dmx (x:=p.bank * g.rows + p.row) (c:=g.cols) (by omega) hk
 have h2:=dmx (x:=p.bank) (c:=g.rows) (by omega) hw
 unfold Pc Kg
 rw [h1.1,h1.2,h2.1,h2.2]
theorem Acr {g:Gm} (hg:g.right=true) {r i:Int} (hr:0<=r/\r < g.ranks + g.spares) (hi:0<=i/\i < g.banks * g.rows * g.cols):g.holds (Pc g r i)=true:=by
 have hx:=Gm.rt hg
 have q1:0<=i / g.cols:=Int.ediv_nonneg hi.1 (by omega)
 have q2:i / g.cols < g.banks * g.rows:=Int.ediv_lt_of_lt_mul (by omega) hi.2
 exact Kv hg hr ⟨Int.ediv_nonneg q1 (by omega),Int.ediv_lt_of_lt_mul (by omega) q2⟩ (Fi (by omega)) (Fi (by omega))
theorem Ao9 {g:Gm} (hg:g.right=true) {r i:Int} (hr:0<=r/\r < g.ranks + g.spares) (hi:0<=i/\i < g.banks * g.rows * g.cols):A0j g r i=(Pc g r i).ix/\Wd g r i=0:=by
 have hx:=Gm.rt hg
 have m1:=Il (a:=g.banks) (b:=g.rows) (A:=16) (B:=1024) (by omega) (by omega)
 have m2:=Il (a:=g.banks * g.rows) (b:=g.cols) (A:=16384) (B:=64) (by omega) (by omega)
 have q1:0<=i / g.cols:=Int.ediv_nonneg hi.1 (by omega)
 have q2:i / g.cols < g.banks * g.rows:=Int.ediv_lt_of_lt_mul (by omega) hi.2
 have q3:0<=i / g.cols / g.rows:=Int.ediv_nonneg q1 (by omega)
 have q4:i / g.cols / g.rows < g.banks:=Int.ediv_lt_of_lt_mul (by omega) q2
 refine ⟨?_,Ao8 hg hr hi⟩
 unfold A0j
 rw [Int.tdiv_eq_ediv_of_nonneg hi.1,Ca (x:=i / g.cols) (by omega),Int.tdiv_eq_ediv_of_nonneg q1,Ca (x:=i / g.cols / g.rows) (by omega),Int.tmod_eq_emod_of_nonneg q1,Int.tmod_eq_emod_of_nonneg hi.1]
 unfold Gm.ix
 rw [show (⟨r,i / g.cols / g.rows,i / g.cols % g.rows,i % g.cols⟩:Pl)=Pc g r i from rfl,Acr hg hr hi]; rfl
theorem Aib {g:Gm} {p:Pl} (h:g.holds p=true):B6 g p.ix=Kg g p p.col:=by
 obtain ⟨h0,h1,h2,h3,h4⟩:=U7 h
 have hr:=Gm.rt h0
 obtain ⟨a,b,c,d⟩:=Ip h
 have ha:=K5 h
 have m1:=Il (a:=p.bank) (b:=g.rows) (A:=16) (B:=1024) (by omega) (by omega)
 have m2:=Il (a:=p.bank * g.rows + p.row) (b:=g.cols) (A:=32768) (B:=64) (by omega) (by omega)
 unfold B6 Gm.atE Gm.at
 rw [ha,S3 a b c d]
 simp only [cond_true,decide_true]
 rw [Ca (x:=p.bank * g.rows) (by omega),Ca (x:=p.bank * g.rows + p.row) (by omega),Ca (x:=(p.bank * g.rows + p.row) * g.cols) (by omega),Ca (by omega)]
 rfl
theorem S8 {s:MapS} (h:MI s) {r:Int} (hr:0<=r/\r < s.l.g.ranks):Sg s r=if spA s r=-1 then r else spA s r:=by
 have hns:=h.ok.ns
 unfold Sg Cr Gn
 rw [Hk (show 0<=r/\r < ((s.sp.length:Nat):Int) by omega)]
 show (bif (bif decide (spA s r=-1) then false else true) then (bif decide (spA s r=-1) then 0 else spA s r) else r)=_
 by_cases e:spA s r=-1
 ·rw [tq e,if_pos e]; rfl
 ·rw [fq e,if_neg e]; rfl
theorem Aac {s:MapS} (h:MI s) {r:Int} (hr:0<=r/\r < s.l.g.ranks):Cr s r=!decide (spA s r=-1):=by
 have hns:=h.ok.ns
 unfold Cr
 rw [Hk (show 0<=r/\r < ((s.sp.length:Nat):Int) by omega)]
 show (bif decide (spA s r=-1) then false else true)=_
 cases decide (spA s r=-1) <;> rfl
theorem Aab {s:MapS} (h:MI s) {r r':Int} (hr:0<=r/\r < s.l.g.ranks) (hr':0<=r'/\r' < s.l.g.ranks) (e:Sg s r=Sg s r'):r=r':=by
 rw [S8 h hr,S8 h hr'] at e
 have b1:=h.sb r hr
 have b2:=h.sb r' hr'
 by_cases e1:spA s r=-1
 ·rw [if_pos e1] at e
  by_cases e2:spA s r'=-1
  ·rw [if_pos e2] at e; exact e
  ·rw [if_neg e2] at e; omega
 ·rw [if_neg e1] at e
  by_cases e2:spA s r'=-1
  ·rw [if_pos e2] at e; omega
  ·rw [if_neg e2] at e; exact h.si r r' hr hr' e1 e
theorem plx {p q:Pl} (hp:p.col=0) (hq:q.col=0) (h1:p.rank=q.rank) (h2:p.bank=q.bank) (h3:p.row=q.row):p=q:=by
 obtain ⟨a,b,c,d⟩:=p
 obtain ⟨a',b',c',d'⟩:=q
 simp only at hp hq h1 h2 h3
 subst h1; subst h2; subst h3; subst hp; subst hq; rfl
theorem H8 {s:MapS} (h:MI s) {a b k k':Int} (ha:0<=a/\a < A9 s.l.g) (hb:0<=b/\b < A9 s.l.g) (e:Hx s a k=Hx s b k'):a=b/\k=k':=by
 unfold Hx at e
 simp only [Pl.mk.injEq] at e
 have i1:=Mu h.g s.l.way a
 have i2:=Mu h.g s.l.way b
 have hr:=Aab h i1.1 i2.1 e.1
 exact ⟨A0w h.g ha hb (plx i1.2.2.2 i2.2.2.2 hr e.2.1 e.2.2.1),e.2.2.2⟩
def hpl (s:RepS) (h k:Int):Pl :=
 if s.j.kind=1/\h=s.j.src/\k < s.j.next then Hx s.m s.j.goal k
 else if s.j.kind=2/\(C2 s.m.l.g s.m.l.way h).rank=s.j.src/\Kg s.m.l.g (C2 s.m.l.g s.m.l.way h) k < s.j.next then ⟨s.j.goal,(C2 s.m.l.g s.m.l.way h).bank,(C2 s.m.l.g s.m.l.way h).row,k⟩
 else Hx s.m h k
theorem Zp {s:RepS} (hk:s.j.kind=0) (h k:Int):hpl s h k=Hx s.m h k:=by
 unfold hpl; rw [if_neg (by omega),if_neg (by omega)]
theorem Zq {s:RepS} (hk:s.j.kind=1) (h k:Int):hpl s h k=if h=s.j.src/\k < s.j.next then Hx s.m s.j.goal k else Hx s.m h k:=by
 unfold hpl
 by_cases e:h=s.j.src/\k < s.j.next
 ·rw [if_pos ⟨hk,e⟩,if_pos e]
 ·rw [if_neg (fun x=>e x.2),if_neg (by omega),if_neg e]
theorem U8 {s:RepS} (hk:s.j.kind=2) (h k:Int):hpl s h k=if (C2 s.m.l.g s.m.l.way h).rank=s.j.src/\Kg s.m.l.g (C2 s.m.l.g s.m.l.way h) k < s.j.next then ⟨s.j.goal,(C2 s.m.l.g s.m.l.way h).bank,(C2 s.m.l.g s.m.l.way h).row,k⟩ else Hx s.m h k:=by
 unfold hpl
 rw [if_neg (by omega)]
 by_cases e:(C2 s.m.l.g s.m.l.way h).rank=s.j.src/\Kg s.m.l.g (C2 s.m.l.g s.m.l.way h) k < s.j.next
 ·rw [if_pos ⟨hk,e⟩,if_pos e]
 ·rw [if_neg (fun x=>e x.2),if_neg e]
theorem Afe (s:RepS) (h k:Int):(hpl s h k).col=k:=by
 unfold hpl
 split
 ·rfl
 ·split <;> rfl
theorem Afa {s:RepS} (h:MI s.m) (j:J2 s.j s.m) {r:Int} (hr:0<=r/\r < s.m.l.g.ranks):Sg s.m r ≠ s.j.goal:=by
 obtain ⟨_,_,_,g1,g2,_⟩:=j
 rw [S8 h hr]
 by_cases e:spA s.m r=-1
 ·rw [if_pos e]; omega
 ·rw [if_neg e]; exact g2 r hr
theorem Asi {s:RepS} (w:RW s) {p q:Nat} {k k':Int} (hp:p < s.m.lives.length) (hq:q < s.m.lives.length) (e:hpl s (lvA s.m p) k=hpl s (lvA s.m q) k'):p=q/\k=k':=by
 have hk:k=k':=by rw [← Afe s (lvA s.m p) k,e,Afe]
 subst hk
 refine ⟨?_,rfl⟩
 have mi:=w.mi
 have hpg:=mi.pgs
 have l1:=(mi.live p hp).1
 have l2:=(mi.live q hq).1
 have hx:0<=lvA s.m p/\lvA s.m p < A9 s.m.l.g:=by omega
 have hy:0<=lvA s.m q/\lvA s.m q < A9 s.m.l.g:=by omega
 have i1:=Mu mi.g s.m.l.way (lvA s.m p)
 have i2:=Mu mi.g s.m.l.way (lvA s.m q)
 refine mi.inj p q hp hq ?_
 rcases w.jw with j | j | j
 ·rw [Zp (by rw [j]),Zp (by rw [j])] at e
  exact (H8 mi hx hy e).1
 ·have hgo:0<=s.j.goal/\s.j.goal < A9 s.m.l.g:=by have:=j.2.2.2.1; have:=C0 mi.ok.right; omega
  have hno:=j.2.2.2.2.2.2.1
  rw [Zq j.1,Zq j.1] at e
  by_cases e1:lvA s.m p=s.j.src/\k < s.j.next
  ·rw [if_pos e1] at e
   by_cases e2:lvA s.m q=s.j.src/\k < s.j.next
   ·rw [e1.1,e2.1]
   ·rw [if_neg e2] at e
    exact absurd (H8 mi hgo hy e).1.symm (hno q hq)
  ·rw [if_neg e1] at e
   by_cases e2:lvA s.m q=s.j.src/\k < s.j.next
   ·rw [if_pos e2] at e
    exact absurd (H8 mi hx hgo e).1 (hno p hp)
   ·rw [if_neg e2] at e
    exact (H8 mi hx hy e).1
 ·have hno:=fun r hr=>Afa mi j (r:=r) hr
  rw [U8 j.1,U8 j.1] at e
  by_cases e1:(C2 s.m.l.g s.m.l.way (lvA s.m p)).rank=s.j.src/\Kg s.m.l.g (C2 s.m.l.g s.m.l.way (lvA s.m p)) k < s.j.next
  ·rw [if_pos e1] at e
   by_cases e2:(C2 s.m.l.g s.m.l.way (lvA s.m q)).rank=s.j.src/\Kg s.m.l.g (C2 s.m.l.g s.m.l.way (lvA s.m q)) k < s.j.next
   ·rw [if_pos e2] at e
    simp only [Pl.mk.injEq] at e
    exact A0w mi.g hx hy (plx i1.2.2.2 i2.2.2.2 (e1.1.trans e2.1.symm) e.2.1 e.2.2.1)
   ·rw [if_neg e2] at e
    unfold Hx at e
    simp only [Pl.mk.injEq] at e
    exact absurd e.1.symm (hno _ i2.1)
  ·rw [if_neg e1] at e
   by_cases e2:(C2 s.m.l.g s.m.l.way (lvA s.m q)).rank=s.j.src/\Kg s.m.l.g (C2 s.m.l.g s.m.l.way (lvA s.m q)) k < s.j.next
   ·rw [if_pos e2] at e
    unfold Hx at e
    simp only [Pl.mk.injEq] at e
    exact absurd e.1 (hno _ i1.1)
   ·rw [if_neg e2] at e
    exact (H8 mi hx hy e).1
theorem Az5 {s:RepS} {a:Ak} (mi:MI s.m) (h:D3 s a=false):(a.kind=1/\(0<=a.which/\a.which < A9 s.m.l.g)/\ddA s.m a.which=false/\(C5 s.m=true->a.which < Ci s.m)) ∨ (a.kind=2/\(0<=a.which/\a.which < s.m.l.g.ranks)/\spA s.m a.which=-1):=by
 unfold D3 at h
 cases q1:decide (a.kind=1) with
 | true =>
   rw [q1,cond_true] at h
   left
   refine ⟨otq q1,?_⟩
   cases q2:decide (a.which < 0) with
   | true=>rw [q2] at h; cases h
   | false =>
     rw [q2,cond_false] at h
     cases q3:decide (A9 s.m.l.g<=a.which) with
     | true=>rw [q3] at h; cases h
     | false =>
       rw [q3,cond_false] at h
       have q2:=ofq q2
       have q3:=ofq q3
       have hnd:=mi.ok.nd
       cases q4:Hy s.m a.which with
       | true=>rw [q4] at h; cases h
       | false =>
         rw [q4,cond_false] at h
         unfold Hy at q4
         rw [Hk (show 0<=a.which/\a.which < ((s.m.dead.length:Nat):Int) by omega),cond_true] at q4
         refine ⟨by omega,q4,fun hf=>?_⟩
         rw [hf,cond_true] at h
         cases q5:decide (Ci s.m<=a.which) with
         | true=>rw [q5] at h; cases h
         | false=>have:=ofq q5; omega
 | false =>
   rw [q1,cond_false] at h
   cases q2:decide (a.kind=2) with
   | false=>rw [q2] at h; cases h
   | true =>
     rw [q2,cond_true] at h
     right
     refine ⟨otq q2,?_⟩
     cases q3:Cr s.m a.which with
     | true=>rw [q3] at h; cases h
     | false =>
       rw [q3,cond_false] at h
       cases q4:decide (a.which < 0) with
       | true=>rw [q4] at h; cases h
       | false =>
         rw [q4,cond_false] at h
         cases q5:decide (s.m.l.g.ranks<=a.which) with
         | true=>rw [q5] at h; cases h
         | false =>
           have q4:=ofq q4
           have q5:=ofq q5
           have hr:0<=a.which/\a.which < s.m.l.g.ranks:=by omega
           refine ⟨hr,?_⟩
           rw [Aac mi hr] at q3
           by_cases e:spA s.m a.which=-1
           ·exact e
           ·rw [fq e] at q3; cases q3
theorem Atu {s:RepS} {a:Ak} (w:RW s) (h0:s.j=⟨0,0,0,0⟩) (hv:D3 s a=false):RI (B1 s a)/\LvS s.m (B1 s a).m/\((B1 s a).j.kind ≠ 0->(B1 s a).j.next=0):=by
 have mi:=w.mi
 have hl:=C0 mi.ok.right
 have hg:=Gm.rt mi.g
 have hpg:=mi.ok.pg
 have hrk:=mi.ok.rk
 have hlv:=T8 s a
 have hok:RepOk (B1 s a):=T9 w.ok
 have hall:∀ h,0<=h/\h < A0 s.m.l + s.m.pages->ddA s.m h=false->∃ p,p < s.m.lives.length/\lvA s.m p=h:=fun h hh hd=>w.all h hh hd (fun x=>by rw [h0] at x; exact absurd x.1 (by decide))
 refine ⟨?_,hlv,?_⟩
 rcases Az5 mi hv with ⟨k1,k2,k3,k4⟩ | ⟨k1,k2,k3⟩
 ·-- a page
  have es:B1 s a=bif decide ((((G7 s.m):Nat):Int)=0) then (⟨Cy s.m,⟨a.kind,a.which,Di s.m,0⟩,s.q⟩:RepS) else { s with m:=Cy s.m }:=by
   unfold B1; rw [fq (show ¬ a.kind=2 by omega)]; rfl
  unfold G7 Di Cy at es
  cases hf:C5 s.m with
  | false =>
    rw [hf] at es
    have es:B1 s a=s:=es
    rw [es]
    exact ⟨w,fun x=>absurd (by rw [h0]) x⟩
  | true =>
    rw [hf] at es
    have hne:s.m.pages ≠ s.m.l.res:=fun e=>by unfold C5 at hf; rw [tq e] at hf; cases hf
    have hfp:Ci s.m=A0 s.m.l + s.m.pages:=by
     unfold Ci; rw [fq hne,cond_false]; exact Ca (by omega)
    have k4:=k4 hf
    rw [hfp] at k4
    have es:B1 s a=(⟨{ s.m with pages:=IntKind.i64.wrap (s.m.pages + 1) },⟨a.kind,a.which,Ci s.m,0⟩,s.q⟩:RepS):=es
    rw [hfp,Ca (x:=s.m.pages + 1) (by omega)] at es
    rw [es] at hok hlv ⊢
    refine ⟨⟨hok,⟨hok.m,mi.mp.same hlv,fun p hp=>?_,mi.inj,fun h h1 h2=>?_,mi.sb,mi.si⟩,Or.inr (Or.inl ⟨k1,?_,k3,?_,?_,?_,fun p hp=>?_,⟨Int.le_refl _,by show (0:Int)<=s.m.l.g.cols; omega⟩⟩),fun h hh hd hn=>?_⟩,fun _=>?_⟩
    ·have:=mi.live p hp
     refine ⟨⟨this.1.1,?_⟩,this.2⟩
     have h9:=this.1.2
     show lvA s.m p < A0 s.m.l + (s.m.pages + 1)
     omega
    ·have:=mi.du h h1 h2
     show h < A0 s.m.l + (s.m.pages + 1)
     omega
    ·show 0<=a.which/\a.which < A0 s.m.l + (s.m.pages + 1); omega
    ·show A0 s.m.l<=A0 s.m.l + s.m.pages/\A0 s.m.l + s.m.pages < A0 s.m.l + (s.m.pages + 1); omega
    ·show ddA s.m (A0 s.m.l + s.m.pages)=false
     cases q:ddA s.m (A0 s.m.l + s.m.pages) with
     | false=>rfl
     | true=>have:=mi.du _ (by omega) q; omega
    ·show a.which ≠ A0 s.m.l + s.m.pages; omega
    ·have:=(mi.live p hp).1
     show lvA s.m p ≠ A0 s.m.l + s.m.pages
     omega
    ·have hh:0<=h/\h < A0 s.m.l + (s.m.pages + 1):=hh
     have hn:¬ (a.kind=1/\A0 s.m.l + s.m.pages=h):=hn
     exact hall h (by omega) hd
    ·show (0:Int) < A6 _ s.m.l
     unfold A6
     rw [tq k1]
     show (0:Int) < s.m.l.g.cols
     omega
 ·-- a rank
  have es:B1 s a=bif decide ((((F9 s.m):Nat):Int)=0) then (⟨Cj s.m,⟨a.kind,a.which,D5 s.m,0⟩,s.q⟩:RepS) else { s with m:=Cj s.m }:=by
   unfold B1; rw [tq k1]; rfl
  unfold F9 D5 Cj at es
  cases hf:Co s.m with
  | false =>
    rw [hf] at es
    have es:B1 s a=s:=es
    rw [es]
    exact ⟨w,fun x=>absurd (by rw [h0]) x⟩
  | true =>
    rw [hf] at es
    have hne:s.m.rks ≠ s.m.l.g.spares:=fun e=>by unfold Co at hf; rw [tq e] at hf; cases hf
    have hfp:Dg s.m=s.m.l.g.ranks + s.m.rks:=by
     unfold Dg; rw [fq hne,cond_false]; exact Ca (by omega)
    have es:B1 s a=(⟨{ s.m with rks:=IntKind.i64.wrap (s.m.rks + 1) },⟨a.kind,a.which,Dg s.m,0⟩,s.q⟩:RepS):=es
    rw [hfp,Ca (x:=s.m.rks + 1) (by omega)] at es
    rw [es] at hok hlv ⊢
    have m1:1<=s.m.l.g.banks * s.m.l.g.rows:=by
     have:=Int.mul_pos (a:=s.m.l.g.banks) (b:=s.m.l.g.rows) (by omega) (by omega)
     omega
    have m2:1<=s.m.l.g.banks * s.m.l.g.rows * s.m.l.g.cols:=by
     have:=Int.mul_pos (a:=s.m.l.g.banks * s.m.l.g.rows) (b:=s.m.l.g.cols) (by omega) (by omega)
     omega
    refine ⟨⟨hok,⟨hok.m,mi.mp.same hlv,mi.live,mi.inj,mi.du,fun r hr=>?_,mi.si⟩,Or.inr (Or.inr ⟨k1,k2,k3,?_,fun r hr=>?_,⟨Int.le_refl _,?_⟩⟩),fun h hh hd hn=>hall h hh hd⟩,fun _=>?_⟩
    ·rcases mi.sb r hr with h | h
     ·exact Or.inl h
     ·refine Or.inr ⟨h.1,?_⟩
      have h9:=h.2
      show spA s.m r < s.m.l.g.ranks + (s.m.rks + 1)
      omega
    ·show s.m.l.g.ranks<=s.m.l.g.ranks + s.m.rks/\s.m.l.g.ranks + s.m.rks < s.m.l.g.ranks + (s.m.rks + 1); omega
    ·have hr:0<=r/\r < s.m.l.g.ranks:=hr
     have:=mi.sb r hr
     show spA s.m r ≠ s.m.l.g.ranks + s.m.rks
     omega
    ·show (0:Int)<=s.m.l.g.banks * s.m.l.g.rows * s.m.l.g.cols; omega
    ·show (0:Int) < A6 _ s.m.l
     have hc:=(Q5 (j:=(⟨a.kind,a.which,s.m.l.g.ranks + s.m.rks,0⟩:Jb)) (l:=s.m.l) mi.g).2.2
     unfold A6
     rw [fq (show ¬ a.kind=1 by omega),tq k1]
     show (0:Int) < Cd s.m.l.g
     omega
 ·have e0:s.j.next=0:=by rw [h0]
  let p:=fun t:RepS=>t.j.kind ≠ 0->t.j.next=0
  unfold B1
  exact Ad (p:=p) (Ad (p:=p) (fun _=>rfl) (fun _=>e0)) (Ad (p:=p) (fun _=>rfl) (fun _=>e0))
theorem Axl {s:RepS} (mi:MI s.m) (h:s.j.kind ≠ 0->s.j.next=0) (x:Int) {k:Int} (hk:0<=k/\k < s.m.l.g.cols):hpl s x k=Hx s.m x k:=by
 by_cases e:s.j.kind=0
 ·exact Zp e x k
 ·have h:=h e
  have i1:=Mu mi.g s.m.l.way x
  have hord:=A65 mi.g (p:=C2 s.m.l.g s.m.l.way x) i1.2.1 i1.2.2.1 hk
  unfold hpl
  rw [if_neg (by omega),if_neg (by omega)]
theorem Ass {s t:MapS} (h:LvS s t) (x k:Int):Hx t x k=Hx s x k:=by
 obtain ⟨h1,h2,h3⟩:=h
 unfold Hx Sg Cr Gn; rw [h2,h3]
structure StH (s t:RepS):Prop where
 l:t.m.l=s.m.l
 n:t.m.lives.length=s.m.lives.length
 h:∀ p k,p < s.m.lives.length->(0<=k/\k < s.m.l.g.cols)->hpl t (lvA t.m p) k=hpl s (lvA s.m p) k
theorem StH.refl (s:RepS):StH s s:=⟨rfl,rfl,fun _ _ _ _=>rfl⟩
theorem StH.trans {a b c:RepS} (h:StH a b) (k:StH b c):StH a c:=⟨k.l.trans h.l,k.n.trans h.n,fun p x hp hx=>(k.h p x (by rw [h.n]; exact hp) (by rw [h.l]; exact hx)).trans (h.h p x hp hx)⟩
theorem Ago {s:RepS} {a:Ak} (w:RW s) (h0:s.j=⟨0,0,0,0⟩) (hv:D3 s a=false):RI (B1 s a)/\StH s (B1 s a):=by
 obtain ⟨h1,h2,h3⟩:=Atu w h0 hv
 refine ⟨h1,⟨h2.2.1,by rw [h2.1],fun p k hp hk=>?_⟩⟩
 rw [Axl h1.w.mi h3 _ (by rw [h2.2.1]; exact hk),Zp (by rw [h0]),Ass h2]
 unfold lvA; rw [h2.1]
theorem RW.q {s:RepS} (w:RW s) {q:RgS} (hq:RgOk q):RW { s with q:=q }:=⟨⟨w.ok.m,hq,w.ok.g⟩,w.mi,w.jw,w.all⟩
theorem StH.q (s:RepS) (q:RgS):StH s { s with q:=q }:=⟨rfl,rfl,fun _ _ _ _=>rfl⟩
theorem Atn {s:RepS} (h:RI s) (a:Ak):RI (Bf s a)/\StH s (Bf s a):=by
 unfold Bf
 cases hv:D3 s a with
 | true=>exact ⟨h,.refl _⟩
 | false =>
   rw [cond_false]
   cases hk:decide (s.j.kind=0) with
   | true =>
     have hk:=otq hk
     refine Ago h.w ?_ hv
     rcases h.w.jw with j | j | j
     ·exact j
     ·have:=j.1; omega
     ·have:=j.1; omega
   | false=>exact ⟨⟨h.w.q (A9u h.w.ok.q),h.lt⟩,.q _ _⟩
def Lns (l:Ly) (n:Int):Prop:=0<=n/\n < IntKind.i64.wrap ((A0 l) * l.g.cols)
def RT (s:RepS) (n:Int):Int:=I9 s.j s.m n
def nP (s:RepS) (n:Int):Pl:=hpl s (lvA s.m (n / s.m.l.g.cols).toNat) (n % s.m.l.g.cols)
theorem Lns.b {s:MapS} (mi:MI s) {n:Int} (hn:Lns s.l n):(n / s.l.g.cols).toNat < s.lives.length/\(0<=n % s.l.g.cols/\n % s.l.g.cols < s.l.g.cols)/\(((n / s.l.g.cols).toNat:Nat):Int)=n / s.l.g.cols:=by
 obtain ⟨b1,b2,_,_,_⟩:=A05 mi.ok.right hn
 have hg:=Gm.rt mi.g
 have:=mi.ok.nl
 exact ⟨by omega,Fi (by omega),by omega⟩
theorem Qm {s:RepS} (w:RW s):Cq s.j s.m=true:=by
 have mi:=w.mi
 have hl:=C0 mi.ok.right
 have hg:=Gm.rt mi.g
 have hpg:=mi.pgs
 have hc:=Q5 (j:=s.j) (l:=s.m.l) mi.g
 unfold Cq
 rcases w.jw with j | j | j
 ·rw [j]; rfl
 ·obtain ⟨h1,h2,h3,h4,h5,h6,h7,h8⟩:=j
  have hnd:=mi.ok.nd
  have ec:A6 s.j s.m.l=s.m.l.g.cols:=by unfold A6; rw [tq h1]; rfl
  rw [fq (show ¬ s.j.kind=0 by omega),tq h1,ec,Ca (x:=s.m.l.g.cols + 1) (by omega),I6 (show 0<=s.j.next/\s.j.next < s.m.l.g.cols + 1 by omega)]
  unfold Kd Hy
  rw [I6 (show 0<=s.j.src/\s.j.src < A9 s.m.l.g by omega),I6 (show 0<=s.j.goal/\s.j.goal < A9 s.m.l.g by omega),fq h6,Hk (show 0<=s.j.src/\s.j.src < ((s.m.dead.length:Nat):Int) by omega),Hk (show 0<=s.j.goal/\s.j.goal < ((s.m.dead.length:Nat):Int) by omega),show s.m.dead.getD s.j.src.toNat eT0=false from h3,show s.m.dead.getD s.j.goal.toNat eT0=false from h5]
  rfl
 ·obtain ⟨h1,h2,h3,h4,h5,h6⟩:=j
  have hrk:=mi.ok.rk
  have ec:A6 s.j s.m.l=Cd s.m.l.g:=by unfold A6; rw [fq (show ¬ s.j.kind=1 by omega),tq h1]; rfl
  rw [fq (show ¬ s.j.kind=0 by omega),fq (show ¬ s.j.kind=1 by omega),tq h1,Ca (x:=A6 s.j s.m.l + 1) (by omega),I6 (show 0<=s.j.next/\s.j.next < A6 s.j s.m.l + 1 by omega)]
  unfold Ke
  rw [I6 h2,Aac mi h2,tq h3,D1 (x:=s.j.goal - s.m.l.g.ranks) (by omega) (by omega),I6 (show 0<=s.j.goal - s.m.l.g.ranks/\s.j.goal - s.m.l.g.ranks < s.m.l.g.spares by omega)]
  rfl
theorem Axk {s:RepS} (w:RW s) {p:Nat} (hp:p < s.m.lives.length) {k:Int} (hk:0<=k/\k < s.m.l.g.cols):s.m.l.g.holds (hpl s (lvA s.m p) k)=true:=by
 have mi:=w.mi
 have hpg:=mi.pgs
 have hl:=C0 mi.ok.right
 have l1:=(mi.live p hp).1
 have h0:s.m.l.g.holds (Hx s.m (lvA s.m p) k)=true:=P9 mi.ok mi.mp.sp (by omega) hk
 have i1:=Mu mi.g s.m.l.way (lvA s.m p)
 have hrk:=mi.ok.rk
 unfold hpl
 split
 ·next h =>
  rcases w.jw with j | j | j
  ·rw [j] at h; exact absurd h.1 (by decide)
  ·have:=j.2.2.2.1; exact P9 mi.ok mi.mp.sp (by omega) hk
  ·have:=j.1; omega
 ·split
  ·next h =>
   rcases w.jw with j | j | j
   ·rw [j] at h; exact absurd h.1 (by decide)
   ·have:=j.1; omega
   ·have:=j.2.2.2.1
    have hg:=Gm.rt mi.g
    exact Kv mi.g (p:=⟨s.j.goal,_,_,k⟩) (show 0<=s.j.goal/\s.j.goal < s.m.l.g.ranks + s.m.l.g.spares by omega) i1.2.1 i1.2.2.1 hk
  ·exact h0
theorem Te {s:RepS} (w:RW s) {n:Int} (hn:Lns s.m.l n):RT s n=(nP s n).ix/\s.m.l.g.holds (nP s n)=true:=by
 have mi:=w.mi
 have hl:=C0 mi.ok.right
 have hpg:=mi.pgs
 have h0:=A09 mi.ok mi.mp.lv hn
 obtain ⟨e0,e1,e2,e3⟩:=A3b mi.ok mi.mp.lv mi.mp.sp hn
 obtain ⟨b1,b2,b3⟩:=hn.b mi
 obtain ⟨_,_,_,b4,_⟩:=A05 mi.ok.right hn
 have hp:=Axk w b1 b2
 refine ⟨?_,hp⟩
 have hx:s.m.lives.getD (n / s.m.l.g.cols).toNat eI0=lvA s.m (n / s.m.l.g.cols).toNat:=rfl
 rw [hx] at e0 e1 e2 e3
 unfold RT nP I9
 have hg:=Aib e1
 rw [h0,Qm w,e2,e3,b4,e0,hg]
 generalize lvA s.m (n / s.m.l.g.cols).toNat=h at *
 generalize n % s.m.l.g.cols=k at *
 simp only [cond_true,decide_true]
 have hr:=Gm.rt mi.g
 rcases w.jw with j | j | j
 ·rw [Zp (by rw [j]),fq (show ¬ s.j.kind=1 by rw [j]; decide),fq (show ¬ s.j.kind=2 by rw [j]; decide)]; rfl
 ·rw [Zq j.1,tq j.1,fq (show ¬ s.j.kind=2 by have:=j.1; omega)]
  simp only [cond_true,cond_false]
  by_cases q1:h=s.j.src
  ·rw [tq q1]
   by_cases q2:k < s.j.next
   ·rw [tq q2,if_pos ⟨q1,q2⟩]
    have hgo:0<=s.j.goal/\s.j.goal < A9 s.m.l.g:=by have:=j.2.2.2.1; omega
    have ec:A6 s.j s.m.l=s.m.l.g.cols:=by unfold A6; rw [tq j.1]; rfl
    show Fm s.j s.m s.j.goal k=_
    unfold Fm
    rw [Qm w,ec,I6 b2,fq (show ¬ s.j.kind=2 by have:=j.1; omega),Rz mi.ok hgo]
    exact Y7 mi.ok mi.mp.sp hgo b2
   ·rw [fq q2,if_neg (fun x=>q2 x.2)]; rfl
  ·rw [fq q1,if_neg (fun x=>q1 x.1)]; rfl
 ·rw [U8 j.1, fq (show ¬ s.j.kind = 1 by have := j.1; omega), tq j.1]
  simp only [cond_true,cond_false]
  have i1:=Mu mi.g s.m.l.way h
  by_cases q1:(C2 s.m.l.g s.m.l.way h).rank=s.j.src
  ·rw [tq q1]
   show (bif decide (Kg s.m.l.g (C2 s.m.l.g s.m.l.way h) k < s.j.next) then Fm s.j s.m s.j.goal (Kg s.m.l.g (C2 s.m.l.g s.m.l.way h) k) else (Hx s.m h k).ix)=_
   by_cases q2:Kg s.m.l.g (C2 s.m.l.g s.m.l.way h) k < s.j.next
   ·rw [tq q2,if_pos ⟨q1,q2⟩,cond_true]
    have hord:=A65 mi.g (p:=C2 s.m.l.g s.m.l.way h) i1.2.1 i1.2.2.1 b2
    have hc:=(Q5 (j:=s.j) (l:=s.m.l) mi.g).2.2
    have ec:A6 s.j s.m.l=s.m.l.g.banks * s.m.l.g.rows * s.m.l.g.cols:=by
     unfold A6; rw [fq (show ¬ s.j.kind=1 by have:=j.1; omega),tq j.1]; exact hc
    have hrk:=mi.ok.rk
    have hgo:=j.2.2.2.1
    unfold Fm
    rw [Qm w,ec,I6 hord,tq j.1]
    simp only [cond_true]
    rw [(Ao9 mi.g (r:=s.j.goal) (by omega) hord).1,Ul mi.g i1.2.2.1 b2]
   ·rw [fq q2,if_neg (fun x=>q2 x.2)]; rfl
  ·rw [fq q1,if_neg (fun x=>q1 x.1)]; rfl
theorem Avt {s:RepS} (w:RW s) {n m:Int} (hn:Lns s.m.l n) (hm:Lns s.m.l m) (e:RT s n=RT s m):n=m:=by
 obtain ⟨a1,a2⟩:=Te w hn
 obtain ⟨b1,b2⟩:=Te w hm
 rw [a1,b1] at e
 have k:=A5k a2 b2 e
 obtain ⟨c1,c2,c3⟩:=hn.b w.mi
 obtain ⟨d1,d2,d3⟩:=hm.b w.mi
 obtain ⟨h1,h2⟩:=Asi w c1 d1 k
 have hg:=Gm.rt w.mi.g
 exact Up (r:=0) (s:=0) (by omega) h2 (by rw [← c3,← d3,h1])
theorem Au7 {s t:RepS} (w:RW s) (w':RW t) (h:StH s t) {n:Int} (hn:Lns s.m.l n):RT t n=RT s n:=by
 obtain ⟨c1,c2,_⟩:=hn.b w.mi
 rw [(Te w hn).1,(Te w' (by rw [h.l]; exact hn)).1]
 unfold nP
 rw [h.l,h.h _ _ c1 c2]
theorem An9 {s:LedS} (h:RI s.rep) (x:Nt):RI (Ds s x).rep/\StH s.rep (Ds s x).rep:=by
 let p:=fun t:LedS=>RI t.rep/\StH s.rep t.rep
 have hc:∀ (t:LedS) (k:Int) (l:List Ev) (i:Nat),p t->p (Gk t k l i):=fun t k l i h=>by show RI _/\StH _ _; rw [M5]; exact h
 have ha:∀ (t:LedS) (a:Ak),p t->RI (Bf t.rep a)/\StH s.rep (Bf t.rep a):=fun t a h=>by
  obtain ⟨a1,a2⟩:=Atn h.1 a
  exact ⟨a1,h.2.trans a2⟩
 have h0:p s:=⟨h,.refl _⟩
 have j1:p (B9 s x):=by unfold B9; exact Ad (p:=p) (hc _ _ _ _ (ha s _ h0)) h0
 have j2:p (Fz s x):=by unfold Fz; exact Ad (p:=p) (hc _ _ _ _ (ha _ _ j1)) j1
 have j3:p (Ba s x):=by unfold Ba; exact Ad (p:=p) (hc _ _ _ _ (ha s _ h0)) h0
 have j4:p (G0 s x):=by unfold G0; exact Ad (p:=p) (hc _ _ _ _ (ha _ _ j3)) j3
 unfold Ds
 exact Ad (p:=p) h0 (Ad (p:=p) j2 (Ad (p:=p) h0 j4))
theorem Aux {s:LedS} (h:RI s.rep) {x:Nt} (hx:x.kind ≠ 3):RI (C8 s x).rep/\StH s.rep (C8 s x).rep:=by
 let p:=fun t:LedS=>RI t.rep/\StH s.rep t.rep
 have h0:p s:=⟨h,.refl _⟩
 unfold C8
 rw [fq hx,cond_false]
 exact Ad (p:=p) (An9 h x) (Ad (p:=p) h0 (Ad (p:=p) h0 h0))
theorem Aos {l:Ly} (h:Bc l=true):RI (A9w l):=by
 have hl:=C0 h
 have hlv:∀ p,p < (Ga l).lives.length->lvA (Ga l) p=((p:Nat):Int):=fun p hp=>by
  show (Od (A0 l).toNat).getD p eI0=_
  have hp:p < (Od (A0 l).toNat).length:=hp
  rw [M6] at hp
  exact A8v _ _ hp
 have hdd:∀ x,ddA (Ga l) x=false:=fun x=>by
  show (List.replicate (gpN l.g) eT0).getD x.toNat eT0=false
  rw [List.getD_eq_getElem?_getD,List.getElem?_replicate]; split <;> rfl
 have ok:=Afv h
 have hlen:(Ga l).lives.length=(A0 l).toNat:=M6 _
 have hsp:∀ r,0<=r/\r < l.g.ranks->spA (Ga l) r=-1:=fun r hr=>by
  have hns:(((Ga l).sp.length:Nat):Int)=l.g.ranks:=ok.ns
  exact A6r _ _ (gDm (l:=(Ga l).sp) (i:=r.toNat) eI0 (by omega))
 refine ⟨⟨A9x h,⟨ok,Asx h,fun p hp=>?_,fun p q hp hq e=>?_,fun x _ e=>?_,fun r hr=>Or.inl (hsp r hr),fun r r' hr hr' e=>absurd (hsp r hr) e⟩,Or.inl rfl,fun x hx _ _=>?_⟩,fun e=>absurd rfl e⟩
 ·have hp:p < (Ga l).lives.length:=hp
  show (0<=lvA (Ga l) p/\lvA (Ga l) p < A0 l + 0)/\_
  rw [hlv p hp]
  exact ⟨⟨by omega,by omega⟩,hdd _⟩
 ·have e:lvA (Ga l) p=lvA (Ga l) q:=e
  rw [hlv p hp,hlv q hq] at e; omega
 ·have e:ddA (Ga l) x=true:=e
  rw [hdd] at e; cases e
 ·have hx:0<=x/\x < A0 l + 0:=hx
  have hp:x.toNat < (Ga l).lives.length:=by omega
  exact ⟨x.toNat,hp,by show lvA (Ga l) _=_; rw [hlv _ hp]; omega⟩
