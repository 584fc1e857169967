import Derived.Test.YtfhiggfmkjmeiaaGreatLEl
import Derived.Test.YtfhiggfmkjmeiaaGreatFSpr
set_option linter.all false
namespace Go.Proofs.YtfhiggfmkjmeiaaGreat
open Go Go.RowKit
set_option maxRecDepth 100000
def df (m:Int) (r g:Nat->Nat) (x:Nat):Prop:=(m=1/\x < 576/\bt r x ≠ bt g x) ∨ (m=2/\x < 72/\r x ≠ g x)
def sw (m:Int) (x y:Nat):Prop:=(m=1/\x / 72=y / 72) ∨ (m=2/\x / 36=y / 36)
theorem Azl {d:Nat->Nat}:∀ {n:Nat},2<=cnz d n->∃ p q,p < q/\q < n/\d p ≠ 0/\d q ≠ 0
 | 0,h=>by rw [cnz] at h; omega
 | n + 1, h => by
   rw [cnz] at h
   by_cases e:d n=0
   ·rw [if_pos e] at h
    obtain ⟨p,q,a,b,x,y⟩:=Azl h
    exact ⟨p,q,a,by omega,x,y⟩
   ·rw [if_neg e] at h
    have hp:∃ p,p < n/\d p ≠ 0:=by
     rcases Classical.em (∃ p,p < n/\d p ≠ 0) with x | x
     ·exact x
     ·have:=Ae7 (d:=d) (n:=n) fun k hk=>by
       rcases Classical.em (d k=0) with y | y
       ·exact y
       ·exact absurd ⟨k,hk,y⟩ x
      omega
    obtain ⟨p,a,b⟩:=hp
    exact ⟨p,n,a,Nat.lt_succ_self n,b,e⟩
theorem Abe {f:Nat->Nat}:∀ {n:Nat},(∀ p,p < n->bt f p=false)->Lj f n=0
 | 0,_=>rfl
 | n + 1,h=>by rw [Lj,h n (by omega)]; exact Abe fun p hp=>h p (by omega)
theorem A7u {f : Nat -> Nat} : ∀ {n : Nat}, 2 <= Lj f n -> ∃ p q, p < q /\ q < n /\ bt f p = true /\ bt f q = true
 | 0,h=>by rw [Lj] at h; omega
 | n + 1, h => by
   rw [Lj] at h
   cases e:bt f n with
   | false =>
     rw [e] at h
     obtain ⟨p,q,a,b,x,y⟩:=A7u (n:=n) h
     exact ⟨p,q,a,by omega,x,y⟩
   | true =>
     rw [e] at h
     have h:2<=Lj f n + 1:=h
     have hp:∃ p,p < n/\bt f p=true:=by
      rcases Classical.em (∃ p,p < n/\bt f p=true) with x | x
      ·exact x
      ·have:=Abe (f:=f) (n:=n) fun k hk=>by
        cases q:bt f k with
        | false=>rfl
        | true=>exact absurd ⟨k,hk,q⟩ x
       omega
     obtain ⟨p,a,b⟩:=hp
     exact ⟨p,n,a,Nat.lt_succ_self n,b,e⟩
theorem Yp (r q:Nat->Nat) {k p:Nat} (hp:p < 72):bt (fun j=>xr ((A4 r (9 * k) 9).getD j 0) ((A4 q (9 * k) 9).getD j 0)) p=(bt r (72 * k + p) ^^ bt q (72 * k + p)):=by
 rw [Ajz]
 have key:∀ r:Nat->Nat,bt (fun j=>(A4 r (9 * k) 9).getD j 0) p=bt r (72 * k + p):=fun r=>by
  unfold bt
  show ((A4 r (9 * k) 9).getD (p / 8) 0).testBit (p % 8)=_
  rw [I3,if_pos (show p / 8 < 9 by omega),show (72 * k + p) / 8=9 * k + p / 8 by omega,show (72 * k + p) % 8=p % 8 by omega]
 rw [key r,key q]
theorem As4 {m:Int} (hm:m=1 ∨ m=2) {r q:Nat->Nat} (hr:∀ j,r j < 256) (hq:∀ j,q j < 256) (h:2<=Ai m r q):∃ x y,x ≠ y/\sw m x y/\df m r q x/\df m r q y:=by
 rw [Ai6 hr hr hm] at h
 rcases hm with rfl | rfl
 ·rw [if_pos rfl] at h
  have hk:∃ k,k < 8/\2<=dfF (A4 r (9 * k) 9) (A4 q (9 * k) 9) 9:=by
   rcases Classical.em (∃ k,k < 8/\2<=dfF (A4 r (9 * k) 9) (A4 q (9 * k) 9) 9) with x | x
   ·exact x
   ·have:ex1 r q 8<=1:=K9.2 fun i hi=>by
     rcases Nat.lt_or_ge 1 (dfF (A4 r (9 * i) 9) (A4 q (9 * i) 9) 9) with y | y
     ·exact absurd ⟨i,hi,y⟩ x
     ·exact y
    omega
  obtain ⟨k,k1,k2⟩:=hk
  rw [Q9 (Au hr _ _) (Au hq _ _)] at k2
  obtain ⟨p,p',a,b,x,y⟩:=A7u k2
  have b:p' < 72:=b
  rw [Yp r q (by omega)] at x
  rw [Yp r q b] at y
  refine ⟨72 * k + p,72 * k + p',by omega,Or.inl ⟨rfl,by omega⟩,Or.inl ⟨rfl,by omega,fun e=>?_⟩,Or.inl ⟨rfl,by omega,fun e=>?_⟩⟩
  ·rw [e,Bool.xor_self] at x; cases x
  ·rw [e,Bool.xor_self] at y; cases y
 ·rw [if_neg (by decide)] at h
  have hk:∃ k,k < 2/\2<=unF (A4 r (36 * k) 36) (A4 q (36 * k) 36) 36:=by
   rcases Classical.em (∃ k,k < 2/\2<=unF (A4 r (36 * k) 36) (A4 q (36 * k) 36) 36) with x | x
   ·exact x
   ·have:ex2 r q 2<=1:=Ka.2 fun i hi=>by
     rcases Nat.lt_or_ge 1 (unF (A4 r (36 * i) 36) (A4 q (36 * i) 36) 36) with y | y
     ·exact absurd ⟨i,hi,y⟩ x
     ·exact y
    omega
  obtain ⟨k,k1,k2⟩:=hk
  rw [Vc] at k2
  obtain ⟨p,p',a,b,x,y⟩:=Azl k2
  rw [I3,I3,if_pos (show p < 36 by omega),if_pos (show p < 36 by omega)] at x
  rw [I3,I3,if_pos b,if_pos b] at y
  refine ⟨36 * k + p,36 * k + p',by omega,Or.inr ⟨rfl,by omega⟩,Or.inr ⟨rfl,by omega,fun e=>?_⟩,Or.inr ⟨rfl,by omega,fun e=>?_⟩⟩
  ·rw [e] at x; exact x (Dd _)
  ·rw [e] at y; exact y (Dd _)
theorem Als {m:Int} (hm:m=1 ∨ m=2) {r q:Nat->Nat} (hr:∀ j,r j < 256) (hq:∀ j,q j < 256) (h:Ai m r q=0) (x:Nat):¬ df m r q x:=by
 rw [Ai6 hr hr hm] at h
 rintro (⟨rfl,a,b⟩ | ⟨rfl,a,b⟩)
 ·rw [if_pos rfl] at h
  have h1:=K9.1 (Nat.le_of_eq h) (x / 72) (by omega)
  rw [Q9 (Au hr _ _) (Au hq _ _)] at h1
  have h2:=(A2u (Nat.le_zero.1 h1)).2 (x % 72) (by omega)
  rw [Yp r q (Nat.mod_lt _ (by decide)),show 72 * (x / 72) + x % 72=x by omega] at h2
  cases p:bt r x <;> cases p':bt q x <;> rw [p,p'] at h2 b <;> first | exact b rfl | cases h2
 ·rw [if_neg (by decide)] at h
  have h1:=Ka.1 (Nat.le_of_eq h) (x / 36) (by omega)
  rw [Vc] at h1
  have h2:=A7l (Nat.le_zero.1 h1) (x % 36) (Nat.mod_lt _ (by decide))
  rw [I3,I3,if_pos (Nat.mod_lt _ (by decide)),if_pos (Nat.mod_lt _ (by decide)),show 36 * (x / 36) + x % 36=x by omega] at h2
  exact b (Nu h2)
theorem Akv {m:Int} (hm:m=1 ∨ m=2) {l r:Nat->Nat} (hl:∀ j,l j < 256) (hr:∀ j,r j < 256) (n:Int) (h:Ai m r (Bm m l n false)<=1) (h0:Bt m r n=0):Ai m r (Bm m l n false)=0:=by
 rw [Ai6 hl hr hm] at h ⊢
 rcases hm with rfl | rfl
 ·obtain ⟨a,b,c,d⟩:=md1 l r n false
  rw [if_pos rfl,a] at h ⊢
  rw [c] at h0
  have hk:=jkB.1 (Nat.le_of_eq h0)
  refine Nat.le_zero.1 (K9.2 fun i hi=>?_)
  have h2:=K9.1 h i hi
  rw [A3y l n false hi] at h2 ⊢
  have:=hk i hi
  rcases (by omega:dfF (A4 r (9 * i) 9) (cwB l n false i) 9=0 ∨ dfF (A4 r (9 * i) 9) (cwB l n false i) 9=1) with e | e
  ·omega
  ·have:=((Xt hl (Au hr (9 * i) 9) (Af _ _ _) n n false i).2.1 e rfl rfl).1
   omega
 ·obtain ⟨a,b,c,d⟩:=md2 l r n false
  rw [if_neg (by decide),a] at h ⊢
  rw [c] at h0
  have hk:=jkC.1 (Nat.le_of_eq h0)
  refine Nat.le_zero.1 (Ka.2 fun i hi=>?_)
  have h2:=Ka.1 h i hi
  rw [A3z l n false hi] at h2 ⊢
  have:=hk i hi
  rcases (by omega:unF (A4 r (36 * i) 36) (cwC l n false i) 36=0 ∨ unF (A4 r (36 * i) 36) (cwC l n false i) 36=1) with e | e
  ·omega
  ·have:=((Tq hl (Au hr (36 * i) 36) n n false i).2.1 e (Vd n)).1
   omega
def cov (m:Int) (f:Flt) (q:Pl) (x:Nat):Prop:=Ic f q=true/\(m=1->(f.kind=1 ∨ f.kind=2)/\f.bit=((x:Nat):Int))/\(m=2->((f.kind=1 ∨ f.kind=2)->f.bit / 8 % 36=((x % 36:Nat):Int))/\(3<=f.kind->f.chip=((x % 36:Nat):Int)))
theorem A23 {a b:Bool} (h:(a && b)=true):a=true/\b=true:=by rwa [bq] at h
theorem A5q {f:Flt} {q:Pl} (h:Ic f q=true):q.rank=f.rank/\(1<=f.kind/\f.kind<=5)/\((f.kind=1 ∨ f.kind=2)->q=⟨f.rank,f.bank,f.row,f.col⟩):=by
 unfold Ic at h
 obtain ⟨a,b,c,d⟩:=q
 by_cases k1:f.kind=1
 ·rw [tq k1,cond_true] at h
  obtain ⟨h1,h⟩:=A23 h; obtain ⟨h2,h⟩:=A23 h; obtain ⟨h3,h⟩:=A23 h; obtain ⟨h4,h⟩:=A23 h
  have g1:a=f.rank:=otq h1
  have g2:b=f.bank:=otq h2
  have g3:c=f.row:=otq h3
  have g4:d=f.col:=otq h4
  subst g1; subst g2; subst g3; subst g4
  exact ⟨rfl,by omega,fun _=>rfl⟩
 ·rw [fq k1, cond_false] at h
  by_cases k2:f.kind=2
  ·rw [tq k2,cond_true] at h
   obtain ⟨h1,h⟩:=A23 h; obtain ⟨h2,h⟩:=A23 h; obtain ⟨h3,h⟩:=A23 h; obtain ⟨h4,h⟩:=A23 h
   have g1:a=f.rank:=otq h1
   have g2:b=f.bank:=otq h2
   have g3:c=f.row:=otq h3
   have g4:d=f.col:=otq h4
   subst g1; subst g2; subst g3; subst g4
   exact ⟨rfl,by omega,fun _=>rfl⟩
  ·rw [fq k2, cond_false] at h
   refine (fun x=>⟨x.1,x.2,fun y=>absurd y (by omega)⟩:(a=f.rank/\(1<=f.kind/\f.kind<=5))->_) ?_
   by_cases k3:f.kind=3
   ·rw [tq k3,cond_true] at h
    exact ⟨otq (A23 h).1,by omega⟩
   ·rw [fq k3,cond_false] at h
    by_cases k4:f.kind=4
    ·rw [tq k4,cond_true] at h
     exact ⟨otq (A23 h).1,by omega⟩
    ·rw [fq k4,cond_false] at h
     by_cases k5:f.kind=5
     ·rw [tq k5,cond_true] at h
      exact ⟨otq h,by omega⟩
     ·rw [fq k5] at h; cases h
theorem A7o {f:Flt} {q:Pl} {x:Nat} (hb:0<=f.bit/\f.bit < 576) (hc:0<=f.chip/\f.chip < 36) (h:cov 2 f q x):Gg 2 f=((x % 36:Nat):Int):=by
 obtain ⟨h1,_,h3⟩:=h
 obtain ⟨a,b⟩:=h3 rfl
 obtain ⟨_,k,_⟩:=A5q h1
 have hw:He f.bit=0/\Je f.bit=f.bit / 8 % 36:=by
  unfold He Je
  rw [fq (show ¬ f.bit < 0 by omega),fq (show ¬ 576<=f.bit by omega),Int.fdiv_eq_ediv_of_nonneg _ (by decide),show (2:Int) ^ 3=8 from rfl]
  exact ⟨rfl,Int.tmod_eq_emod_of_nonneg (by omega)⟩
 have hf:Bi f.chip 36=true:=by unfold Bi; rw [tq hc.1,tq hc.2]; rfl
 unfold Gg Mg
 rw [fq (show ¬ (2:Int)=1 by decide),cond_false,hw.1,hw.2,hf]
 rcases (by omega:f.kind=1 ∨ f.kind=2 ∨ f.kind=3 ∨ f.kind=4 ∨ f.kind=5) with e | e | e | e | e <;> rw [e] at a b ⊢
 ·exact a (Or.inl rfl)
 ·exact a (Or.inr rfl)
 ·exact b (by decide)
 ·exact b (by decide)
 ·exact b (by decide)
theorem Aki {m:Int} (hm:m=1 ∨ m=2) {f g:Flt} {q:Pl} {x y:Nat} (hf:(0<=f.bit/\f.bit < 576)/\(m=2->0<=f.chip/\f.chip < 36)) (hg:(0<=g.bit/\g.bit < 576)/\(m=2->0<=g.chip/\g.chip < 36)) (h1:cov m f q x) (h2:cov m g q y) (hne:x ≠ y) (hs:sw m x y):I8 m f g=true:=by
 obtain ⟨r1,k1,p1⟩:=A5q h1.1
 obtain ⟨r2,k2,p2⟩:=A5q h2.1
 unfold I8
 rcases hm with rfl | rfl
 ·have hs:x / 72=y / 72:=by
   rcases hs with z | z
   ·exact z.2
   ·exact absurd z.1 (by decide)
  obtain ⟨a1,a2⟩:=h1.2.1 rfl
  obtain ⟨b1,b2⟩:=h2.2.1 rfl
  have e1:=p1 a1
  have e2:=p2 b1
  rw [e1] at e2
  simp only [Pl.mk.injEq] at e2
  have hn:∀ {f:Flt},f.kind=1 ∨ f.kind=2->Bo f=true:=fun {f} h=>by
   unfold Bo
   rcases h with h | h
   ·rw [tq h]; rfl
   ·rw [fq (show ¬ f.kind=1 by omega),tq h]; rfl
  have hw:∀ {f:Flt},0<=f.bit/\f.bit < 576->Jy 1 f.bit=0/\Jx 1 f.bit=f.bit / 72:=fun {f} h=>by
   unfold Jy Jx Ih Ot
   rw [tq (show (1:Int)=1 from rfl),fq (show ¬ f.bit < 0 by omega),fq (show ¬ 576<=f.bit by omega),Int.fdiv_eq_ediv_of_nonneg _ (by decide),show (2:Int) ^ 3=8 from rfl]
   refine ⟨rfl,?_⟩
   show IntKind.i64.wrap ((f.bit / 8).tdiv 9)=_
   rw [Int.tdiv_eq_ediv_of_nonneg (by omega),D1 (by omega) (by omega)]; omega
  rw [fq (show ¬ (1:Int)=2 by decide),hn a1,hn b1,(hw hf.1).1,(hw hg.1).1,(hw hf.1).2,(hw hg.1).2,e2.1,e2.2.1,e2.2.2.1,e2.2.2.2,tq (show f.bit / 72=g.bit / 72 by omega),fq (show ¬ f.bit=g.bit by omega)]
  simp
 ·have hs:x / 36=y / 36:=by
   rcases hs with z | z
   ·exact absurd z.1 (by decide)
   ·exact z.2
  have c1:=A7o hf.1 (hf.2 rfl) h1
  have c2:=A7o hg.1 (hg.2 rfl) h2
  rw [tq (show (2:Int)=2 from rfl),c1,c2,tq (show (0:Int)<=((x % 36:Nat):Int) by omega),tq (show (0:Int)<=((y % 36:Nat):Int) by omega),tq (show f.rank=g.rank by omega),fq (show ¬ ((x % 36:Nat):Int)=((y % 36:Nat):Int) by omega)]
  rfl
theorem Ard {m:Int} (hm:m=1 ∨ m=2) {f:Flt} {q:Pl} {x y:Nat} (h1:cov m f q x) (h2:cov m f q y) (hs:sw m x y):x=y:=by
 obtain ⟨_,k,_⟩:=A5q h1.1
 rcases hm with rfl | rfl
 ·have a:=(h1.2.1 rfl).2
  have b:=(h2.2.1 rfl).2
  omega
 ·have hs:x / 36=y / 36:=by
   rcases hs with z | z
   ·exact absurd z.1 (by decide)
   ·exact z.2
  obtain ⟨a,a'⟩:=h1.2.2 rfl
  obtain ⟨b,b'⟩:=h2.2.2 rfl
  rcases (by omega:(f.kind=1 ∨ f.kind=2) ∨ 3<=f.kind) with e | e
  ·have:=a e; have:=b e; omega
  ·have:=a' e; have:=b' e; omega
theorem Axb (r:Nat->Nat) (n p:Nat) (h:bt (Pv r n) p ≠ bt r p):p=n:=by
 unfold bt Pv at h
 by_cases e:p / 8=n / 2 ^ 3
 ·rw [if_pos e] at h
  have e':p / 8=n / 8:=e
  have h:(xr (r (n / 2 ^ 3)) (2 ^ (n % 8))).testBit (p % 8) ≠ (r (p / 8)).testBit (p % 8):=h
  rw [e] at h
  unfold xr at h
  rw [Nat.testBit_xor,Nat.testBit_two_pow] at h
  by_cases e2:n % 8=p % 8
  ·omega
  ·rw [fq e2,Bool.xor_false] at h; exact absurd rfl h
 ·rw [if_neg e] at h; exact absurd rfl h
theorem Axc (r:Nat->Nat) (n j:Nat) (h:Pv r n j ≠ r j):j=n / 8:=by
 unfold Pv at h
 by_cases e:j=n / 2 ^ 3
 ·exact e
 ·rw [if_neg e] at h; exact absurd rfl h
theorem Abb {m:Int} {r g:Nat->Nat} {n x:Nat} (h:df m (Pv r n) g x):df m r g x ∨ (m=1->x=n)/\(m=2->x=n / 8):=by
 rcases h with ⟨rfl,a,b⟩ | ⟨rfl,a,b⟩
 ·by_cases e:bt (Pv r n) x=bt r x
  ·left; left; rw [e] at b; exact ⟨rfl,a,b⟩
  ·right; exact ⟨fun _=>Axb r n x e,fun h=>absurd h (by decide)⟩
 ·by_cases e:Pv r n x=r x
  ·left; right; rw [e] at b; exact ⟨rfl,a,b⟩
  ·right; exact ⟨fun h=>absurd h (by decide),fun _=>Axc r n x e⟩
theorem Aqo {f : FltN} {q : Pl} {r g : Nat -> Nat} {x : Nat} (hk : f.kind = 2) (h : df 1 (N4 f q r) g x) : df 1 r g x ∨ cov 1 f.flt q x := by
 unfold N4 at h
 cases hl:Dr (⟨f.kind,f.rank,f.bank,f.row,f.col,((f.chip:Nat):Int),((f.bit:Nat):Int),((f.value:Nat):Int)⟩:Flt) with
 | false=>rw [hl] at h; exact Or.inl h
 | true =>
   cases hs:Ic (⟨f.kind,f.rank,f.bank,f.row,f.col,((f.chip:Nat):Int),((f.bit:Nat):Int),((f.value:Nat):Int)⟩:Flt) q with
   | false=>rw [hl,hs] at h; exact Or.inl h
   | true =>
     rw [hl,hs,tq hk] at h
     have h:df 1 (Ht r f.bit f.value) g x:=h
     unfold Ht at h
     cases e:decide (((Amc (arL r 72 0) f.bit:Nat):Int)=((f.value:Nat):Int)) with
     | true=>rw [e] at h; exact Or.inl h
     | false =>
       rw [e,cond_false] at h
       rcases Abb h with z | z
       ·exact Or.inl z
       ·right
        refine ⟨hs,fun _=>⟨Or.inr hk,?_⟩,fun y=>absurd y (by decide)⟩
        have:=z.1 rfl
        show ((f.bit:Nat):Int)=_
        omega
theorem Aqq {f : FltN} {q : Pl} {r g : Nat -> Nat} {x : Nat} (h : df 2 (N5 f q r) g x) : df 2 r g x ∨ cov 2 f.flt q x := by
 unfold N5 at h
 cases hl:Dr (⟨f.kind,f.rank,f.bank,f.row,f.col,((f.chip:Nat):Int),((f.bit:Nat):Int),((f.value:Nat):Int)⟩:Flt) with
 | false=>rw [hl] at h; exact Or.inl h
 | true =>
   cases hs:Ic (⟨f.kind,f.rank,f.bank,f.row,f.col,((f.chip:Nat):Int),((f.bit:Nat):Int),((f.value:Nat):Int)⟩:Flt) q with
   | false=>rw [hl,hs] at h; exact Or.inl h
   | true =>
     have hx:x < 72:=by
      rcases h with z | z
      ·exact absurd z.1 (by decide)
      ·exact z.2.1
     cases hk:decide (f.kind=2) with
     | true =>
       rw [hl,hs,hk] at h
       have hk:=otq hk
       have h:df 2 (Ht r f.bit f.value) g x:=h
       unfold Ht at h
       cases e:decide (((Amc (arL r 72 0) f.bit:Nat):Int)=((f.value:Nat):Int)) with
       | true=>rw [e] at h; exact Or.inl h
       | false =>
         rw [e,cond_false] at h
         rcases Abb h with z | z
         ·exact Or.inl z
         ·right
          refine ⟨hs,fun y=>absurd y (by decide),fun _=>⟨fun _=>?_,fun y=>?_⟩⟩
          ·have:=z.2 rfl
           show ((f.bit:Nat):Int) / 8 % 36=_
           omega
          ·have y:3<=f.kind:=y
           omega
     | false =>
       rw [hl,hs,hk] at h
       have hk:=ofq hk
       have h:df 2 (A7i r f.chip f.value) g x:=h
       by_cases e:x % 36=f.chip
       ·right
        refine ⟨hs,fun y=>absurd y (by decide),fun _=>⟨fun y=>?_,fun _=>?_⟩⟩
        ·have y:f.kind=1 ∨ f.kind=2:=y
         have hl2:Dr f.flt=true:=hl
         unfold Dr at hl2
         cases z:decide (2<=f.flt.kind) with
         | false=>rw [z] at hl2; cases hl2
         | true =>
           have z:2<=f.kind:=otq z
           omega
        ·show ((f.chip:Nat):Int)=_
         omega
       ·left; right
        rcases h with z | ⟨_,_,z⟩
        ·exact absurd z.1 (by decide)
        ·unfold A7i at z
         rw [if_neg e] at z
         exact ⟨rfl,hx,z⟩
theorem Av6 {m:Int} (hm:m=1 ∨ m=2) {la:List FltN} (hn:m=1->∀ f ∈ la,f.kind=2) {q:Pl} {r g:Nat->Nat} {x:Nat} (h:df m (Gb m la q r) g x):df m r g x ∨ ∃ f ∈ la,cov m f.flt q x:=by
 unfold Gb at h
 rcases hm with rfl | rfl
 ·have key:∀ i,i<=la.length->df 1 (ov1 la q r i) g x->df 1 r g x ∨ ∃ f ∈ la,cov 1 f.flt q x:=fun i=>by
   induction i with
   | zero=>intro _ h; exact Or.inl h
   | succ i ih =>
     intro hi h
     have hf:=gDm (l:=la) (i:=i) Fs (by omega)
     rcases Aqo (hn rfl _ hf) h with z | z
     ·exact ih (by omega) z
     ·exact Or.inr ⟨_,hf,z⟩
  exact key _ (Nat.le_refl _) h
 ·have key:∀ i,i<=la.length->df 2 (ov2 la q r i) g x->df 2 r g x ∨ ∃ f ∈ la,cov 2 f.flt q x:=fun i=>by
   induction i with
   | zero=>intro _ h; exact Or.inl h
   | succ i ih =>
     intro hi h
     have hf:=gDm (l:=la) (i:=i) Fs (by omega)
     rcases Aqq h with z | z
     ·exact ih (by omega) z
     ·exact Or.inr ⟨_,hf,z⟩
  exact key _ (Nat.le_refl _) h
