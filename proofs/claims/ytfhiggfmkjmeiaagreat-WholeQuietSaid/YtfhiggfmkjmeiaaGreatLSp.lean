import Derived.Test.YtfhiggfmkjmeiaaGreatLCm
import Derived.Test.YtfhiggfmkjmeiaaGreatLSy
import Derived.Test.YtfhiggfmkjmeiaaGreatLMs
import Derived.Test.YtfhiggfmkjmeiaaGreatLWh
set_option linter.all false
namespace Go.Proofs.YtfhiggfmkjmeiaaGreat
open Go Go.RowKit
set_option maxRecDepth 100000
theorem A2s {m:Int} {r:Nat->Nat} {x:Nat}:¬ df m r r x:=by
 rintro (⟨_,_,h⟩ | ⟨_,_,h⟩) <;> exact h rfl
theorem Awk {m:Int} {a g o:Nat->Nat} {x:Nat} (h:df m a g x) (k:¬ df m o g x):df m o a x:=by
 rcases h with ⟨rfl,b,h⟩ | ⟨rfl,b,h⟩
 ·left
  refine ⟨rfl,b,fun e=>k (Or.inl ⟨rfl,b,by rw [e]; exact h⟩)⟩
 ·right
  refine ⟨rfl,b,fun e=>k (Or.inr ⟨rfl,b,by rw [e]; exact h⟩)⟩
def LnC (c:Cfg):Int:=IntKind.i64.wrap ((A0 c.ly) * c.ly.g.cols)
theorem Anc {c:Cfg} (hc:A8 c=true):1<=LnC c/\LnC c<=plG c.ly.g/\LnC c<=8388608:=by
 have hl:=C0 (Ho hc).1
 have hg:=Gm.rt hl.1
 obtain ⟨p1,p2,p3⟩:=J7 hl.1
 have hp:=(Q5 (j:=⟨0,0,0,0⟩) (l:=c.ly) hl.1).2.2
 have m1:=Il (a:=c.ly.g.banks) (b:=c.ly.g.rows) (A:=16) (B:=1024) (by omega) (by omega)
 have m2:=Il (a:=c.ly.g.banks * c.ly.g.rows) (b:=c.ly.g.cols) (A:=16384) (B:=64) (by omega) (by omega)
 have m3:=Il (a:=c.ly.g.ranks + c.ly.g.spares) (b:=c.ly.g.banks * c.ly.g.rows * c.ly.g.cols) (A:=8) (B:=1048576) (by omega) (by omega)
 have e:plG c.ly.g=(c.ly.g.ranks + c.ly.g.spares) * (c.ly.g.banks * c.ly.g.rows * c.ly.g.cols):=by
  unfold plG
  rw [Ca (x:=c.ly.g.ranks + c.ly.g.spares) (by omega),hp,Ca (by omega)]
 have m4:A0 c.ly * c.ly.g.cols<=c.ly.g.ranks * c.ly.g.banks * c.ly.g.rows * c.ly.g.cols:=Int.mul_le_mul_of_nonneg_right (by omega) (by omega)
 have m5:c.ly.g.ranks * (c.ly.g.banks * c.ly.g.rows * c.ly.g.cols)<=(c.ly.g.ranks + c.ly.g.spares) * (c.ly.g.banks * c.ly.g.rows * c.ly.g.cols):=Int.mul_le_mul_of_nonneg_right (by omega) (by omega)
 have m6:c.ly.g.ranks * (c.ly.g.banks * c.ly.g.rows * c.ly.g.cols)=c.ly.g.ranks * c.ly.g.banks * c.ly.g.rows * c.ly.g.cols:=by rw [← Int.mul_assoc,← Int.mul_assoc]
 have m7:=Int.mul_pos (a:=A0 c.ly) (b:=c.ly.g.cols) (by omega) (by omega)
 unfold LnC
 rw [e]
 omega
def SpI (c:Cfg) (l:List Inj):Prop:=∀ k,k < l.length->sbk c.mode (l.getD k Aa)=false/\∀ j,j < k->sbj c.mode (plG c.ly.g) (l.getD k Aa) (l.getD j Aa)=false
def rcn (c:Cfg) (a b n:Int):Prop:=∀ t:Int,a<=t->t < b->t % LnC c ≠ n
structure SP (c:Cfg) (N:Nat) (m:MchS):Prop where
 rt:∀ k,k < m.inj.length->C3 c.mode (m.inj.getD k Aa).f c.ly.g=true/\0<=(m.inj.getD k Aa).scrubs/\(m.inj.getD k Aa).scrubs<=m.scrubs
 mo:∀ j k,j < k->k < m.inj.length->(m.inj.getD j Aa).scrubs<=(m.inj.getD k Aa).scrubs
 sc:0<=m.scrubs/\m.scrubs<=((N:Nat):Int)
 cu:m.c.cur=m.scrubs % LnC c
 la:∀ f ∈ m.c.d.d.la,∃ k,k < m.inj.length/\(m.inj.getD k Aa).f=f.flt/\2<=f.kind
 dif:∀ n,Lns c.ly n->∀ x,df c.mode (m.c.d.d.c (RT m.c.le.rep n)) (m.c.d.gh (RT m.c.le.rep n)) x->∃ k,k < m.inj.length/\(m.inj.getD k Aa).f.kind=1/\cov c.mode (m.inj.getD k Aa).f (c.ly.g.at (RT m.c.le.rep n)) x /\
  ((∃ f ∈ m.c.d.d.la,cov c.mode f.flt (c.ly.g.at (RT m.c.le.rep n)) x) ∨ rcn c (m.inj.getD k Aa).scrubs m.scrubs n)
theorem SP.two {c:Cfg} {N:Nat} {m:MchS} (hc:A8 c=true) (h:SP c N m) (hN:N<=1000) (hs:SpI c m.inj) {n:Int} (hn:Lns c.ly n) {q:Pl} {k1 k2 x y:Nat} (h12:k1 < k2) (h2:k2 < m.inj.length) (a1:cov c.mode (m.inj.getD k1 Aa).f q x) (a2:cov c.mode (m.inj.getD k2 Aa).f q y) (hk:2<=(m.inj.getD k1 Aa).f.kind ∨ rcn c (m.inj.getD k1 Aa).scrubs m.scrubs n) (hne:x ≠ y) (hsw:sw c.mode x y):False:=by
 have hm:=(Ho hc).2.1
 obtain ⟨r1,b1,b1'⟩:=h.rt k1 (by omega)
 obtain ⟨r2,b2,b2'⟩:=h.rt k2 h2
 have f1:=Ku hm r1
 have f2:=Ku hm r2
 have hch:c.mode=2->chN c.mode=36:=fun e=>by rw [e]; rfl
 have hcl:=Aki hm (f:=(m.inj.getD k1 Aa).f) (g:=(m.inj.getD k2 Aa).f) ⟨f1.2.2.1,fun e=>by have:=f1.2.2.2.1; rw [hch e] at this; omega⟩ ⟨f2.2.2.1,fun e=>by have:=f2.2.2.2.1; rw [hch e] at this; omega⟩ a1 a2 hne hsw
 have hb:=(hs k2 h2).2 k1 h12
 unfold sbj at hb
 rw [hcl,cond_true] at hb
 cases e1:decide ((m.inj.getD k1 Aa).f.kind=1) with
 | false=>rw [e1] at hb; cases hb
 | true =>
   rw [e1,cond_true] at hb
   have e1:=otq e1
   have hb:=ofq hb
   rw [D1 (by have:=h.sc; omega) (by have:=h.sc; omega)] at hb
   obtain ⟨l1,l2,l3⟩:=Anc hc
   rcases hk with hk | hk
   ·omega
   ·have hd:=Fi (n:=n - (m.inj.getD k1 Aa).scrubs) (a:=LnC c) l1
    refine hk ((m.inj.getD k1 Aa).scrubs + (n - (m.inj.getD k1 Aa).scrubs) % LnC c) (by omega) (by omega) ?_
    have e:=Int.emod_add_mul_ediv (n - (m.inj.getD k1 Aa).scrubs) (LnC c)
    have e3:(m.inj.getD k1 Aa).scrubs + (n - (m.inj.getD k1 Aa).scrubs) % LnC c=n + (-((n - (m.inj.getD k1 Aa).scrubs) / LnC c)) * LnC c:=by rw [Int.neg_mul,Int.mul_comm]; omega
    rw [e3,Int.add_mul_emod_self_right]
    exact Int.emod_eq_of_lt hn.1 hn.2
theorem SP.ex {c : Cfg} {N : Nat} {m : MchS} {id : Int -> Nat -> Nat} (hc : A8 c = true) (h : SP c N m) (hN : N <= 1000) (d : CD c id m.c) (hs : SpI c m.inj) (dk : DevOk m.c.d) {n : Int} (hn : Lns c.ly n) : exP m.c (RT m.c.le.rep n) <= 1 := by
 have hm:=(Ho hc).2.1
 rcases Nat.lt_or_ge 1 (exP m.c (RT m.c.le.rep n)) with hx | hx
 ·exfalso
  obtain ⟨_,_,hat⟩:=d.w.cat hn
  have hat':m.c.d.d.g.atE (RT m.c.le.rep n)=0:=by rw [d.w.g]; exact Ma hat
  obtain ⟨e1,_,_⟩:=Rg d.co hat'
  have hr:∀ j,ovr m.c (RT m.c.le.rep n) j < 256:=fun j=>by rw [← e1]; exact Iv dk j
  unfold exP at hx
  rw [d.w.md] at hx
  obtain ⟨x,y,hne,hsw,dx,dy⟩:=As4 hm hr (dk.gh _) hx
  have hla:c.mode=1->∀ f ∈ m.c.d.d.la,f.kind=2:=fun e f hf=>by
   obtain ⟨k,k1,k2,k3⟩:=h.la f hf
   have hb:=(hs k k1).1
   unfold sbk at hb
   rw [tq e] at hb
   have hnw : Bo (m.inj.getD k Aa).f = true := by
    cases q6:decide ((m.inj.getD k Aa).f.kind=6) with
    | true=>rw [q6] at hb; cases hb
    | false =>
      cases q7:decide ((m.inj.getD k Aa).f.kind=7) with
      | true=>rw [q6,q7] at hb; cases hb
      | false =>
        rw [q6,q7] at hb
        cases q:Bo (m.inj.getD k Aa).f with
        | true=>rfl
        | false=>rw [q] at hb; cases hb
   rw [k2] at hnw
   unfold Bo at hnw
   rw [fq (show ¬ f.flt.kind=1 by show ¬ f.kind=1; omega)] at hnw
   exact otq hnw
  have key:∀ z,df c.mode (ovr m.c (RT m.c.le.rep n)) (m.c.d.gh (RT m.c.le.rep n)) z->∃ k,k < m.inj.length/\cov c.mode (m.inj.getD k Aa).f (c.ly.g.at (RT m.c.le.rep n)) z/\(2<=(m.inj.getD k Aa).f.kind ∨ rcn c (m.inj.getD k Aa).scrubs m.scrubs n):=fun z dz=>by
   have last:∀ f ∈ m.c.d.d.la,cov c.mode f.flt (c.ly.g.at (RT m.c.le.rep n)) z->∃ k,k < m.inj.length/\cov c.mode (m.inj.getD k Aa).f (c.ly.g.at (RT m.c.le.rep n)) z/\(2<=(m.inj.getD k Aa).f.kind ∨ rcn c (m.inj.getD k Aa).scrubs m.scrubs n):=fun f hf hcv=>by
    obtain ⟨k,k1,k2,k3⟩:=h.la f hf
    exact ⟨k,k1,by rw [k2]; exact hcv,Or.inl (by rw [k2]; exact k3)⟩
   unfold ovr at dz
   rw [d.w.md,d.w.g] at dz
   rcases Av6 hm hla dz with w | ⟨f,hf,hcv⟩
   ·obtain ⟨k,k1,k2,k3,k4⟩:=h.dif n hn z w
    rcases k4 with ⟨f,hf,hcv⟩ | k4
    ·exact last f hf hcv
    ·exact ⟨k,k1,k3,Or.inr k4⟩
   ·exact last f hf hcv
  obtain ⟨k1,p1,p2,p3⟩:=key x dx
  obtain ⟨k2,q1,q2,q3⟩:=key y dy
  rcases Nat.lt_trichotomy k1 k2 with e | e | e
  ·exact h.two hc hN hs hn e q1 p2 q2 p3 hne hsw
  ·subst e; exact hne (Ard hm p2 q2 hsw)
  ·have hsw':sw c.mode y x:=by
    rcases hsw with ⟨a,b⟩ | ⟨a,b⟩
    ·exact Or.inl ⟨a,b.symm⟩
    ·exact Or.inr ⟨a,b.symm⟩
   exact h.two hc hN hs hn e p1 q2 p2 q3 (fun z=>hne z.symm) hsw'
 ·exact hx
theorem SP.cl {c:Cfg} {N:Nat} {m t:MchS} (h:SP c N m) (k:CL c m.c t.c) (h1:t.inj=m.inj) (h2:t.scrubs=m.scrubs) (h3:t.c.cur=m.c.cur):SP c (N + 1) t:=by
 refine ⟨by rw [h1,h2]; exact h.rt,by rw [h1]; exact h.mo,by rw [h2]; have:=h.sc; omega,by rw [h2,h3]; exact h.cu,by rw [k.la,h1]; exact h.la,fun n hn x hx=>?_⟩
 rcases k.ce n hn with e | ⟨e1,e2,e3⟩
 ·rw [e] at hx; exact absurd hx A2s
 ·rw [e1,e2,e3] at hx
  rw [e1,k.la,h1,h2]
  exact h.dif n hn x hx
theorem SP.scrub {c:Cfg} {N:Nat} {m t:MchS} {id:Int->Nat->Nat} (hc:A8 c=true) (h:SP c N m) (hN:N<=1000) (d:CD c id m.c) (hs:SpI c m.inj) (dk:DevOk m.c.d) (h1:t.inj=m.inj) (h2:t.scrubs=m.scrubs + 1) (h3:t.c=D8 m.c):SP c (N + 1) t:=by
 have hm:=(Ho hc).2.1
 have hcu:Lns c.ly m.c.cur:=d.cu
 have hx:=h.ex hc hN d hs dk hcu
 obtain ⟨_,k,_,kc,_,kw⟩:=d.scrub hc dk hx
 rw [← h3] at k kc kw
 obtain ⟨l1,l2,l3⟩:=Anc hc
 refine ⟨fun j hj=>?_,by rw [h1]; exact h.mo,by rw [h2]; have:=h.sc; omega,?_,by rw [k.la,h1]; exact h.la,fun n hn x hxx=>?_⟩
 ·rw [h1] at hj ⊢
  rw [h2]
  obtain ⟨a,b,b'⟩:=h.rt j hj
  exact ⟨a,b,by omega⟩
 ·rw [kc,h2,h.cu]
  have hb:=Fi (n:=m.scrubs) (a:=LnC c) l1
  unfold Azn
  rw [Ca (x:=m.scrubs % LnC c + 1) (by omega),Int.tmod_eq_emod_of_nonneg (by omega)]
  show (m.scrubs % LnC c + 1) % LnC c=_
  exact Int.emod_add_emod ..
 ·rcases k.ce n hn with e | ⟨e1, e2, e3⟩
  ·rw [e] at hxx; exact absurd hxx A2s
  ·have hold:=hxx
   rw [e1,e2,e3] at hold
   obtain ⟨j,j1,j2,j3,j4⟩:=h.dif n hn x hold
   rw [e1,k.la,h1,h2]
   refine ⟨j,j1,j2,j3,?_⟩
   rcases j4 with j4 | j4
   ·exact Or.inl j4
   ·by_cases en:n=m.c.cur
    ·-- the line that is scrubbed
     subst en
     left
     have hvk:vK c m.c (RT m.c.le.rep m.c.cur) ≠ 1:=fun e=>by
      have:=kw e
      rw [this] at hxx; exact absurd hxx A2s
     obtain ⟨t1,_,_,_⟩:=d.tells hc dk hcu hx
     have h0:vK c m.c (RT m.c.le.rep m.c.cur)=0:=by omega
     obtain ⟨_,_,hat⟩:=d.w.cat hcu
     have hat':m.c.d.d.g.atE (RT m.c.le.rep m.c.cur)=0:=by rw [d.w.g]; exact Ma hat
     obtain ⟨v1,_,_⟩:=Rg d.co hat'
     have hr:∀ j,ovr m.c (RT m.c.le.rep m.c.cur) j < 256:=fun j=>by rw [← v1]; exact Iv dk j
     obtain ⟨l,g1,g2,_,_⟩:=d.dat _ hcu
     unfold exP at hx
     rw [d.w.md,g2] at hx
     unfold vK at h0
     rw [v1] at h0
     have hz:=Akv hm g1 hr _ hx h0
     rw [← g2] at hz
     have hno:=Als hm hr (dk.gh _) hz x
     have h5:=Awk hold hno
     unfold ovr at h5
     rw [d.w.md,d.w.g] at h5
     have hla:c.mode=1->∀ f ∈ m.c.d.d.la,f.kind=2:=fun e f hf=>by
      obtain ⟨k,k1,k2,k3⟩:=h.la f hf
      have hb:=(hs k k1).1
      unfold sbk at hb
      rw [tq e] at hb
      have hnw : Bo (m.inj.getD k Aa).f = true := by
       cases q6:decide ((m.inj.getD k Aa).f.kind=6) with
       | true=>rw [q6] at hb; cases hb
       | false =>
         cases q7:decide ((m.inj.getD k Aa).f.kind=7) with
         | true=>rw [q6,q7] at hb; cases hb
         | false =>
           rw [q6,q7] at hb
           cases q:Bo (m.inj.getD k Aa).f with
           | true=>rfl
           | false=>rw [q] at hb; cases hb
      rw [k2] at hnw
      unfold Bo at hnw
      rw [fq (show ¬ f.flt.kind=1 by show ¬ f.kind=1; omega)] at hnw
      exact otq hnw
     rcases Av6 hm hla h5 with w | w
     ·exact absurd w A2s
     ·exact w
    ·right
     intro t t1 t2
     rcases Int.lt_or_le t m.scrubs with q | q
     ·exact j4 t t1 q
     ·have et:t=m.scrubs:=by omega
      rw [et,← h.cu]; exact fun e=>en e.symm
theorem Ank (s:MchS) (x:Stp):(Al s x).inj=bif Br x then (bif decide (x.kind=8) then (bif decide (Cm s.c.d.d x.f=0) then s.inj ++ [⟨x.f,s.scrubs,((s.c.d.l.length:Nat):Int)⟩] else s.inj) else s.inj) else s.inj:=by
 cases hr:Br x with
 | false=>rw [(Avx hr).1]; rfl
 | true =>
   cases hk:decide (x.kind=8) with
   | true =>
     have q:=otq hk
     unfold Al
     rw [hr,fq (show ¬ x.kind=4 by omega),fq (show ¬ x.kind=5 by omega),fq (show ¬ x.kind=6 by omega),fq (show ¬ x.kind=7 by omega),hk]
     simp only [cond_true,cond_false]
     unfold Bn
     show (bif decide (Cm s.c.d.d x.f=0) then _ else _:MchS).inj=_
     cases decide (Cm s.c.d.d x.f=0) <;> rfl
   | false =>
     let p:=fun t:MchS=>t.inj=s.inj
     have h2:p (Az { s with steps:=IntKind.i64.wrap (s.steps + 1) } x):=by
      unfold Az
      exact Ad (p:=p) (Ad (p:=p) rfl rfl) (Ad (p:=p) (Ad (p:=p) rfl rfl) (Ad (p:=p) rfl rfl))
     unfold Al
     rw [hr,hk]
     simp only [cond_true,cond_false]
     exact Ad (p:=p) rfl (Ad (p:=p) rfl (Ad (p:=p) rfl (Ad (p:=p) rfl h2)))
theorem B00 {d : DramS} (hm : d.mode = 1 ∨ d.mode = 2) (f : Flt) : (Cm d f ≠ 0 -> Dj d f = d) /\ (Cm d f = 0 -> C3 d.mode f d.g = true /\
   ((f.kind=1/\Dj d f={ d with c:=upZ d.c (⟨f.rank,f.bank,f.row,f.col⟩:Pl).ix (Pv (d.c (⟨f.rank,f.bank,f.row,f.col⟩:Pl).ix) f.bit.toNat) }/\d.g.holds ⟨f.rank,f.bank,f.row,f.col⟩=true) ∨ ((2<=f.kind/\f.kind<=5)/\Dj d f={ d with la:=d.la ++ [f.n] }) ∨ (f.kind=6 ∨ f.kind=7))):=by
 unfold Cm Dj
 cases hr:C3 d.mode f d.g with
 | false=>exact ⟨fun _=>rfl,fun h=>absurd (show (10:Int)=0 from h) (by decide)⟩
 | true =>
   obtain ⟨k,hh,_,_,_,_⟩:=Ku hm hr
   rw [cond_true,cond_true]
   unfold Ks Hq
   have ek:f.n.kind=f.kind:=rfl
   have ep:(⟨f.n.rank,f.n.bank,f.n.row,f.n.col⟩:Pl)=⟨f.rank,f.bank,f.row,f.col⟩:=rfl
   rw [ek,ep]
   cases k1:decide (f.kind=1) with
   | true =>
     have k1:=otq k1
     have e0:d.g.ixE ⟨f.rank,f.bank,f.row,f.col⟩=0:=Amo hh
     have ei:d.g.ix ⟨f.rank,f.bank,f.row,f.col⟩=(⟨f.rank,f.bank,f.row,f.col⟩:Pl).ix:=by unfold Gm.ix; rw [hh]; rfl
     rw [cond_true,cond_true,e0,ei]
     exact ⟨fun h=>absurd rfl h,fun _=>⟨rfl,Or.inl ⟨k1,rfl,hh⟩⟩⟩
   | false =>
     have k1:=ofq k1
     rw [cond_false,cond_false]
     cases hl:Dr (⟨f.kind,f.n.rank,f.n.bank,f.n.row,f.n.col,((f.n.chip:Nat):Int),((f.n.bit:Nat):Int),((f.n.value:Nat):Int)⟩:Flt) with
     | true =>
       unfold Dr at hl
       obtain ⟨z1,z2⟩:=cT hl
       have z1:2<=f.kind:=otq z1
       have z2:f.kind<=5:=otq z2
       rw [cond_true,cond_true]
       cases decide (256<=((d.la.length:Nat):Int)) with
       | true=>exact ⟨fun _=>rfl,fun h=>absurd h (by decide)⟩
       | false=>exact ⟨fun h=>absurd rfl h,fun _=>⟨rfl,Or.inr (Or.inl ⟨⟨z1,z2⟩,rfl⟩)⟩⟩
     | false =>
       have z:f.kind=6 ∨ f.kind=7:=by
        unfold Dr at hl
        cases z1:decide (2<=f.kind) with
        | false=>have:=ofq z1; omega
        | true =>
          have hl:(bif decide (2<=f.kind) then decide (f.kind<=5) else false)=false:=hl
          rw [z1] at hl
          have:=ofq hl
          omega
       rw [cond_false,cond_false]
       cases decide (256<=((d.co.length:Nat):Int)) with
       | true=>exact ⟨fun _=>rfl,fun h=>absurd h (by decide)⟩
       | false=>exact ⟨fun h=>absurd rfl h,fun _=>⟨rfl,Or.inr (Or.inr z)⟩⟩
theorem CD.inject {c:Cfg} {id:Int->Nat->Nat} {s:CtlS} (h:CD c id s) (f:Flt) (hco:(Dj s.d.d f).co=[]):CD c id { s with d:=Ig s.d f }:=⟨h.w.inject f,h.cu,hco,h.dat⟩
theorem SP.inject {c:Cfg} {N:Nat} {m t:MchS} {id:Int->Nat->Nat} (hc:A8 c=true) (h:SP c N m) (d:CD c id m.c) (f:Flt) (hs:SpI c t.inj) (h1:t.inj=bif decide (Cm m.c.d.d f=0) then m.inj ++ [⟨f,m.scrubs,((m.c.d.l.length:Nat):Int)⟩] else m.inj) (h2:t.scrubs=m.scrubs) (h3:t.c={ m.c with d:=Ig m.c.d f }):SP c (N + 1) t/\CD c id t.c:=by
 have hm:=(Ho hc).2.1
 have hdm:m.c.d.d.mode=1 ∨ m.c.d.d.mode=2:=by rw [d.w.md]; exact hm
 obtain ⟨i1,i2⟩:=B00 hdm f
 by_cases e:Cm m.c.d.d f=0
 ·obtain ⟨hr,hcase⟩:=i2 e
  rw [tq e,cond_true] at h1
  have hlen:t.inj.length=m.inj.length + 1:=by rw [h1,List.length_append]; rfl
  have hnew:t.inj.getD m.inj.length Aa=⟨f,m.scrubs,((m.c.d.l.length:Nat):Int)⟩:=by rw [h1,Ru]
  have hold:∀ k,k < m.inj.length->t.inj.getD k Aa=m.inj.getD k Aa:=fun k hk=>by rw [h1,Rt _ _ _ hk]
  have hr':C3 c.mode f c.ly.g=true:=by rw [← d.w.md,← d.w.g]; exact hr
  have hRT:∀ n,RT t.c.le.rep n=RT m.c.le.rep n:=fun n=>by rw [h3]
  have rt:∀ k,k < t.inj.length->C3 c.mode (t.inj.getD k Aa).f c.ly.g=true/\0<=(t.inj.getD k Aa).scrubs/\(t.inj.getD k Aa).scrubs<=t.scrubs:=fun k hk=>by
   rw [h2]
   rcases Nat.lt_or_ge k m.inj.length with q | q
   ·rw [hold k q]; exact h.rt k q
   ·have ek:k=m.inj.length:=by omega
    rw [ek,hnew]
    exact ⟨hr',h.sc.1,Int.le_refl _⟩
  have mo:∀ j k,j < k->k < t.inj.length->(t.inj.getD j Aa).scrubs<=(t.inj.getD k Aa).scrubs:=fun j k hj hk=>by
   rcases Nat.lt_or_ge k m.inj.length with q | q
   ·rw [hold k q,hold j (by omega)]; exact h.mo j k hj q
   ·have ek:k=m.inj.length:=by omega
    rw [ek,hnew,hold j (by omega)]
    exact (h.rt j (by omega)).2.2
  have sc:0<=t.scrubs/\t.scrubs<=((N + 1:Nat):Int):=by rw [h2]; have:=h.sc; omega
  have cu:t.c.cur=t.scrubs % LnC c:=by rw [h2,h3]; exact h.cu
  rcases hcase with ⟨k1,hd,hh⟩ | ⟨k2,hd⟩ | k6
  ·-- a bit is turned
   have hdd:t.c.d.d={ m.c.d.d with c:=upZ m.c.d.d.c (⟨f.rank,f.bank,f.row,f.col⟩:Pl).ix (Pv (m.c.d.d.c (⟨f.rank,f.bank,f.row,f.col⟩:Pl).ix) f.bit.toNat) }:=by rw [h3]; exact hd
   have hgh:t.c.d.gh=m.c.d.gh:=by rw [h3]; rfl
   refine ⟨⟨rt,mo,sc,cu,fun g hg=>?_,fun n hn x hx=>?_⟩,by rw [h3]; exact d.inject f (by rw [hd]; exact d.co)⟩
   ·rw [hdd] at hg
    obtain ⟨k,a,b,e⟩:=h.la g hg
    exact ⟨k,by omega,by rw [hold k a]; exact b,e⟩
   ·rw [hRT, hgh, hdd] at hx
    have hx:df c.mode (upZ m.c.d.d.c (⟨f.rank,f.bank,f.row,f.col⟩:Pl).ix (Pv (m.c.d.d.c (⟨f.rank,f.bank,f.row,f.col⟩:Pl).ix) f.bit.toNat) (RT m.c.le.rep n)) (m.c.d.gh (RT m.c.le.rep n)) x:=hx
    rw [hRT,hdd,h2]
    have oldk:df c.mode (m.c.d.d.c (RT m.c.le.rep n)) (m.c.d.gh (RT m.c.le.rep n)) x->∃ k,k < t.inj.length/\(t.inj.getD k Aa).f.kind=1/\cov c.mode (t.inj.getD k Aa).f (c.ly.g.at (RT m.c.le.rep n)) x/\((∃ f ∈ m.c.d.d.la,cov c.mode f.flt (c.ly.g.at (RT m.c.le.rep n)) x) ∨ rcn c (t.inj.getD k Aa).scrubs m.scrubs n):=fun hx=>by
     obtain ⟨k,a,b,e1,e2⟩:=h.dif n hn x hx
     exact ⟨k,by omega,by rw [hold k a]; exact b,by rw [hold k a]; exact e1,by rw [hold k a]; exact e2⟩
    unfold upZ at hx
    by_cases ei:RT m.c.le.rep n=(⟨f.rank,f.bank,f.row,f.col⟩:Pl).ix
    ·rw [if_pos ei,← ei] at hx
     rcases Abb hx with z | z
     ·exact oldk z
     ·refine ⟨m.inj.length,by omega,by rw [hnew]; exact k1,?_,Or.inr (by rw [hnew]; exact fun t t1 t2=>absurd t1 (by show ¬ m.scrubs<=t; omega))⟩
      rw [hnew]
      obtain ⟨_,_,fb,_,_,_⟩:=Ku hm hr'
      have ha:c.ly.g.at (RT m.c.le.rep n)=⟨f.rank,f.bank,f.row,f.col⟩:=by
       rw [d.w.g] at hh
       rw [ei]
       obtain ⟨a1,a2,a3,a4⟩:=Ip hh
       unfold Gm.at
       rw [K5 hh,S3 a1 a2 a3 a4]; rfl
      rw [ha]
      refine ⟨?_,fun e1=>⟨Or.inl k1,?_⟩,fun e2=>⟨fun _=>?_,fun k3=>?_⟩⟩
      ·unfold Ic
       rw [tq (show f.kind=1 from k1)]
       simp
      ·have:=z.1 e1
       show f.bit=_
       omega
      ·have:=z.2 e2
       show f.bit / 8 % 36=_
       omega
      ·have k3:3<=f.kind:=k3
       omega
    ·rw [if_neg ei] at hx
     exact oldk hx
  ·-- a fault that O9
   have hdd:t.c.d.d={ m.c.d.d with la:=m.c.d.d.la ++ [f.n] }:=by rw [h3]; exact hd
   have hgh:t.c.d.gh=m.c.d.gh:=by rw [h3]; rfl
   obtain ⟨_,_,fb,fc,fv,_⟩:=Ku hm hr'
   have hfn:f.n.flt=f:=Flt.n_flt fc.1 fb.1 fv.1
   refine ⟨⟨rt,mo,sc,cu,fun g hg=>?_,fun n hn x hx=>?_⟩,by rw [h3]; exact d.inject f (by rw [hd]; exact d.co)⟩
   ·rw [hdd] at hg
    rcases List.mem_append.1 hg with hg | hg
    ·obtain ⟨k,a,b,e⟩:=h.la g hg
     exact ⟨k,by omega,by rw [hold k a]; exact b,e⟩
    ·rw [List.mem_singleton.1 hg]
     exact ⟨m.inj.length,by omega,by rw [hnew,hfn],k2.1⟩
   ·rw [hRT,hgh,hdd] at hx
    have hx:df c.mode (m.c.d.d.c (RT m.c.le.rep n)) (m.c.d.gh (RT m.c.le.rep n)) x:=hx
    obtain ⟨k,a,b,e1,e2⟩:=h.dif n hn x hx
    rw [hRT,hdd,h2]
    refine ⟨k,by omega,by rw [hold k a]; exact b,by rw [hold k a]; exact e1,?_⟩
    rw [hold k a]
    rcases e2 with ⟨g,g1,g2⟩ | e2
    ·exact Or.inl ⟨g,List.mem_append_left _ g1,g2⟩
    ·exact Or.inr e2
  ·-- an access would go astray
   exfalso
   have hb:=(hs m.inj.length (by omega)).1
   rw [hnew] at hb
   unfold sbk at hb
   rcases k6 with k6 | k6
   ·rw [tq (show (⟨f,m.scrubs,((m.c.d.l.length:Nat):Int)⟩:Inj).f.kind=6 from k6)] at hb; cases hb
   ·rw [fq (show ¬ (⟨f,m.scrubs,((m.c.d.l.length:Nat):Int)⟩:Inj).f.kind=6 by show ¬ f.kind=6; omega),tq (show (⟨f,m.scrubs,((m.c.d.l.length:Nat):Int)⟩:Inj).f.kind=7 from k6)] at hb; cases hb
 ·rw [fq e,cond_false] at h1
  have hd:=i1 e
  have ec:t.c=m.c:=by
   rw [h3]
   show ({ m.c with d:={ m.c.d with d:=Dj m.c.d.d f } }:CtlS)=m.c
   rw [hd]
  exact ⟨h.cl (by rw [ec]; exact .refl _ _) h1 h2 (by rw [ec]),by rw [ec]; exact d⟩
structure SM (c:Cfg) (N:Nat) (m:MchS):Prop where
 d:CD c m.ideal m.c
 sp:SP c N m
 ac:∀ a ∈ m.c.d.l,CA a
 sv:∀ x ∈ m.srv,x.ans.e=0/\Jq x=true
theorem SM.step {c:Cfg} {N:Nat} (hc:A8 c=true) {m:MchS} (h:SM c N m) (hN:N<=1000) (dk:DevOk m.c.d) {x:Stp} (hx:StpOk x) (hci:CIn m.c) (hs:SpI c (Al m x).inj):SM c (N + 1) (Al m x):=by
 have hly:=h.d.w.ly
 have hin:=Ank m x
 have hsc:=(Ay8 m x).2
 have hs0:SpI c m.inj:=by
  obtain ⟨y,hy⟩:=(Anm m x).inj
  rw [hy] at hs
  intro k hk
  have a:=hs k (by rw [List.length_append]; omega)
  have e:∀ j,j < m.inj.length->(m.inj ++ y).getD j Aa=m.inj.getD j Aa:=fun j hj=>by rw [List.getD_eq_getElem?_getD,List.getElem?_append_left hj,← List.getD_eq_getElem?_getD]
  rw [e k hk] at a
  exact ⟨a.1,fun j hj=>by have:=a.2 j hj; rw [e j (by omega)] at this; exact this⟩
 have hex:=fun n hn=>h.sp.ex hc hN h.d hs0 dk (n:=n) hn
 have hac:∀ {t:CtlS},(∃ z,t.d.l=m.c.d.l ++ z/\∀ a ∈ z,CA a)->∀ a ∈ t.d.l,CA a:=fun {t} ⟨z,hz,hb⟩ a ha=>by
  rw [hz] at ha
  rcases List.mem_append.1 ha with ha | ha
  ·exact h.ac a ha
  ·exact hb a ha
 cases hq:Lr c x with
 | true =>
   obtain ⟨s1,s2,_⟩:=Afu hci hly hq
   obtain ⟨hr,hk,hn,hm⟩:=A5w hq
   have hn:Lns c.ly x.line:=hn
   have k1:=Ur hr
   obtain ⟨e1,e2,e3,e4⟩:=Afs (s:=m) hr hk
   have ec:(Al m x).c=bif decide (x.kind=1) then An m.c x.line m.c.le.c.back else (bif decide (x.kind=2) then Ah m.c x.line (arL x.data 64 0) 18446744073709551615 else Ah m.c x.line (arL x.data 64 0) x.mask):=by rw [e1]; exact A5y _ _
   have bl:B8 (arL x.data 64 0):=Ij hx.d 64 0
   have mg:∀ q j,j < 64->mgF (m.ideal x.line) (Uc (arL x.data 64 0)) q j=mgF (m.ideal x.line) x.data q j:=fun q j hj=>by unfold mgF; rw [lnA hj]
   have hinj:(Al m x).inj=m.inj:=by rw [hin,hr,fq (show ¬ x.kind=8 by omega)]; rfl
   have hscr:(Al m x).scrubs=m.scrubs:=by rw [hsc,hr,fq (show ¬ x.kind=4 by omega)]; rfl
   have hcur:(Al m x).c.cur=m.c.cur:=by
    rw [ec]
    have hcm:∀ l q,(Ah m.c x.line l q).cur=m.c.cur:=fun l q=>by
     let p:=fun t:CtlS=>t.cur=m.c.cur
     have hp:∀ (t:CtlS) i l b,p t->p (As t i l b):=fun t i l b h=>by cases b <;> exact h
     have ht:p (Aw m.c (Ae m.c x.line) (Ey m.c x.line) (Ez m.c x.line)):=rfl
     unfold Ah
     exact Ad (p:=p) (Ad (p:=p) rfl (Ad (p:=p) (hp _ _ _ _ rfl) (Ad (p:=p) (hp _ _ _ _ ht) (hp _ _ _ _ ht)))) rfl
    exact Ad (p:=fun t:CtlS=>t.cur=m.c.cur) (A7p _ _ _) (Ad (p:=fun t:CtlS=>t.cur=m.c.cur) (hcm _ _) (hcm _ _))
   have hres:CD c (Al m x).ideal (Al m x).c/\CL c m.c (Al m x).c/\(∃ z,(Al m x).c.d.l=m.c.d.l ++ z/\∀ a ∈ z,CA a)/\D7 m x=0/\(x.kind=1->∀ j,j < 64->Eb m x j=m.ideal x.line j):=by
    rcases (by omega:x.kind=1 ∨ x.kind=2 ∨ x.kind=3) with q | q | q
    ·rw [tq q,cond_true] at ec
     obtain ⟨a,b,d,e,f,_⟩:=h.d.read hc dk hn (hex _ hn) m.c.le.c.back
     have ei:(Al m x).ideal=m.ideal:=by rw [s2]; unfold Amm; rw [fq (show ¬ x.kind=2 by omega),fq (show ¬ x.kind=3 by omega)]; rfl
     have ea:D7 m x=((Bv m.c x.line m.c.le.c.back:Nat):Int)/\Eb m x=Cl m.c x.line m.c.le.c.back:=by
      rw [e2,e4]; unfold Cx G6; rw [tq q]; exact ⟨rfl,rfl⟩
     rw [ei,ec]
     exact ⟨a,b,f,by rw [ea.1,d]; rfl,fun _ j hj=>by rw [ea.2]; exact e j hj⟩
    ·rw [fq (show ¬ x.kind=1 by omega),tq q,cond_false,cond_true] at ec
     have ei:(Al m x).ideal=upZ m.ideal x.line (mgF (m.ideal x.line) x.data 18446744073709551615):=by rw [s2]; unfold Amm; rw [tq q]; rfl
     have ea:D7 m x=((Ar m.c x.line (arL x.data 64 0) 18446744073709551615:Nat):Int):=by rw [e2]; unfold Cx; rw [fq (show ¬ x.kind=1 by omega),tq q]; rfl
     obtain ⟨a,b,d,f⟩:=h.d.masked hc dk hn (hex _ hn) bl (m:=18446744073709551615) (by decide) (by decide) (mg _)
     rw [ei,ec]
     exact ⟨a,b,f,by rw [ea,d]; rfl,fun y=>by omega⟩
    ·rw [fq (show ¬ x.kind=1 by omega),fq (show ¬ x.kind=2 by omega),cond_false,cond_false] at ec
     have ei:(Al m x).ideal=upZ m.ideal x.line (mgF (m.ideal x.line) x.data x.mask):=by rw [s2]; unfold Amm; rw [fq (show ¬ x.kind=2 by omega),tq q]; rfl
     have ea:D7 m x=((Ar m.c x.line (arL x.data 64 0) x.mask:Nat):Int):=by rw [e2]; unfold Cx; rw [fq (show ¬ x.kind=1 by omega),fq (show ¬ x.kind=2 by omega)]; rfl
     obtain ⟨a,b,d,f⟩:=h.d.masked hc dk hn (hex _ hn) bl (hm q) hx.m (mg _)
     rw [ei,ec]
     exact ⟨a,b,f,by rw [ea,d]; rfl,fun y=>by omega⟩
   obtain ⟨r1,r2,r3,r4,r5⟩:=hres
   refine ⟨r1,h.sp.cl r2 hinj hscr hcur,hac r3,fun y hy=>?_⟩
   rw [s1] at hy
   rcases List.mem_append.1 hy with hy | hy
   ·exact h.sv y hy
   ·rw [List.mem_singleton.1 hy]
    refine ⟨r4,?_⟩
    unfold Jq
    show (bif decide (x.kind=1) then eqA (nf (Eb m x)) (nf (m.ideal x.line)) 64 0 else true)=true
    cases q:decide (x.kind=1) with
    | false=>rfl
    | true =>
      refine P0.2 fun j _ hj=>?_
      show ((Eb m x j:Nat):Int)=((m.ideal x.line j:Nat):Int)
      rw [r5 (otq q) j (by omega)]
 | false =>
   obtain ⟨s1,s2⟩:=A9b hly hq
   have hsv:∀ y ∈ (Al m x).srv,y.ans.e=0/\Jq y=true:=fun y hy=>by rw [s1] at hy; exact h.sv y hy
   rcases A5v hq with hb | ⟨hr,k1,k2⟩
   ·have ec:=(A43 hly hb).1.c
    have hnk:(bif Br x then decide (x.kind=8) else false)=false/\(bif Br x then decide (x.kind=4) else false)=false:=by
     rcases hb with hb | hb
     ·rw [hb]; exact ⟨rfl,rfl⟩
     ·rw [fq (show ¬ x.kind=8 by omega),fq (show ¬ x.kind=4 by omega)]; cases Br x <;> exact ⟨rfl,rfl⟩
    have hinj:(Al m x).inj=m.inj:=by
     rw [hin]
     cases q:Br x with
     | false=>rfl
     | true=>have:=hnk.1; rw [q,cond_true] at this; rw [this]; rfl
    have hscr:(Al m x).scrubs=m.scrubs:=by
     rw [hsc]
     cases q:Br x with
     | false=>rfl
     | true=>have:=hnk.2; rw [q,cond_true] at this; rw [this]; rfl
    exact ⟨by rw [s2,ec]; exact h.d,h.sp.cl (by rw [ec]; exact .refl _ _) hinj hscr (by rw [ec]),by rw [ec]; exact h.ac,hsv⟩
   ·obtain ⟨q4,q5,q6,q7,q8⟩:=Anl m hr
    rcases (by omega:x.kind=4 ∨ x.kind=5 ∨ x.kind=6 ∨ x.kind=7 ∨ x.kind=8) with q | q | q | q | q
    ·have hinj:(Al m x).inj=m.inj:=by rw [hin,hr,fq (show ¬ x.kind=8 by omega)]; rfl
     have hscr:(Al m x).scrubs=m.scrubs + 1:=by
      rw [hsc,hr,tq q]
      have:=h.sp.sc
      exact Ca (by omega)
     obtain ⟨a,b,_,_,f,_⟩:=h.d.scrub hc dk (hex _ h.d.cu)
     exact ⟨by rw [s2,q4 q]; exact a,h.sp.scrub hc hN h.d hs0 dk hinj hscr (q4 q),by rw [q4 q]; exact hac f,hsv⟩
    ·have hinj:(Al m x).inj=m.inj:=by rw [hin,hr,fq (show ¬ x.kind=8 by omega)]; rfl
     have hscr:(Al m x).scrubs=m.scrubs:=by rw [hsc,hr,fq (show ¬ x.kind=4 by omega)]; rfl
     obtain ⟨a,b,e,f⟩:=h.d.copy hc dk hex
     exact ⟨by rw [s2,q5 q]; exact a,h.sp.cl (by rw [q5 q]; exact b) hinj hscr (by rw [q5 q]; exact e),by rw [q5 q]; exact hac f,hsv⟩
    ·have hinj:(Al m x).inj=m.inj:=by rw [hin,hr,fq (show ¬ x.kind=8 by omega)]; rfl
     have hscr:(Al m x).scrubs=m.scrubs:=by rw [hsc,hr,fq (show ¬ x.kind=4 by omega)]; rfl
     obtain ⟨g,hst⟩:=h.d.w.note (x:=⟨2,0,0,0,0,0⟩) (by decide)
     have hcs:=h.d.same g hst rfl rfl
     have ht:CD c m.ideal (Dl m.c)/\CL c m.c (Dl m.c)/\(Dl m.c).cur=m.c.cur/\(Dl m.c).d=m.c.d:=by
      unfold Dl
      exact Ad (p:=fun t:CtlS=>CD c m.ideal t/\CL c m.c t/\t.cur=m.c.cur/\t.d=m.c.d) ⟨h.d,.refl _ _,rfl,rfl⟩ ⟨hcs.1,hcs.2,rfl,rfl⟩
     exact ⟨by rw [s2,q6 q]; exact ht.1,h.sp.cl (by rw [q6 q]; exact ht.2.1) hinj hscr (by rw [q6 q]; exact ht.2.2.1),by rw [q6 q,ht.2.2.2]; exact h.ac,hsv⟩
    ·have hinj:(Al m x).inj=m.inj:=by rw [hin,hr,fq (show ¬ x.kind=8 by omega)]; rfl
     have hscr:(Al m x).scrubs=m.scrubs:=by rw [hsc,hr,fq (show ¬ x.kind=4 by omega)]; rfl
     obtain ⟨g,hst⟩:=h.d.w.note (x:=⟨4,0,0,0,0,0⟩) (by decide)
     have hcs:=h.d.same g hst rfl rfl
     exact ⟨by rw [s2,q7 q]; exact hcs.1,h.sp.cl (by rw [q7 q]; exact hcs.2) hinj hscr (by rw [q7 q]; rfl),by rw [q7 q]; exact h.ac,hsv⟩
    ·have hinj:(Al m x).inj=bif decide (Cm m.c.d.d x.f=0) then m.inj ++ [⟨x.f,m.scrubs,((m.c.d.l.length:Nat):Int)⟩] else m.inj:=by rw [hin,hr,tq q]; rfl
     have hscr:(Al m x).scrubs=m.scrubs:=by rw [hsc,hr,fq (show ¬ x.kind=4 by omega)]; rfl
     obtain ⟨a,b⟩:=h.sp.inject hc h.d x.f hs hinj hscr (q8 q)
     exact ⟨by rw [s2]; exact b,a,by rw [q8 q]; exact h.ac,hsv⟩
theorem B16 {c:Cfg} (hc:A8 c=true):SM c 0 (Ac c):=by
 obtain ⟨a,z⟩:=Tk hc
 have hw:=A7d hc
 obtain ⟨l1,_,_⟩:=Anc hc
 refine ⟨⟨hw,A7c hc,a.co,fun n hn=>?_⟩,⟨fun k hk=>absurd hk (Nat.not_lt_zero k),fun j k _ hk=>absurd hk (Nat.not_lt_zero k),⟨Int.le_refl _,Int.le_refl _⟩,?_,fun f hf=>?_,fun n hn x hx=>?_⟩,fun x hx=>?_,fun x hx=>by cases hx⟩
 ·obtain ⟨_,_,hat⟩:=hw.cat hn
  obtain ⟨_,z2,z3⟩:=z _ hat
  exact ⟨fun _=>0,fun _=>(by decide:(0:Nat) < 256),z2,by show (Lh c).d.mks (RT (Lh c).le.rep n) ≠ 1; rw [z3]; decide,fun _ _=>rfl⟩
 ·show (Lh c).cur=0 % LnC c
  rw [a.cur,Int.zero_emod]
 ·have hf:f ∈ (Lh c).d.d.la:=hf
  rw [a.la] at hf; cases hf
 ·obtain ⟨_,_,hat⟩:=hw.cat hn
  obtain ⟨z1,z2,_⟩:=z _ hat
  have hx:df c.mode ((Lh c).d.d.c (RT (Lh c).le.rep n)) ((Lh c).d.gh (RT (Lh c).le.rep n)) x:=hx
  rw [z1,z2] at hx; exact absurd hx A2s
 ·obtain ⟨b1,b2,b3,b4⟩:=a.wr x hx
  refine ⟨b2,?_⟩
  unfold Se
  rw [b4,if_neg (by decide),b3]; decide
theorem Ap9 {c:Cfg} {l:List Stp} (hc:A8 c=true) (hl:∀ x ∈ l,StpOk x) (hn:l.length<=1000) (hs:SpI c (mrS (Ac c) l l.length).inj):∀ i,i<=l.length->SM c i (mrS (Ac c) l i)
 | 0,_=>B16 hc
 | i + 1,hi=>by
   have hx:=Ag5 (Ac c) l (i + 1) (l.length - (i + 1))
   rw [show i + 1 + (l.length - (i + 1))=l.length by omega] at hx
   obtain ⟨y,hy⟩:=hx.inj
   refine (Ap9 hc hl hn hs i (by omega)).step hc (by omega) (Wb (Kx hc) hl (by omega)).c.d (Tb hl hi) (Anx hc l i) fun k hk=>?_
   have hk:k < (mrS (Ac c) l (i + 1)).inj.length:=hk
   have e:∀ j,j < (mrS (Ac c) l (i + 1)).inj.length->(mrS (Ac c) l l.length).inj.getD j Aa=(mrS (Ac c) l (i + 1)).inj.getD j Aa:=fun j hj=>by rw [hy,List.getD_eq_getElem?_getD,List.getElem?_append_left hj,← List.getD_eq_getElem?_getD]
   have a:=hs k (by rw [hy,List.length_append]; omega)
   rw [e k hk] at a
   exact ⟨a.1,fun j hj=>by have:=a.2 j hj; rw [e j (by omega)] at this; exact this⟩
theorem Ae0 {m:MchS} (ai:AccIn m.c.d.l) (h:∀ a ∈ m.c.d.l,CA a):Dq m=true:=by
 have hg:∀ i,i < m.c.d.l.length->CA (m.c.d.l.getD i Mj):=fun i hi=>h _ (gDm Mj hi)
 have h1:(Ft m 0 ((m.c.d.l.length:Nat):Int)).astray=false:=by
  unfold Ft W4
  refine A6n.2 fun i hi=>(hg _ (by omega)).1
 have h2:(Ft m 0 ((m.c.d.l.length:Nat):Int)).exp<=1:=by
  unfold Ft W4
  refine (A6o ai (by decide)).2 fun i hi _=>(hg _ (by omega)).2
 unfold Dq
 rw [h1,tq h2]; rfl
theorem Wz {m:MchS} (h:∀ x ∈ m.srv,x.ans.e=0/\Jq x=true):Bp m=true:=by
 have e:jfi m.srv=m.srv.length:=A2z (Nat.le_refl _) (fun j hj=>?_) (fun h=>absurd h (Nat.lt_irrefl _))
 ·unfold Bp
  rw [e,fq (Int.lt_irrefl _)]; rfl
 ·obtain ⟨a,b⟩:=h _ (gDm Aj hj)
  show A8s (m.srv.getD j Aj)=false
  unfold A8s
  rw [tq a,b]; rfl
theorem Apc {c:Cfg} {l:List Stp} (hc:A8 c=true) (hl:∀ x ∈ l,StpOk x) (hn:l.length<=1000) (h:I0 (mrS (Ac c) l l.length)=true):Dq (mrS (Ac c) l l.length)=true/\Bp (mrS (Ac c) l l.length)=true:=by
 have hmd:=B0c c l l.length
 have hg:(mrS (Ac c) l l.length).c.d.d.g=c.ly.g:=(B0d c l _).d.g.trans (Ab4 c).g
 have hsi:si c.mode (plG c.ly.g) (mrS (Ac c) l l.length).inj=(mrS (Ac c) l l.length).inj.length:=by
  unfold I0 at h
  rw [hmd,hg] at h
  have h0:si c.mode (plG c.ly.g) (mrS (Ac c) l l.length).inj<=(mrS (Ac c) l l.length).inj.length:=Qd _ _
  rcases Nat.lt_or_ge (si c.mode (plG c.ly.g) (mrS (Ac c) l l.length).inj) (mrS (Ac c) l l.length).inj.length with q | q
  ·rw [tq (by omega)] at h; cases h
  ·omega
 have hs:SpI c (mrS (Ac c) l l.length).inj:=fun k hk=>by
  obtain ⟨a,b⟩:=Ap6 (m:=c.mode) (n:=plG c.ly.g) (l:=(mrS (Ac c) l l.length).inj) (i:=k) (by omega)
  exact ⟨a,fun j hj=>Ap7 (by rw [b]; exact hj)⟩
 have hm:=Ap9 hc hl hn hs _ (Nat.le_refl _)
 exact ⟨Ae0 (Auy hc hl) hm.ac,Wz hm.sv⟩
