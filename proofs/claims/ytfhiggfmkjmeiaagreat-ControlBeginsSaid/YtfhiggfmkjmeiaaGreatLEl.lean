import Derived.Test.YtfhiggfmkjmeiaaGreatLCl
import Derived.Test.YtfhiggfmkjmeiaaGreatFDev
set_option linter.all false
namespace Go.Proofs.YtfhiggfmkjmeiaaGreat
open Go Go.RowKit
set_option maxRecDepth 100000
theorem Aoi (i:Nat):pw i ≠ 0:=by
 have h:=(X8 ⟨i % 255,Nat.mod_lt _ (by decide)⟩).2
 simp only at h
 rw [A6f] at h; exact h
theorem Ayj {i j:Nat} (hi:i < 255) (hj:j < 255) (h:pw i=pw j):i=j:=by
 have a:=(X8 ⟨i,hi⟩).1
 have b:=(X8 ⟨j,hj⟩).1
 simp only at a b
 rw [← a,h,b]
theorem At3 {a b:Nat} (ha:a < 256) (hb:b < 256) (h:Am a b=0):a=0 ∨ b=0:=by
 by_cases h1:a=0
 ·exact Or.inl h1
 ·by_cases h2:b=0
  ·exact Or.inr h2
  ·obtain ⟨i,rfl⟩:=A6e ha h1
   obtain ⟨j,rfl⟩:=A6e hb h2
   rw [Mr] at h; exact absurd h (Aoi _)
theorem Nu {a b:Nat} (h:xr a b=0):a=b:=by
 have e:xr (xr a b) b=b:=by rw [h]; exact (Hi b).2
 rw [N3,Dd,(Hi a).1] at e; exact e
theorem Ah5 (a b c:Nat):xr a (xr b c)=xr b (xr a c):=by rw [← N3,A22 a b,N3]
def Uo:List (Nat × Nat)->Nat->Nat
 | [],_=>0
 | p :: L,j=>xr (Am p.2 (xp p.1 j)) (Uo L j)
def PB (L:List (Nat × Nat)):Prop:=∀ p ∈ L,p.1 < 256/\p.2 < 256
theorem Ag8:∀ (L:List (Nat × Nat)) (j:Nat),Uo L j < 256
 | [],_=>(by decide:(0:Nat) < 256)
 | p :: L,j=>I5 (Cz _ _) (Ag8 L j)
def psh (y:Nat) (L:List (Nat × Nat)):List (Nat × Nat):=L.map fun p=>(p.1,Am p.2 (xr p.1 y))
theorem Ag9 {y:Nat} (hy:y < 256):∀ {L:List (Nat × Nat)},PB L->∀ j,Uo (psh y L) j=xr (Uo L (j + 1)) (Am y (Uo L j))
 | [],_,j=>by show 0=xr 0 (Am y 0); rw [(Hz y).1]; rfl
 | (x,v) :: L,h,j=>by
   have hp:=h (x,v) (List.mem_cons_self ..)
   have ih:=Ag9 hy (L:=L) (fun p hp=>h p (List.mem_cons_of_mem _ hp)) j
   have hx:x < 256:=hp.1
   have hv:v < 256:=hp.2
   have hX:=Ou x j
   show xr (Am (Am v (xr x y)) (xp x j)) (Uo (psh y L) j)=xr (xr (Am v (Am (xp x j) x)) (Uo L (j + 1))) (Am y (xr (Am v (xp x j)) (Uo L j)))
   rw [ih,A63 hv hx hy,A76 (Cz _ _) (Cz _ _) hX,A63 hy (Cz _ _) (Ag8 _ _)]
   rw [show Am (Am v x) (xp x j)=Am v (Am (xp x j) x) by rw [El hv hx hX,J9 x]]
   rw [show Am (Am v y) (xp x j)=Am y (Am v (xp x j)) by rw [J9 v y,El hy hv hX]]
   simp only [N3,Ah5,A22]
theorem Aog:∀ {L:List (Nat × Nat)},(∀ p ∈ L,p.2=0)->∀ j,Uo L j=0
 | [],_,j=>rfl
 | p :: L,h,j=>by rw [Uo,h p (List.mem_cons_self ..),(Hz _).2,Aog (fun q hq=>h q (List.mem_cons_of_mem _ hq)) j]; rfl
theorem van:∀ (n:Nat) {L:List (Nat × Nat)},L.length=n->PB L->L.Pairwise (fun p q=>p.1 ≠ q.1)->(∀ j,j < n->Uo L j=0)->∀ p ∈ L,p.2=0
 | 0,L,hl,_,_,_,p,hp=>by rw [List.eq_nil_of_length_eq_zero hl] at hp; cases hp
 | n + 1,[],hl,_,_,_,p,hp=>by cases hp
 | n + 1, (x, v) :: L, hl, hb, hd, h, p, hp => by
   have hx:=(hb (x,v) (List.mem_cons_self ..)).1
   have hv:=(hb (x,v) (List.mem_cons_self ..)).2
   have hbL:PB L:=fun p hp=>hb p (List.mem_cons_of_mem _ hp)
   have hd':=List.pairwise_cons.1 hd
   have hs:∀ j,j < n + 1->Uo L j=Am v (xp x j):=fun j hj=>(Nu (h j hj)).symm
   simp only at hx hv
   have hz:∀ q ∈ L,q.2=0:=fun q hq=>by
    have hq0:=van n (L:=psh x L) (by unfold psh; rw [List.length_map]; exact Nat.succ.inj hl)
     (fun r hr=>by obtain ⟨q,hq,rfl⟩:=List.mem_map.1 hr; exact ⟨(hbL q hq).1,Cz _ _⟩)
     (List.Pairwise.map _ (fun a b h=>h) hd'.2)
     (fun j hj=>by
      rw [Ag9 hx hbL j,hs (j + 1) (by omega),hs j (by omega),xp,J9 x (Am v (xp x j)),El hv (Ou x j) hx]; exact Dd _)
     (q.1,Am q.2 (xr q.1 x)) (List.mem_map.2 ⟨q,hq,rfl⟩)
    rcases At3 (hbL q hq).2 (I5 (hbL q hq).1 hx) hq0 with h1 | h1
    ·exact h1
    ·exact absurd (Nu h1).symm (hd'.1 q hq)
   rcases List.mem_cons.1 hp with rfl | hq
   ·have h0:=hs 0 (by omega)
    rw [Aog hz,xp,(Of hv).1] at h0
    exact h0.symm
   ·exact hz p hq
def sv (d:Nat->Nat) (x:Nat):Nat->Nat
 | 0=>0
 | k + 1=>xr (sv d x k) (Am (d k) (xp x k))
theorem Avj (d:Nat->Nat) (x:Nat):∀ k,sv d x k < 256
 | 0=>(by decide:(0:Nat) < 256)
 | k + 1=>I5 (Avj d x k) (Cz _ _)
theorem App {f g:Nat->Nat} (hf:∀ j,f j < 256) (hg:∀ j,g j < 256) (x:Nat):∀ k,sv (fun i=>xr (f i) (g i)) x k=xr (sv f x k) (sv g x k)
 | 0=>(Hi 0).1.symm
 | k + 1=>by
   show xr (sv (fun i=>xr (f i) (g i)) x k) (Am (xr (f k) (g k)) (xp x k))=xr (xr (sv f x k) (Am (f k) (xp x k))) (xr (sv g x k) (Am (g k) (xp x k)))
   rw [App hf hg x k,A76 (hf k) (hg k) (Ou x k)]
   simp only [N3,Ah5,A22]
theorem Avk {f:Nat->Nat} (hf:∀ j,f j < 256) {x:Nat} (hx:x < 256):∀ k,sv f x (k + 1)=xr (f 0) (Am (sv (fun i=>f (i + 1)) x k) x)
 | 0=>by
   show xr 0 (Am (f 0) 1)=xr (f 0) (Am 0 x)
   rw [(Of (hf 0)).1,(Hz x).2]; exact A22 _ _
 | k + 1=>by
   have ih:=Avk hf hx k
   show xr (sv f x (k + 1)) (Am (f (k + 1)) (Am (xp x k) x))=xr (f 0) (Am (xr (sv (fun i=>f (i + 1)) x k) (Am (f (k + 1)) (xp x k))) x)
   rw [ih,A76 (Avj _ _ _) (Cz _ _) hx,El (hf _) (Ou x k) hx,N3]
theorem Alq {l:List Nat} (hl:B8 l) {x:Nat} (hx:x < 256):∀ i,i<=l.length->Io l x i=sv (fun k=>l.getD (l.length - i + k) 0) x i
 | 0,_=>rfl
 | i + 1,h=>by
   have e:(fun k=>l.getD (l.length - (i + 1) + (k + 1)) 0)=fun k=>l.getD (l.length - i + k) 0:=by funext k; congr 1; omega
   have e0:l.length - (i + 1) + 0=l.length - 1 - i:=by omega
   rw [Io,Alq hl hx i (by omega),Avk (f:=fun k=>l.getD (l.length - (i + 1) + k) 0) (fun k=>hl _) hx]
   show _=xr (l.getD (l.length - (i + 1) + 0) 0) (Am (sv (fun k=>l.getD (l.length - (i + 1) + (k + 1)) 0) x i) x)
   rw [e,e0]; exact A22 _ _
theorem As3 {l:List Nat} (hl:B8 l) {x:Nat} (hx:x < 256):Io l x l.length=sv (fun k=>l.getD k 0) x l.length:=by
 have h:=Alq hl hx l.length (Nat.le_refl _)
 rw [Nat.sub_self] at h
 rw [h]
 congr 1; funext k; rw [Nat.zero_add]
theorem Azt:∀ j:_root_.Fin 4,ex (cu ((j.1:Nat):Int))=pw j.1:=by decide +kernel
def wS (w v:Nat->Nat) (k:Nat):Nat:=(Sr w v).getD k 0
theorem Agy (w v:Nat->Nat) (k:Nat):wS w v k=if k < 36 then w k else if k < 39 then v (k - 36) else 0:=by
 unfold wS Sr
 rw [List.nil_append,Qi,Bh,Nm,Nm,Nat.zero_add,Nat.zero_add]
 by_cases h:k < 36
 ·rw [if_pos h,if_pos h,if_pos h]
 ·rw [if_neg h,if_neg h]
  by_cases h2:k < 39
  ·rw [if_pos (by omega),if_pos h2]
  ·rw [if_neg (by omega),if_neg h2]
theorem Apr {w v:Nat->Nat} (hw:∀ j,w j < 256) (hv:∀ j,v j < 256) {j:Nat} (hj:j < 4):syF w v j=sv (wS w v) (pw j) 39:=by
 have h:=As3 (Vf hw hv) (Qw j)
 have e:=Azt ⟨j,hj⟩
 simp only at e
 unfold syF
 rw [e,h,Sc]; rfl
def prs (d:Nat->Nat):Nat->List (Nat × Nat)
 | 0=>[]
 | k + 1=>if d k=0 then prs d k else (pw k,d k) :: prs d k
def cnz (d:Nat->Nat):Nat->Nat
 | 0=>0
 | k + 1=>if d k=0 then cnz d k else cnz d k + 1
theorem Aal (i:Nat):∀ j,xp (pw i) j=pw (i * j)
 | 0=>rfl
 | j + 1=>by rw [xp,Aal i j,Mr,Nat.mul_succ]
theorem A6a (d:Nat->Nat) (j:Nat):∀ n,Uo (prs d n) j=sv d (pw j) n
 | 0=>rfl
 | k + 1=>by
   rw [prs,sv]
   by_cases h:d k=0
   ·rw [if_pos h,A6a d j k,h,(Hz _).2,(Hi _).1]
   ·rw [if_neg h]
    show xr (Am (d k) (xp (pw k) j)) (Uo (prs d k) j)=xr (sv d (pw j) k) (Am (d k) (xp (pw j) k))
    rw [A6a d j k,Aal,Aal,Nat.mul_comm k j]; exact A22 _ _
theorem A69 (d:Nat->Nat):∀ n,(prs d n).length=cnz d n
 | 0=>rfl
 | k + 1=>by
   rw [prs,cnz]
   by_cases h:d k=0
   ·rw [if_pos h,if_pos h]; exact A69 d k
   ·rw [if_neg h,if_neg h,List.length_cons,A69 d k]
theorem Yf {d:Nat->Nat}:∀ {n:Nat} {p:Nat × Nat},p ∈ prs d n->∃ k,k < n/\p=(pw k,d k)
 | 0,p,h=>by cases h
 | k + 1, p, h => by
   rw [prs] at h
   by_cases e:d k=0
   ·rw [if_pos e] at h
    obtain ⟨i,h1,h2⟩:=Yf h
    exact ⟨i,by omega,h2⟩
   ·rw [if_neg e] at h
    rcases List.mem_cons.1 h with h | h
    ·exact ⟨k,by omega,h⟩
    ·obtain ⟨i,h1,h2⟩:=Yf h
     exact ⟨i,by omega,h2⟩
theorem Ag0 {d:Nat->Nat}:∀ {n k:Nat},k < n->d k ≠ 0->(pw k,d k) ∈ prs d n
 | 0,k,h,_=>absurd h (Nat.not_lt_zero k)
 | n + 1,k,h,h2=>by
   rw [prs]
   by_cases e:k=n
   ·subst e; rw [if_neg h2]; exact List.mem_cons_self ..
   ·have ih:=Ag0 (n:=n) (show k < n by omega) h2
    by_cases e2:d n=0
    ·rw [if_pos e2]; exact ih
    ·rw [if_neg e2]; exact List.mem_cons_of_mem _ ih
theorem Aof (d:Nat->Nat):∀ {n:Nat},n<=255->(prs d n).Pairwise (fun p q=>p.1 ≠ q.1)
 | 0,_=>List.Pairwise.nil
 | k + 1,h=>by
   have ih:=Aof d (n:=k) (by omega)
   rw [prs]
   by_cases e:d k=0
   ·rw [if_pos e]; exact ih
   ·rw [if_neg e]
    refine List.Pairwise.cons (fun q hq=>?_) ih
    obtain ⟨i,h1,rfl⟩:=Yf hq
    intro h3
    have:=Ayj (by omega) (by omega) h3
    omega
theorem Agj {d:Nat->Nat} (hd:∀ j,d j < 256) {n:Nat} (hn:n<=255) (hc:cnz d n<=4) (h:∀ j,j < 4->sv d (pw j) n=0) {k:Nat} (hk:k < n):d k=0:=by
 by_cases e:d k=0
 ·exact e
 ·have hl:=A69 d n
  refine van (cnz d n) (L:=prs d n) hl (fun p hp=>?_) (Aof d hn) (fun j hj=>?_) (pw k,d k) (Ag0 hk e)
  ·obtain ⟨i,h1,rfl⟩:=Yf hp
   exact ⟨Qw i,hd i⟩
  ·rw [A6a]; exact h j (by omega)
theorem A7l {d:Nat->Nat}:∀ {n:Nat},cnz d n=0->∀ k,k < n->d k=0
 | 0,_,k,hk=>absurd hk (Nat.not_lt_zero k)
 | n + 1,h,k,hk=>by
   rw [cnz] at h
   by_cases e:d n=0
   ·rw [if_pos e] at h
    by_cases e2:k=n
    ·rw [e2]; exact e
    ·exact A7l h k (by omega)
   ·rw [if_neg e] at h; omega
theorem Ae7 {d:Nat->Nat}:∀ {n:Nat},(∀ k,k < n->d k=0)->cnz d n=0
 | 0,_=>rfl
 | n + 1,h=>by rw [cnz,if_pos (h n (by omega))]; exact Ae7 fun k hk=>h k (by omega)
theorem Awc {d:Nat->Nat}:∀ {n:Nat},cnz d n=1->∃ p,p < n/\d p ≠ 0/\∀ k,k < n->k ≠ p->d k=0
 | 0,h=>by cases h
 | n + 1,h=>by
   rw [cnz] at h
   by_cases e:d n=0
   ·rw [if_pos e] at h
    obtain ⟨p,h1,h2,h3⟩:=Awc h
    refine ⟨p,by omega,h2,fun k hk hp=>?_⟩
    by_cases e2:k=n
    ·rw [e2]; exact e
    ·exact h3 k (by omega) hp
   ·rw [if_neg e] at h
    exact ⟨n,by omega,e,fun k hk hp=>A7l (show cnz d n=0 by omega) k (by omega)⟩
theorem Ab1 {d e:Nat->Nat} {p:Nat} (h:∀ k,k ≠ p->e k=d k):∀ n,cnz e n<=cnz d n + (if p < n then 1 else 0)
 | 0=>by rw [cnz]; omega
 | n + 1 => by
   have ih:=Ab1 h n
   rw [cnz,cnz]
   by_cases q:n=p
   ·subst q
    rw [if_neg (Nat.lt_irrefl n)] at ih
    rw [if_pos (Nat.lt_succ_self n)]
    by_cases e1:e n=0 <;> by_cases e2:d n=0 <;> simp only [e1,e2,if_true,if_false] <;> omega
   ·rw [h n q]
    have e3:(if p < n + 1 then 1 else 0:Nat)=if p < n then 1 else 0:=by
     by_cases h1:p < n
     ·rw [if_pos h1,if_pos (by omega)]
     ·rw [if_neg h1,if_neg (by omega)]
    rw [e3]
    by_cases e2:d n=0 <;> simp only [e2,if_true,if_false] <;> omega
theorem Ayq {d:Nat->Nat} {x:Nat}:∀ {n:Nat},(∀ k,k < n->d k=0)->sv d x n=0
 | 0,_=>rfl
 | n + 1,h=>by rw [sv,h n (by omega),(Hz _).2,(Hi _).1]; exact Ayq fun k hk=>h k (by omega)
theorem Adj {d:Nat->Nat} {x p:Nat}:∀ {n:Nat},p < n->(∀ k,k < n->k ≠ p->d k=0)->sv d x n=Am (d p) (xp x p)
 | 0,h,_=>absurd h (Nat.not_lt_zero p)
 | n + 1,h,hz=>by
   rw [sv]
   by_cases e:p=n
   ·subst e
    rw [Ayq fun k hk=>hz k (by omega) (by omega),(Hi _).2]
   ·rw [hz n (by omega) (by omega),(Hz _).2,(Hi _).1]
    exact Adj (by omega) fun k hk=>hz k (by omega)
theorem lk0 {s:Nat->Nat} (h:∀ j,j < 4->s j=0):Aq s=0:=by
 have e:eqA (nf s) (fun _=>0) 4 0=true:=P0.2 fun j _ hj=>by
  show ((s j:Nat):Int)=0
  rw [h j (by omega)]; rfl
 unfold Aq; rw [if_pos e]
theorem Asr {s:Nat->Nat} (h:Aq s=0) {j:Nat} (hj:j < 4):s j=0:=by
 unfold Aq at h
 by_cases e:eqA (nf s) (fun _=>0) 4 0=true
 ·have:=P0.1 e j (by omega) (by omega)
  have h2:((s j:Nat):Int)=0:=this
  omega
 ·rw [if_neg e] at h
  by_cases e2:Dk s (Av (s 1) (s 0))=true
  ·rw [if_pos e2] at h
   by_cases e3:K1 (Av (s 1) (s 0)) < 36
   ·rw [if_pos e3] at h; cases h
   ·rw [if_neg e3] at h; cases h
  ·rw [if_neg e2] at h; cases h
theorem Awl {i p:Nat} (hp:p < 255):Av (Am (pw i) (pw p)) (pw i)=pw p:=by
 have hi:=X8 ⟨i % 255,Nat.mod_lt _ (by decide)⟩
 have hj:=X8 ⟨(i + p) % 255,Nat.mod_lt _ (by decide)⟩
 simp only at hi hj
 rw [A6f] at hi hj
 unfold Av
 rw [Mr,if_neg hi.2,if_neg hj.2,hi.1,hj.1]
 have e:cu ((((i + p) % 255:Nat):Int) - ((i % 255:Nat):Int))=p:=by unfold cu; omega
 rw [e]
 unfold ex
 rw [if_pos hp]
theorem Anf {p:Nat} (hp:p < 255):K1 (pw p)=p:=by
 have h:=(X8 ⟨p,hp⟩).1
 unfold K1
 rw [if_neg (Aoi p)]; exact h
theorem Ay7 {s:Nat->Nat} {v p:Nat} (hv:v < 256) (h0:v ≠ 0) (hp:p < 39) (h:∀ j,j < 4->s j=Am v (pw (j * p))):Aq s=(if p < 36 then 1 else 2)/\Ap s=((p:Nat):Int)/\Dt s=v:=by
 have s0:s 0=v:=by rw [h 0 (by decide),Nat.zero_mul]; exact (Of hv).1
 have s1:s 1=Am v (pw p):=by rw [h 1 (by decide),Nat.one_mul]
 have hm:∀ a,Am (Am v (pw a)) (pw p)=Am v (pw (a + p)):=fun a=>by rw [El hv (Qw a) (Qw p),Mr]
 have s2:s 2=Am (s 1) (pw p):=by rw [s1,hm,h 2 (by decide)]; congr 2; omega
 have s3:s 3=Am (s 2) (pw p):=by rw [h 2 (by decide),hm,h 3 (by decide)]; congr 2; omega
 have hr:Av (s 1) (s 0)=pw p:=by
  rw [s1,s0]
  obtain ⟨i,rfl⟩:=A6e hv h0
  exact Awl (by omega)
 have e1:¬ eqA (nf s) (fun _=>0) 4 0=true:=fun e=>by
  have h2:((s 0:Nat):Int)=0:=P0.1 e 0 (by omega) (by omega)
  omega
 have e2:Dk s (Av (s 1) (s 0))=true:=by
  unfold Dk
  rw [hr,Anf (by omega),tq (show s 0 ≠ 0 by omega),tq (Aoi p),tq (show s 1=Am (s 0) (pw p) by rw [s0]; exact s1),tq s2,tq s3,tq hp]
  rfl
 unfold Aq Ap Dt
 rw [if_neg e1,if_neg e1,if_neg e1,if_pos e2,if_pos e2,if_pos e2,hr,Anf (by omega)]
 exact ⟨rfl,rfl,s0⟩
theorem Ay6 {s:Nat->Nat} (hs:∀ j,s j < 256) (h:Aq s=1):∃ p,p < 36/\s 0 ≠ 0/\∀ j,j < 4->s j=Am (s 0) (pw (j * p)):=by
 unfold Aq at h
 by_cases e:eqA (nf s) (fun _=>0) 4 0=true
 ·rw [if_pos e] at h; cases h
 ·rw [if_neg e] at h
  by_cases e2:Dk s (Av (s 1) (s 0))=true
  ·rw [if_pos e2] at h
   by_cases e3:K1 (Av (s 1) (s 0)) < 36
   ·unfold Dk at e2
    simp only [bq,decide_eq_true_eq] at e2
    obtain ⟨⟨⟨⟨⟨a0,a1⟩,a2⟩,a3⟩,a4⟩,a5⟩:=e2
    have hr:=Dc (s 1) (s 0)
    generalize Av (s 1) (s 0)=r at *
    obtain ⟨i,hi⟩:∃ i,r=pw i/\K1 r=i:=⟨K1 r,by unfold K1; rw [if_neg a1]; exact (Av8 ⟨r,hr⟩ a1).symm,rfl⟩
    obtain ⟨rfl,hi2⟩:=hi
    refine ⟨i,by omega,a0,fun j hj=>?_⟩
    have hm:∀ a,Am (Am (s 0) (pw a)) (pw i)=Am (s 0) (pw (a + i)):=fun a=>by rw [El (hs 0) (Qw a) (Qw i),Mr]
    rcases (by omega:j=0 ∨ j=1 ∨ j=2 ∨ j=3) with rfl | rfl | rfl | rfl
    ·rw [Nat.zero_mul]; exact (Of (hs 0)).1.symm
    ·rw [Nat.one_mul]; exact a2
    ·rw [a3,a2,hm]; congr 2; omega
    ·rw [a4,a3,a2,hm,hm]; congr 2; omega
   ·rw [if_neg e3] at h; cases h
  ·rw [if_neg e2] at h; cases h
def dW (w v w0 v0:Nat->Nat) (k:Nat):Nat:=xr (wS w v k) (wS w0 v0 k)
section word
variable {w v w0 v0:Nat->Nat} (hw:∀ j,w j < 256) (hv:∀ j,v j < 256) (hw0:∀ j,w0 j < 256) (hv0:∀ j,v0 j < 256) (hz:∀ j,j < 4->syF w0 v0 j=0)
include hw hv
theorem Agz (j:Nat):wS w v j < 256:=Vf hw hv j
include hw0 hv0
theorem Aug (j:Nat):dW w v w0 v0 j < 256:=I5 (Agz hw hv j) (Agz hw0 hv0 j)
include hz
theorem Apq {j:Nat} (hj:j < 4):syF w v j=sv (dW w v w0 v0) (pw j) 39:=by
 have h:=App (f:=wS w v) (g:=wS w0 v0) (Agz hw hv) (Agz hw0 hv0) (pw j) 39
 rw [← Apr hw hv hj,← Apr hw0 hv0 hj,hz j hj,(Hi _).1] at h
 exact h.symm
theorem Az7 (h:cnz (dW w v w0 v0) 39=0):Aq (syF w v)=0:=lk0 fun j hj=>by rw [Apq hw hv hw0 hv0 hz hj,Ayq (A7l h)]
theorem Az8 {p:Nat} (hp:p < 39) (h1:dW w v w0 v0 p ≠ 0) (h2:∀ k,k < 39->k ≠ p->dW w v w0 v0 k=0):Aq (syF w v)=(if p < 36 then 1 else 2)/\Ap (syF w v)=((p:Nat):Int)/\Dt (syF w v)=dW w v w0 v0 p :=
 Ay7 (Aug hw hv hw0 hv0 p) h1 hp fun j hj=>by rw [Apq hw hv hw0 hv0 hz hj,Adj hp h2,Aal]
theorem Az9 (h1:2<=cnz (dW w v w0 v0) 39) (h2:cnz (dW w v w0 v0) 39<=3):2<=Aq (syF w v):=by
 have hd:=Aug hw hv hw0 hv0
 have hs:=fun j (hj:j < 4)=>Apq hw hv hw0 hv0 hz hj
 rcases (by omega:Aq (syF w v)=0 ∨ Aq (syF w v)=1 ∨ 2<=Aq (syF w v)) with e | e | e
 ·have h:=Ae7 (d:=dW w v w0 v0) (n:=39) fun k hk=>Agj hd (by decide) (by omega) (fun j hj=>by rw [← hs j hj]; exact Asr e hj) hk
  omega
 ·obtain ⟨p,q1,q2,q3⟩:=Ay6 (Wq hw hv) e
  -- the word with that symbol mended
  have hx:∀ j,(fun k=>if k=p then syF w v 0 else 0) j < 256:=fun j=>by
   show (if j=p then syF w v 0 else 0) < 256
   by_cases h:j=p
   ·rw [if_pos h]; exact Wq hw hv 0
   ·rw [if_neg h]; decide
  have hone:∀ x,sv (fun k=>if k=p then syF w v 0 else 0) x 39=Am (syF w v 0) (xp x p):=fun x=>by
   rw [Adj (p:=p) (by omega) fun k _ hk=>if_neg hk]
   show Am (if p=p then syF w v 0 else 0) _=_
   rw [if_pos rfl]
  have hzero:∀ k,k < 39->xr (dW w v w0 v0 k) (if k=p then syF w v 0 else 0)=0:=fun k hk=>by
   refine Agj (d:=fun k=>xr (dW w v w0 v0 k) (if k=p then syF w v 0 else 0)) (n:=39) (fun j=>I5 (hd j) (hx j)) (by decide) ?_ (fun j hj=>?_) hk
   ·have h:=Ab1 (d:=dW w v w0 v0) (e:=fun k=>xr (dW w v w0 v0 k) (if k=p then syF w v 0 else 0)) (p:=p) (fun k hk=>by
     show xr _ (if k=p then _ else _)=_
     rw [if_neg hk]; exact (Hi _).1) 39
    rw [if_pos (by omega)] at h
    omega
   ·rw [App hd hx,hone,Aal,← hs j hj,q3 j hj]; exact Dd _
  have h:=Ab1 (d:=fun _=>0) (e:=dW w v w0 v0) (p:=p)
  have hall:∀ k,k < 39->k ≠ p->dW w v w0 v0 k=0:=fun k hk hp=>by
   have:=hzero k hk
   rw [if_neg hp,(Hi _).1] at this; exact this
  have hc : cnz (dW w v w0 v0) 39 <= 1 := by
   have key:∀ n,n<=39->cnz (dW w v w0 v0) n<=(if p < n then 1 else 0):=fun n=>by
    induction n with
    | zero=>intro _; rw [cnz]; omega
    | succ n ih =>
      intro hn
      have ih:=ih (by omega)
      rw [cnz]
      by_cases e:n=p
      ·subst e
       rw [if_neg (Nat.lt_irrefl n)] at ih
       rw [if_pos (Nat.lt_succ_self n)]
       by_cases e2:dW w v w0 v0 n=0
       ·rw [if_pos e2]; omega
       ·rw [if_neg e2]; omega
      ·rw [if_pos (hall n (by omega) e)]
       by_cases e3:p < n
       ·rw [if_pos e3] at ih; rw [if_pos (by omega)]; exact ih
       ·rw [if_neg e3] at ih; omega
   have:=key 39 (Nat.le_refl _)
   rw [if_pos (by omega)] at this; exact this
  omega
 ·exact e
end word
theorem Vc (a b:List Nat):∀ i,unF a b i=cnz (fun j=>xr (a.getD j 0) (b.getD j 0)) i
 | 0=>rfl
 | i + 1=>by
   rw [unF,cnz,Vc a b i]
   by_cases h:a.getD i 0=b.getD i 0
   ·rw [tq (by rw [h]),h,if_pos (Dd _)]; rfl
   ·rw [fq (by omega),if_neg (fun e=>h (Nu e))]; rfl
theorem Ae8 {d e:Nat->Nat}:∀ {n:Nat},(∀ k,k < n->d k=e k)->cnz d n=cnz e n
 | 0,_=>rfl
 | n + 1,h=>by rw [cnz,cnz,h n (by omega),Ae8 fun k hk=>h k (by omega)]
def cwF (l:Nat->Nat) (n:Int) (b:Bool) (k j:Nat):Nat:=(cwC l n b k).getD j 0
theorem B1r {l:Nat->Nat} (hl:∀ j,l j < 256) (n:Int) (b:Bool) (k:Nat) {j:Nat} (hj:j < 4):syF (cwF l n b k) (viF n b) j=0 :=
 B17 (Ac0 hl k) (Kk n b) (fun j hj=>by
  show (cwC l n b k).getD j 0=_
  unfold cwC
  rw [Qi,Bh,if_pos hj,Nm,if_pos hj,Nat.zero_add]) (fun j hj=>by
  show (cwC l n b k).getD (4 + j) 0=_
  unfold cwC
  rw [Qi,Bh,if_neg (by omega),Nm,if_pos (by omega),Nat.zero_add,show 4 + j - 4=j by omega]) hj
theorem Awi {l:Nat->Nat} (n:Int) (b:Bool) (k:Nat) {j:Nat} (hj:j < 32):cwF l n b k (4 + j)=hfF l k j:=by
 show (cwC l n b k).getD (4 + j) 0=_
 unfold cwC
 rw [Qi,Bh,if_neg (by omega),Nm,if_pos (by omega),Nat.zero_add,show 4 + j - 4=j by omega]
theorem Tq {l:Nat->Nat} (hl:∀ j,l j < 256) {u:List Nat} (hu:B8 u) (n n':Int) (b:Bool) (k:Nat) :
    (unF u (cwC l n' b k) 36=0->(∀ j,j < 3->viF n false j=viF n' b j)->chK u n=0/\∀ j,j < 32->chX u n j=hfF l k j) /\
    (unF u (cwC l n' b k) 36=1->(∀ j,j < 3->viF n false j=viF n' b j)->chK u n=1/\∀ j,j < 32->chX u n j=hfF l k j) /\
    (2<=unF u (cwC l n' b k) 36->unF u (cwC l n' b k) 36<=3->(∀ j,j < 3->viF n false j=viF n' b j)->2<=chK u n) /\
    (unF u (cwC l n' b k) 36<=2->(∀ j,j < 2->viF n false j=viF n' b j)->viF n false 2 ≠ viF n' b 2->2<=chK u n) /\
    (unF u (cwC l n' b k) 36=0->(∃ j,j < 3/\viF n false j ≠ viF n' b j)->2<=chK u n):=by
 have hw:∀ j,(fun j=>u.getD j 0) j < 256:=fun j=>hu j
 have hw0:∀ j,cwF l n' b k j < 256:=fun j=>Ako hl n' b k j
 have hv:=Kk n false
 have hv0:=Kk n' b
 have hz:∀ j,j < 4->syF (cwF l n' b k) (viF n' b) j=0:=fun j hj=>B1r hl n' b k hj
 have e36:∀ j,j < 36->dW (fun j=>u.getD j 0) (viF n false) (cwF l n' b k) (viF n' b) j=xr (u.getD j 0) ((cwC l n' b k).getD j 0):=fun j hj=>by
  unfold dW; rw [Agy,Agy,if_pos hj,if_pos hj]; rfl
 have e39:∀ j,j < 3->dW (fun j=>u.getD j 0) (viF n false) (cwF l n' b k) (viF n' b) (36 + j)=xr (viF n false j) (viF n' b j):=fun j hj=>by
  unfold dW; rw [Agy,Agy,if_neg (show ¬ 36 + j < 36 by omega),if_neg (show ¬ 36 + j < 36 by omega),if_pos (show 36 + j < 39 by omega),if_pos (show 36 + j < 39 by omega),show 36 + j - 36=j by omega]
 have hun:unF u (cwC l n' b k) 36=cnz (dW (fun j=>u.getD j 0) (viF n false) (cwF l n' b k) (viF n' b)) 36:=by
  rw [Vc]; exact (Ae8 e36).symm
 have x0:=e39 0 (by decide)
 have x1:=e39 1 (by decide)
 have x2:=e39 2 (by decide)
 have hdat:∀ j,j < 32->dW (fun j=>u.getD j 0) (viF n false) (cwF l n' b k) (viF n' b) (4 + j)=xr (u.getD (4 + j) 0) (hfF l k j):=fun j hj=>by
  rw [e36 _ (by omega),← Awi n' b k hj]; rfl
 have w0':=Az7 hw hv hw0 hv0 hz
 have w1':=fun p=>Az8 hw hv hw0 hv0 hz (p:=p)
 have w3':=Az9 hw hv hw0 hv0 hz
 have hk:∀ q:Nat,2<=Aq (syF (fun j=>u.getD j 0) (viF n false))->2<=chK u n:=fun _ h=>by
  unfold chK chS
  rw [if_neg (by omega),if_neg (by omega)]
  split <;> omega
 have same:(∀ j,j < 3->viF n false j=viF n' b j)->cnz (dW (fun j=>u.getD j 0) (viF n false) (cwF l n' b k) (viF n' b)) 39=cnz (dW (fun j=>u.getD j 0) (viF n false) (cwF l n' b k) (viF n' b)) 36:=fun hs=>by
  rw [hs 0 (by decide),Dd] at x0
  rw [hs 1 (by decide),Dd] at x1
  rw [hs 2 (by decide),Dd] at x2
  rw [cnz,cnz,cnz,if_pos x0,if_pos x1,if_pos x2]
 rw [hun]
 generalize dW (fun j=>u.getD j 0) (viF n false) (cwF l n' b k) (viF n' b)=d at *
 refine ⟨fun h hs=>?_,fun h hs=>?_,fun h h3 hs=>?_,fun h hs h2=>?_,fun h hs=>?_⟩
 ·have hc:=same hs
  have lk:=w0' (by omega)
  refine ⟨by unfold chK chS; rw [if_pos lk],fun j hj=>?_⟩
  unfold chX Jc
  rw [lk,if_neg (fun h=>by have:=h.1; omega)]
  exact Nu (by rw [← hdat j hj]; exact A7l h _ (by omega))
 ·have hc:=same hs
  obtain ⟨p,p1,p2,p3⟩:=Awc h
  have hall:∀ j,j < 39->j ≠ p->d j=0:=fun j hj hp=>by
   rcases Nat.lt_or_ge j 36 with h1 | h1
   ·exact p3 j h1 hp
   ·rcases (by omega:j=36 ∨ j=37 ∨ j=38) with rfl | rfl | rfl
    ·rw [show (36:Nat)=36 + 0 from rfl,x0,hs 0 (by decide)]; exact Dd _
    ·rw [show (37:Nat)=36 + 1 from rfl,x1,hs 1 (by decide)]; exact Dd _
    ·rw [show (38:Nat)=36 + 2 from rfl,x2,hs 2 (by decide)]; exact Dd _
  obtain ⟨k1,k2,k3⟩:=w1' p (by omega) p2 hall
  rw [if_pos p1] at k1
  refine ⟨by unfold chK chS; rw [if_neg (by omega),if_pos k1],fun j hj=>?_⟩
  unfold chX Jc
  rw [k1,k2,k3]
  by_cases e:4 + j=p
  ·rw [if_pos ⟨rfl,by omega⟩,← e,hdat j hj]
   show xr (u.getD (4 + j) 0) (xr (u.getD (4 + j) 0) (hfF l k j))=_
   rw [← N3,Dd]; exact (Hi _).2
  ·rw [if_neg (fun h=>e (by omega))]
   exact Nu (by rw [← hdat j hj]; exact p3 _ (by omega) e)
 ·have hc:=same hs
  exact hk 0 (w3' (by omega) (by omega))
 ·rw [hs 0 (by decide), Dd] at x0
  rw [hs 1 (by decide),Dd] at x1
  have x2':d 38 ≠ 0:=fun e=>h2 (Nu (by rw [← x2]; exact e))
  have hc:cnz d 39=cnz d 36 + 1:=by rw [cnz,if_neg x2',cnz,if_pos x1,cnz,if_pos x0]
  by_cases hq:cnz d 36=0
  ·have hall:∀ j,j < 39->j ≠ 38->d j=0:=fun j hj hp=>by
    rcases Nat.lt_or_ge j 36 with h1 | h1
    ·exact A7l hq j h1
    ·rcases (by omega:j=36 ∨ j=37) with rfl | rfl
     ·exact x0
     ·exact x1
   have k1:=(w1' 38 (by decide) x2' hall).1
   rw [if_neg (by decide)] at k1
   exact hk 0 (by omega)
  ·exact hk 0 (w3' (by omega) (by omega))
 ·have hc1:cnz d 39<=3:=by
   have a:∀ i,cnz d (i + 1)<=cnz d i + 1:=fun i=>by rw [cnz]; split <;> omega
   have a1:cnz d 37<=cnz d 36 + 1:=a 36
   have a2:cnz d 38<=cnz d 37 + 1:=a 37
   have a3:cnz d 39<=cnz d 38 + 1:=a 38
   omega
  have hc0:cnz d 39 ≠ 0:=fun e=>by
   obtain ⟨j,j1,j2⟩:=hs
   have hd0:=A7l e (36 + j) (by omega)
   rcases (by omega:j=0 ∨ j=1 ∨ j=2) with rfl | rfl | rfl
   ·rw [x0] at hd0; exact j2 (Nu hd0)
   ·rw [x1] at hd0; exact j2 (Nu hd0)
   ·rw [x2] at hd0; exact j2 (Nu hd0)
  by_cases h1:cnz d 39=1
  ·obtain ⟨p,p1,p2,p3⟩:=Awc h1
   have hp:36<=p:=by
    rcases Nat.lt_or_ge p 36 with h4 | h4
    ·exact absurd (A7l h p h4) p2
    ·exact h4
   have k1:=(w1' p p1 p2 p3).1
   rw [if_neg (by omega)] at k1
   exact hk 0 (by omega)
  ·exact hk 0 (w3' (by omega) hc1)
def bt (f:Nat->Nat) (p:Nat):Bool:=(f (p / 8)).testBit (p % 8)
def Hr (f:Nat->Nat):Nat->Nat
 | 0=>0
 | p + 1=>bif bt f p then xr (Hr f p) (Gr p) else Hr f p
def Lj (f:Nat->Nat):Nat->Nat
 | 0=>0
 | p + 1=>bif bt f p then Lj f p + 1 else Lj f p
theorem Ajz (f g:Nat->Nat) (p:Nat):bt (fun i=>xr (f i) (g i)) p=(bt f p ^^ bt g p):=Nat.testBit_xor ..
theorem Aep (f g:Nat->Nat):∀ n,Hr (fun i=>xr (f i) (g i)) n=xr (Hr f n) (Hr g n)
 | 0=>(Hi 0).1.symm
 | n + 1=>by
   rw [Hr,Hr,Hr,Ajz,Aep f g n]
   cases bt f n <;> cases bt g n <;> simp only [Bool.xor_false,Bool.xor_true,Bool.not_false,Bool.not_true,cond_true,cond_false,Bool.false_xor,Bool.true_xor]
   ·rw [N3]
   ·rw [N3,N3,A22 (Gr n)]
   ·have e:xr (xr (Hr f n) (Gr n)) (xr (Hr g n) (Gr n))=xr (xr (Hr f n) (Hr g n)) (xr (Gr n) (Gr n)):=by simp only [N3,Ah5,A22]
    rw [e,Dd,(Hi _).1]
theorem A2u {f:Nat->Nat}:∀ {n:Nat},Lj f n=0->Hr f n=0/\∀ p,p < n->bt f p=false
 | 0,_=>⟨rfl,fun p h=>absurd h (Nat.not_lt_zero p)⟩
 | n + 1, h => by
   rw [Lj] at h
   cases e:bt f n with
   | true=>rw [e] at h; cases h
   | false =>
     rw [e] at h
     obtain ⟨a,b⟩:=A2u (n:=n) h
     refine ⟨by rw [Hr,e]; exact a,fun p hp=>?_⟩
     by_cases q:p=n
     ·rw [q]; exact e
     ·exact b p (by omega)
theorem Aeg {f:Nat->Nat}:∀ {n:Nat},Lj f n=1->∃ p,p < n/\Hr f n=Gr p/\bt f p=true/\∀ q,q < n->q ≠ p->bt f q=false
 | 0,h=>by cases h
 | n + 1, h => by
   rw [Lj] at h
   cases e:bt f n with
   | true =>
     rw [e] at h
     obtain ⟨a,b⟩:=A2u (f:=f) (n:=n) (Nat.succ.inj h)
     refine ⟨n,Nat.lt_succ_self n,by rw [Hr,e,cond_true,a]; exact (Hi _).2,e,fun q hq h2=>b q (by omega)⟩
   | false =>
     rw [e] at h
     obtain ⟨p,a,b,c,d⟩:=Aeg (n:=n) h
     refine ⟨p,by omega,by rw [Hr,e]; exact b,c,fun q hq h2=>?_⟩
     by_cases q1:q=n
     ·rw [q1]; exact e
     ·exact d q (by omega) h2
theorem Auk {f:Nat->Nat}:∀ {n:Nat},Lj f n=2->∃ p q,p < q/\q < n/\Hr f n=xr (Gr p) (Gr q)
 | 0,h=>by cases h
 | n + 1, h => by
   rw [Lj] at h
   cases e:bt f n with
   | true =>
     rw [e] at h
     obtain ⟨p,a,b,_,_⟩:=Aeg (f:=f) (n:=n) (Nat.succ.inj h)
     exact ⟨p,n,a,Nat.lt_succ_self n,by rw [Hr,e,cond_true,b]⟩
   | false =>
     rw [e] at h
     obtain ⟨p,q,a,b,c⟩:=Auk (n:=n) h
     exact ⟨p,q,a,by omega,by rw [Hr,e]; exact c⟩
theorem Awd:∀ p:_root_.Fin 74,Gr p.1 ≠ 0/\atF (Gr p.1)=((p.1:Nat):Int):=by decide +kernel
theorem Arc:∀ p q:_root_.Fin 74,p.1 < q.1->xr (Gr p.1) (Gr q.1) ≠ 0/\atF (xr (Gr p.1) (Gr q.1))=-1:=by decide +kernel
def bc (x:Nat):Nat->Nat
 | 0=>0
 | j + 1=>bif x.testBit j then bc x j + 1 else bc x j
def bs (x:Nat):Nat->Nat
 | 0=>0
 | j + 1=>bif x.testBit j then xr (bs x j) (Gr (64 + j)) else bs x j
theorem bc8:∀ x:_root_.Fin 256,bc x.1 8=wt x.1:=by decide +kernel
theorem bs8:∀ x:_root_.Fin 256,bs x.1 8=x.1:=by decide +kernel
theorem Aua (f:Nat->Nat) (i:Nat) {j:Nat} (hj:j < 8):bt f (8 * i + j)=(f i).testBit j:=by
 unfold bt
 rw [show (8 * i + j) / 8=i by omega,show (8 * i + j) % 8=j by omega]
theorem Al7 (f:Nat->Nat) (i:Nat):∀ j,j<=8->Lj f (8 * i + j)=Lj f (8 * i) + bc (f i) j
 | 0,_=>rfl
 | j + 1,h=>by
   have ih:=Al7 f i j (by omega)
   show Lj f ((8 * i + j) + 1)=_
   rw [Lj,Aua f i (by omega),ih,bc]
   cases (f i).testBit j
   ·rfl
   ·show _ + 1=_ + (_ + 1); omega
theorem Ale (f:Nat->Nat):∀ j,j<=8->Hr f (64 + j)=xr (Hr f 64) (bs (f 8) j)
 | 0,_=>(Hi _).1.symm
 | j + 1,h=>by
   have ih:=Ale f j (by omega)
   have hb:=Aua f 8 (j:=j) (by omega)
   show Hr f ((64 + j) + 1)=_
   rw [Hr,ih,bs,show bt f (64 + j)=(f 8).testBit j from hb]
   cases (f 8).testBit j
   ·rfl
   ·show xr (xr _ _) _=xr _ (xr _ _); exact N3 _ _ _
theorem Arn {f:Nat->Nat} (hf:∀ j,f j < 256) (i:Nat):Lj f (8 * (i + 1))=Lj f (8 * i) + wt (f i):=by
 have h:=Al7 f i 8 (Nat.le_refl _)
 have e:=bc8 ⟨f i,hf i⟩
 simp only at e
 rw [show 8 * (i + 1)=8 * i + 8 by omega,h,e]
theorem Aeo {f:Nat->Nat} (hf:∀ j,f j < 256):Hr f 72=xr (Hr f 64) (f 8):=by
 have h:=Ale f 8 (Nat.le_refl _)
 have e:=bs8 ⟨f 8,hf 8⟩
 simp only at e
 rw [e] at h; exact h
theorem Q9 {a b:List Nat} (ha:B8 a) (hb:B8 b):∀ i,dfF a b i=Lj (fun j=>xr (a.getD j 0) (b.getD j 0)) (8 * i)
 | 0=>rfl
 | i + 1=>by rw [dfF,Q9 ha hb i,Arn (f:=fun j=>xr (a.getD j 0) (b.getD j 0)) (fun j=>I5 (ha j) (hb j)) i]
theorem B19 {x n p:Nat} (h:x < 2 ^ n) (hp:n<=p):x.testBit p=false:=Nat.testBit_lt_two_pow (Nat.lt_of_lt_of_le h (Nat.pow_le_pow_right (by decide) hp))
theorem Ao2 {l:List Nat} (hl:B8 l):∀ n p,(nbF l n).testBit p=(decide (p < 8 * n) && bt (fun j=>l.getD j 0) p)
 | 0,p=>by rw [nbF,Nat.zero_testBit,fq (by omega)]; rfl
 | n + 1,p=>by
   rw [nbF,Nat.testBit_or,Ao2 hl n p,Nat.testBit_mul_two_pow]
   unfold bt
   by_cases h:p < 8 * n
   ·rw [tq h,fq (show ¬ 8 * n<=p by omega),tq (show p < 8 * (n + 1) by omega)]
    simp only [Bool.true_and,Bool.false_and,Bool.or_false]
   ·rw [fq h,tq (show 8 * n<=p by omega)]
    simp only [Bool.true_and,Bool.false_and,Bool.false_or]
    by_cases h2:p < 8 * (n + 1)
    ·rw [tq h2,show p / 8=n by omega,show p % 8=p - 8 * n by omega]; rfl
    ·rw [fq h2,B19 (n:=8) (hl n) (by omega)]; rfl
theorem Yw {l:List Nat} (hl:B8 l) (h9:8<=l.length) (p:Nat):(Kq l).testBit p=(decide (p < 64) && bt (fun j=>l.getD j 0) p):=by
 unfold Kq
 rw [List.length_take,Nat.min_eq_left h9,Ao2 (hl.take 8)]
 by_cases h:p < 64
 ·rw [tq h]
  have e:(List.take 8 l).getD (p / 8) 0=l.getD (p / 8) 0:=by
   rw [List.getD_eq_getElem?_getD,List.getElem?_take,if_pos (show p / 8 < 8 by omega),← List.getD_eq_getElem?_getD]
  show (true && ((List.take 8 l).getD (p / 8) 0).testBit (p % 8))=(true && (l.getD (p / 8) 0).testBit (p % 8))
  rw [e]
 ·rw [fq h]; rfl
theorem Ae2 {d:Nat}:∀ k,chF d (bl d + k)=chF d (bl d)
 | 0=>rfl
 | k + 1=>by
   have hz:hv d (bl d + k)=0:=by
    rw [X6,Nat.pow_add,← Nat.div_div_eq_div_mul,Aao,Nat.zero_div]
   show chF d ((bl d + k) + 1)=_
   rw [chF,hz,fq (by decide)]; exact Ae2 k
theorem Ae3 {d:Nat} {f:Nat->Nat} (h:∀ p,p < 64->d.testBit p=bt f p):∀ i,i<=64->chF d i=Hr f i
 | 0,_=>rfl
 | i + 1,hi=>by
   rw [chF,Hr,Ae3 h i (by omega),← h i (by omega),X6,Nat.testBit_eq_decide_div_mod_eq]
   by_cases e:d / 2 ^ i % 2=1
   ·rw [tq e,tq (by omega)]
   ·rw [fq e,fq (by omega)]
theorem Ae4 {l:List Nat} (hl:B8 l) (h9:8<=l.length):chF (Kq l) (bl (Kq l))=Hr (fun j=>l.getD j 0) 64:=by
 have hb:bl (Kq l)<=64:=Tm (n:=64) (Tl hl)
 have h:=Ae2 (d:=Kq l) (64 - bl (Kq l))
 rw [show bl (Kq l) + (64 - bl (Kq l))=64 by omega] at h
 rw [← h]
 exact Ae3 (fun p hp=>by rw [Yw hl h9,tq hp]; rfl) 64 (Nat.le_refl _)
def pA (n:Int):Nat:=bif decide (((Cp n:Nat):Int)=1) then Gr 72 else 0
def pP (b:Bool):Nat:=bif b then Gr 73 else 0
theorem Akf (d:Nat) (n:Int) (b:Bool):chk d (Cp n) (pf b)=xr (xr (chF d (bl d)) (pA n)) (pP b):=by
 unfold chk chA pA pP pf
 cases b
 ·simp only [cond_false]
  rw [fq (by decide),cond_false,(Hi _).1]
  cases decide (((Cp n:Nat):Int)=1)
  ·exact (Hi _).1.symm
  ·rfl
 ·simp only [cond_true]
  rw [tq (by decide),cond_true]
  cases decide (((Cp n:Nat):Int)=1)
  ·simp only [cond_false]; rw [(Hi _).1]
  ·rfl
theorem Ajt {l:List Nat} (hl:B8 l) (h9:8<=l.length) (n:Int):Nn l n=xr (Hr (fun j=>l.getD j 0) 72) (pA n):=by
 unfold Nn syn
 have h:=Akf (Kq l) n false
 rw [show pf false=0 from rfl,show pP false=0 from rfl,(Hi _).1,Ae4 hl h9] at h
 rw [h,Aeo (f:=fun j=>l.getD j 0) (fun j=>hl j),N3,N3,A22 (pA n)]
theorem Auf {l:Nat->Nat} (hl:∀ j,l j < 256) (n:Int) (b:Bool) {k:Nat}:Kq (cwB l n b k)=wdF l k 8/\(cwB l n b k).getD 8 0=chk (wdF l k 8) (Cp n) (pf b):=by
 constructor
 ·unfold Kq cwB
  rw [List.take_left' (Fo _ 8),Fo,Ao3 _ 8 8 (Nat.le_refl _)]
  exact Nat.mod_eq_of_lt (N0 hl k 8 (Nat.le_refl _))
 ·unfold cwB
  rw [Qi,Fo]; rfl
theorem Ari {l:Nat->Nat} (hl:∀ j,l j < 256) (n:Int) (b:Bool) (k:Nat):Hr (fun j=>(cwB l n b k).getD j 0) 72=xr (pA n) (pP b):=by
 have hb:=Ab5 l n b k
 obtain ⟨e1,e2⟩:=Auf hl n b (k:=k)
 have h:=Ae4 hb (by rw [Jo]; decide)
 rw [Aeo (f:=fun j=>(cwB l n b k).getD j 0) (fun j=>hb j),← h,e1,e2,Akf,N3,← N3 (chF _ _),Dd,(Hi _).2]
def eW (u v:List Nat) (j:Nat):Nat:=xr (u.getD j 0) (v.getD j 0)
theorem Ajs {l:Nat->Nat} (hl:∀ j,l j < 256) {u:List Nat} (hu:B8 u) (h9:u.length=9) (n n':Int) (b:Bool) (k:Nat):Nn u n=xr (Hr (eW u (cwB l n' b k)) 72) (xr (xr (pA n) (pA n')) (pP b)):=by
 have h:=Aep (fun j=>u.getD j 0) (fun j=>(cwB l n' b k).getD j 0) 72
 rw [Ari hl] at h
 rw [Ajt hu (by omega)]
 unfold eW
 rw [h]
 have e:xr (xr (Hr (fun j=>u.getD j 0) 72) (xr (pA n') (pP b))) (xr (xr (pA n) (pA n')) (pP b))=xr (xr (Hr (fun j=>u.getD j 0) 72) (pA n)) (xr (xr (pA n') (pA n')) (xr (pP b) (pP b))):=by simp only [N3,Ah5,A22]
 rw [e,Dd,Dd,(Hi _).1,(Hi _).1]
theorem B1h:C6 0=0:=by unfold C6; rw [if_pos rfl]
theorem Adp {p:Nat} (hp:p < 74):C6 (Gr p)=(if p < 72 then 1 else if p=72 then 3 else 2)/\(p < 72->Cg (Gr p)=((p:Nat):Int)):=by
 obtain ⟨h1,h2⟩:=Awd ⟨p,hp⟩
 simp only at h1 h2
 unfold C6 Cg
 rw [if_neg h1,if_neg h1,h2,if_neg (show ¬ ((p:Nat):Int)=-1 by omega),if_neg (show ¬ ((p:Nat):Int)=-1 by omega)]
 by_cases e:p < 72
 ·rw [if_neg (show ¬ ((p:Nat):Int)=72 by omega),if_neg (show ¬ ((p:Nat):Int)=73 by omega),if_neg (show ¬ ((p:Nat):Int)=72 by omega),if_neg (show ¬ ((p:Nat):Int)=73 by omega),if_pos e]
  exact ⟨rfl,fun _=>rfl⟩
 ·refine ⟨?_,fun h=>absurd h e⟩
  rw [if_neg e]
  by_cases e2:p=72
  ·rw [if_pos (show ((p:Nat):Int)=72 by omega),if_pos e2]
  ·rw [if_neg (show ¬ ((p:Nat):Int)=72 by omega),if_pos (show ((p:Nat):Int)=73 by omega),if_neg e2]
theorem Adq {p q:Nat} (hp:p < q) (hq:q < 74):C6 (xr (Gr p) (Gr q))=4:=by
 obtain ⟨h1,h2⟩:=Arc ⟨p,by omega⟩ ⟨q,hq⟩ hp
 simp only at h1 h2
 unfold C6
 rw [if_neg h1,h2,if_pos rfl]
theorem Aqu {u:List Nat} {n:Int}:(C6 (Nn u n)=0->C7 u n=0)/\(C6 (Nn u n)=1->C7 u n=1)/\(2<=C6 (Nn u n)->2<=C7 u n):=by
 unfold C7
 refine ⟨fun h=>by rw [if_pos h],fun h=>by rw [if_neg (by omega),if_pos h],fun h=>?_⟩
 rw [if_neg (by omega),if_neg (by omega)]
 split <;> omega
theorem Xt {l:Nat->Nat} (hl:∀ j,l j < 256) {u:List Nat} (hu:B8 u) (h9:u.length=9) (n n':Int) (b:Bool) (k:Nat) :
    (dfF u (cwB l n' b k) 9=0->n=n'->b=false->C7 u n=0/\Jz u n=wdF l k 8) /\
    (dfF u (cwB l n' b k) 9=1->n=n'->b=false->C7 u n=1/\Jz u n=wdF l k 8) /\
    (dfF u (cwB l n' b k) 9=2->n=n'->b=false->2<=C7 u n) /\
    (dfF u (cwB l n' b k) 9<=1->n=n'->b=true->2<=C7 u n) /\
    (dfF u (cwB l n' b k) 9=0->Cp n ≠ Cp n'->2<=C7 u n):=by
 have hb:=Ab5 l n' b k
 have hc:=Q9 hu hb 9
 have hc:dfF u (cwB l n' b k) 9=Lj (eW u (cwB l n' b k)) 72:=hc
 have hs:=Ajs hl hu h9 n n' b k
 have hu9:8<=u.length:=by omega
 have hbit:=fun p=>Yw hu hu9 p
 have hbit0:=fun p=>Yw hb (by rw [Jo]; decide) p
 have hx:∀ p,bt (eW u (cwB l n' b k)) p=(bt (fun j=>u.getD j 0) p ^^ bt (fun j=>(cwB l n' b k).getD j 0) p):=fun p=>Ajz _ _ p
 rw [(Auf hl n' b (k:=k)).1] at hbit0
 rw [hc]
 obtain ⟨b0,b1,b2⟩:=Aqu (u:=u) (n:=n)
 have hX:Jz u n=if C6 (Nn u n)=1 then if Cg (Nn u n) < 64 then Kq u ^^^ 2 ^ (Cg (Nn u n)).toNat else Kq u else Kq u:=rfl
 have same:n=n'->b=false->Nn u n=Hr (eW u (cwB l n' b k)) 72:=fun e1 e2=>by
  rw [hs,e1,e2,Dd,show pP false=0 from rfl,(Hi 0).1,(Hi _).1]
 generalize eW u (cwB l n' b k)=e at *
 refine ⟨fun h e1 e2=>?_,fun h e1 e2=>?_,fun h e1 e2=>?_,fun h e1 e2=>?_,fun h e1=>?_⟩
 ·obtain ⟨s0,z⟩:=A2u h
  have hS:=same e1 e2
  rw [s0] at hS
  rw [hS] at b0 hX
  refine ⟨b0 B1h,?_⟩
  rw [hX,B1h,if_neg (by decide)]
  refine Nat.eq_of_testBit_eq fun p=>?_
  rw [hbit p,hbit0 p]
  by_cases hp:p < 64
  ·have:=z p (by omega)
   rw [hx p] at this
   cases h1:bt (fun j=>u.getD j 0) p <;> cases h2:bt (fun j=>(cwB l n' b k).getD j 0) p <;> rw [h1,h2] at this <;> first | rfl | (exact absurd this (by decide))
  ·rw [fq hp]; rfl
 ·obtain ⟨p,p1,p2,p3,p4⟩:=Aeg h
  obtain ⟨v1,v2⟩:=Adp (p:=p) (by omega)
  rw [if_pos p1] at v1
  have v2:=v2 p1
  have hS:=same e1 e2
  rw [p2] at hS
  rw [hS] at b1 hX
  refine ⟨b1 v1,?_⟩
  rw [hX,v1,if_pos rfl,v2]
  have hq:∀ q,q < 72->q ≠ p->bt (fun j=>u.getD j 0) q=bt (fun j=>(cwB l n' b k).getD j 0) q:=fun q h1 h2=>by
   have:=p4 q h1 h2
   rw [hx q] at this
   cases h1:bt (fun j=>u.getD j 0) q <;> cases h2:bt (fun j=>(cwB l n' b k).getD j 0) q <;> rw [h1,h2] at this <;> first | rfl | (exact absurd this (by decide))
  by_cases hp:p < 64
  ·rw [if_pos (by omega),show (((p:Nat):Int)).toNat=p by omega]
   refine Nat.eq_of_testBit_eq fun q=>?_
   rw [Nat.testBit_xor,hbit q,hbit0 q,Nat.testBit_two_pow]
   by_cases h1:q < 64
   ·rw [tq h1]
    by_cases h2:q=p
    ·subst h2
     rw [tq rfl]
     have:=p3
     rw [hx q] at this
     cases h1:bt (fun j=>u.getD j 0) q <;> cases h2:bt (fun j=>(cwB l n' b k).getD j 0) q <;> rw [h1,h2] at this <;> first | rfl | (exact absurd this (by decide))
    ·rw [hq q (by omega) h2,fq (fun h=>h2 h.symm),Bool.xor_false]
   ·rw [fq h1,fq (show ¬ p=q by omega)]; rfl
  ·rw [if_neg (by omega)]
   refine Nat.eq_of_testBit_eq fun q=>?_
   rw [hbit q,hbit0 q]
   by_cases h1:q < 64
   ·rw [hq q (by omega) (by omega)]
   ·rw [fq h1]; rfl
 ·obtain ⟨p,q,h1,h2,h3⟩:=Auk h
  have hS:=same e1 e2
  rw [h3] at hS
  rw [hS,Adq h1 (by omega)] at b2
  exact b2 (by decide)
 ·subst e1; subst e2
  rw [Dd,(Hi _).2,show pP true=Gr 73 from rfl] at hs
  by_cases h0:Lj e 72=0
  ·obtain ⟨s0,_⟩:=A2u h0
   rw [s0,(Hi _).2] at hs
   rw [hs,(Adp (p:=73) (by decide)).1] at b2
   exact b2 (by decide)
  ·obtain ⟨p,p1,p2,_,_⟩:=Aeg (show Lj e 72=1 by omega)
   rw [p2] at hs
   rw [hs,Adq (p:=p) (q:=73) (by omega) (by decide)] at b2
   exact b2 (by decide)
 ·obtain ⟨s0,_⟩:=A2u h
  have hA:xr (pA n) (pA n')=Gr 72:=by
   have a1:=Hj n
   have a2:=Hj n'
   unfold pA
   rcases (by omega:Cp n=0/\Cp n'=1 ∨ Cp n=1/\Cp n'=0) with ⟨h1,h2⟩ | ⟨h1,h2⟩
   ·rw [h1,h2]; exact (Hi _).2
   ·rw [h1,h2]; exact (Hi _).1
  rw [s0,(Hi _).2,hA] at hs
  cases b with
  | false =>
    rw [show pP false=0 from rfl,(Hi _).1] at hs
    rw [hs,(Adp (p:=72) (by decide)).1] at b2
    exact b2 (by decide)
  | true =>
    rw [show pP true=Gr 73 from rfl] at hs
    rw [hs,Adq (p:=72) (q:=73) (by decide) (by decide)] at b2
    exact b2 (by decide)
theorem Ams {l:List Nat} {m:Nat}:∀ {n:Nat},jk l n<=m ↔ ∀ i,i < n->l.getD i 0<=m
 | 0=>⟨fun _ i h=>absurd h (Nat.not_lt_zero i),fun _=>Nat.zero_le _⟩
 | n + 1=>by
   rw [jk,Nat.max_le,Ams (n:=n)]
   constructor
   ·intro h i hi
    by_cases e:i=n
    ·rw [e]; exact h.2
    ·exact h.1 i (by omega)
   ·intro h; exact ⟨fun i hi=>h i (by omega),h n (by omega)⟩
theorem K9 {r q:Nat->Nat} {m:Nat}:∀ {n:Nat},ex1 r q n<=m ↔ ∀ i,i < n->dfF (A4 r (9 * i) 9) (A4 q (9 * i) 9) 9<=m
 | 0=>⟨fun _ i h=>absurd h (Nat.not_lt_zero i),fun _=>Nat.zero_le _⟩
 | n + 1=>by
   rw [ex1,Nat.max_le,K9 (n:=n),Af]
   constructor
   ·intro h i hi
    by_cases e:i=n
    ·rw [e]; exact h.2
    ·exact h.1 i (by omega)
   ·intro h; exact ⟨fun i hi=>h i (by omega),h n (by omega)⟩
theorem Ka {r q:Nat->Nat} {m:Nat}:∀ {n:Nat},ex2 r q n<=m ↔ ∀ i,i < n->unF (A4 r (36 * i) 36) (A4 q (36 * i) 36) 36<=m
 | 0=>⟨fun _ i h=>absurd h (Nat.not_lt_zero i),fun _=>Nat.zero_le _⟩
 | n + 1=>by
   rw [ex2,Nat.max_le,Ka (n:=n),Af]
   constructor
   ·intro h i hi
    by_cases e:i=n
    ·rw [e]; exact h.2
    ·exact h.1 i (by omega)
   ·intro h; exact ⟨fun i hi=>h i (by omega),h n (by omega)⟩
theorem Auu (r:Nat->Nat) (n:Int) {i:Nat} (hi:i < 8):(kB r n).getD i 0=C7 (A4 r (9 * i) 9) n:=by
 rcases (by omega:i=0 ∨ i=1 ∨ i=2 ∨ i=3 ∨ i=4 ∨ i=5 ∨ i=6 ∨ i=7) with rfl | rfl | rfl | rfl | rfl | rfl | rfl | rfl <;> rfl
theorem Auv (r:Nat->Nat) (n:Int) {i:Nat} (hi:i < 2):(kC r n).getD i 0=chK (A4 r (36 * i) 36) n:=by
 rcases (by omega:i=0 ∨ i=1) with rfl | rfl <;> rfl
theorem jkB {r:Nat->Nat} {n:Int} {m:Nat}:jk (kB r n) (kB r n).length<=m ↔ ∀ i,i < 8->C7 (A4 r (9 * i) 9) n<=m:=by
 rw [Ams]
 exact ⟨fun h i hi=>by rw [← Auu r n hi]; exact h i hi,fun h i hi=>by rw [Auu r n hi]; exact h i hi⟩
theorem jkC {r:Nat->Nat} {n:Int} {m:Nat}:jk (kC r n) (kC r n).length<=m ↔ ∀ i,i < 2->chK (A4 r (36 * i) 36) n<=m:=by
 rw [Ams]
 exact ⟨fun h i hi=>by rw [← Auv r n hi]; exact h i hi,fun h i hi=>by rw [Auv r n hi]; exact h i hi⟩
theorem Vd (n:Int):∀ j,j < 3->viF n false j=viF n false j:=fun _ _=>rfl
section line
variable {l:Nat->Nat} (hl:∀ j,l j < 256) {r:Nat->Nat} (hr:∀ j,r j < 256) (n:Int)
include hl hr
theorem Aqx (h:ex1 r (Tw l n false 8) 8<=1):jk (kB r n) (kB r n).length<=1/\(∀ j,j < 64->dlB r n j=l j)/\(ex1 r (Tw l n false 8) 8=0->jk (kB r n) (kB r n).length=0):=by
 have h1:=K9.1 h
 have hk:∀ i,i < 8->C7 (A4 r (9 * i) 9) n<=1/\Jz (A4 r (9 * i) 9) n=wdF l i 8:=fun i hi=>by
  have hb:=Xt hl (Au hr (9 * i) 9) (Af _ _ _) n n false i
  have h2:=h1 i hi
  rw [A3y l n false hi] at h2
  rcases (by omega:dfF (A4 r (9 * i) 9) (cwB l n false i) 9=0 ∨ dfF (A4 r (9 * i) 9) (cwB l n false i) 9=1) with e | e
  ·obtain ⟨a,b⟩:=hb.1 e rfl rfl; exact ⟨by omega,b⟩
  ·obtain ⟨a,b⟩:=hb.2.1 e rfl rfl; exact ⟨by omega,b⟩
 have hj:jk (kB r n) (kB r n).length<=1:=jkB.2 fun i hi=>(hk i hi).1
 refine ⟨hj,fun j hj64=>?_,fun h0=>?_⟩
 ·unfold dlB
  rw [fq (show ¬ 2<=((jk (kB r n) (kB r n).length:Nat):Int) by omega),cond_false]
  unfold dcB fwF
  show Jz (A4 r (9 * (j / 8)) 9) n / 2 ^ (8 * (j % 8)) % 256=l j
  rw [(hk (j / 8) (by omega)).2,Avo hl _ 8 _ (Nat.mod_lt _ (by decide)),show 8 * (j / 8) + j % 8=j by omega]
 ·have h0':=K9.1 (Nat.le_of_eq h0)
  have:jk (kB r n) (kB r n).length<=0:=jkB.2 fun i hi=>by
   have h2:=h0' i hi
   rw [A3y l n false hi] at h2
   exact Nat.le_of_eq ((Xt hl (Au hr (9 * i) 9) (Af _ _ _) n n false i).1 (by omega) rfl rfl).1
  omega
theorem Ake (h:ex2 r (Sz l n false 2) 2<=1):jk (kC r n) (kC r n).length<=1/\(∀ j,j < 64->dlC r n j=l j)/\(ex2 r (Sz l n false 2) 2=0->jk (kC r n) (kC r n).length=0):=by
 have h1:=Ka.1 h
 have hk:∀ i,i < 2->chK (A4 r (36 * i) 36) n<=1/\∀ j,j < 32->chX (A4 r (36 * i) 36) n j=hfF l i j:=fun i hi=>by
  have hb:=Tq hl (Au hr (36 * i) 36) n n false i
  have h2:=h1 i hi
  rw [A3z l n false hi] at h2
  rcases (by omega:unF (A4 r (36 * i) 36) (cwC l n false i) 36=0 ∨ unF (A4 r (36 * i) 36) (cwC l n false i) 36=1) with e | e
  ·obtain ⟨a,b⟩:=hb.1 e (Vd n); exact ⟨by omega,b⟩
  ·obtain ⟨a,b⟩:=hb.2.1 e (Vd n); exact ⟨by omega,b⟩
 have hj:jk (kC r n) (kC r n).length<=1:=jkC.2 fun i hi=>(hk i hi).1
 refine ⟨hj,fun j hj64=>?_,fun h0=>?_⟩
 ·unfold dlC
  rw [fq (show ¬ 2<=((jk (kC r n) (kC r n).length:Nat):Int) by omega),cond_false]
  unfold dcC Dy
  by_cases h:32<=j
  ·rw [if_pos ⟨h,by omega⟩,show (36:Nat)=36 * 1 from rfl,(hk 1 (by decide)).2 _ (by omega),(Aup l _).2,show 32 + (j - 32)=j by omega]
  ·rw [if_neg (by omega),if_pos ⟨Nat.zero_le _,by omega⟩]
   have:=(hk 0 (by decide)).2 (j - 0) (by omega)
   rw [(Aup l _).1,Nat.sub_zero] at this
   rw [Nat.sub_zero]; exact this
 ·have h0':=Ka.1 (Nat.le_of_eq h0)
  have:jk (kC r n) (kC r n).length<=0:=jkC.2 fun i hi=>by
   have h2:=h0' i hi
   rw [A3z l n false hi] at h2
   exact Nat.le_of_eq ((Tq hl (Au hr (36 * i) 36) n n false i).1 (by omega) (Vd n)).1
  omega
variable {m:Int} (hm:m=1 ∨ m=2)
include hm
theorem Ai6 (q:Nat->Nat):Ai m r q=if m=1 then ex1 r q 8 else ex2 r q 2:=by
 unfold Ai
 rcases hm with rfl | rfl <;> rfl
theorem Ab8 (h:Ai m r (Bm m l n false)<=1):Bt m r n<=1/\(∀ j,j < 64->Ek m r n j=l j)/\(Ai m r (Bm m l n false)=0->Bt m r n=0):=by
 rw [Ai6 hl hr hm] at h ⊢
 rcases hm with rfl | rfl
 ·obtain ⟨a,b,c,d⟩:=md1 l r n false
  rw [if_pos rfl,a] at h ⊢
  rw [b,c]; exact Aqx hl hr n h
 ·obtain ⟨a,b,c,d⟩:=md2 l r n false
  rw [if_neg (by decide),a] at h ⊢
  rw [b,c]; exact Ake hl hr n h
end line
