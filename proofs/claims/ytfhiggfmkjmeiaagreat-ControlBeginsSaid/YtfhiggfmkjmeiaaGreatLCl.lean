import Derived.Test.YtfhiggfmkjmeiaaGreatFDec
import Derived.Test.YtfhiggfmkjmeiaaGreatFCtl
set_option linter.all false
namespace Go.Proofs.YtfhiggfmkjmeiaaGreat
open Go Go.RowKit
set_option maxRecDepth 100000
theorem B1c:∀ a b:_root_.Fin 256,tw (xr a.1 b.1)=xr (tw a.1) (tw b.1):=by decide +kernel
theorem B0o:pw 255=1:=by decide +kernel
theorem Aoj:∀ i,pw (i + 255)=pw i
 | 0=>B0o
 | i + 1=>by
   rw [show i + 1 + 255=(i + 255) + 1 by omega]
   show tw (pw (i + 255))=tw (pw i)
   rw [Aoj i]
theorem A6f (i:Nat):pw (i % 255)=pw i:=by
 have key:∀ k j,pw (j + 255 * k)=pw j:=fun k=>by
  induction k with
  | zero=>intro j; rfl
  | succ k ih=>intro j; rw [show j + 255 * (k + 1)=(j + 255 * k) + 255 by omega,Aoj,ih]
 have h:=key (i / 255) (i % 255)
 rw [show i % 255 + 255 * (i / 255)=i by omega] at h
 exact h.symm
theorem Av8:∀ v:_root_.Fin 256,v.1 ≠ 0->pw (lg v.1)=v.1:=by decide +kernel
theorem X8:∀ i:_root_.Fin 255,lg (pw i.1)=i.1/\pw i.1 ≠ 0:=by decide +kernel
theorem Mr (i j:Nat):Am (pw i) (pw j)=pw (i + j):=by
 have hi:=X8 ⟨i % 255,Nat.mod_lt _ (by decide)⟩
 have hj:=X8 ⟨j % 255,Nat.mod_lt _ (by decide)⟩
 simp only at hi hj
 rw [A6f] at hi hj
 unfold Am
 rw [if_neg hi.2,if_neg hj.2,hi.1,hj.1]
 have e:cu ((i % 255 + j % 255:Nat):Int)=(i + j) % 255:=by unfold cu; omega
 rw [e]
 unfold ex
 rw [if_pos (Nat.mod_lt _ (by decide)),A6f]
theorem Hz (a:Nat):Am a 0=0/\Am 0 a=0:=by
 unfold Am; exact ⟨by rw [if_pos rfl,ite_self],if_pos rfl⟩
theorem A6e {a:Nat} (h:a < 256) (h0:a ≠ 0):∃ i,a=pw i:=⟨lg a,(Av8 ⟨a,h⟩ h0).symm⟩
theorem J9 (a b:Nat):Am a b=Am b a:=by
 unfold Am
 by_cases ha:a=0
 ·rw [if_pos ha]; split <;> rfl
 ·by_cases hb:b=0
  ·rw [if_pos hb,if_pos hb,if_neg ha]
  ·rw [if_neg ha,if_neg hb,if_neg ha,if_neg hb,Nat.add_comm]
theorem El {a b c:Nat} (ha:a < 256) (hb:b < 256) (hc:c < 256):Am (Am a b) c=Am a (Am b c):=by
 by_cases h1:a=0
 ·subst h1; rw [(Hz _).2,(Hz _).2,(Hz _).2]
 by_cases h2:b=0
 ·subst h2; rw [(Hz _).1,(Hz _).2,(Hz _).1]
 by_cases h3:c=0
 ·subst h3; rw [(Hz _).1,(Hz _).1,(Hz _).1]
 obtain ⟨i,rfl⟩:=A6e ha h1
 obtain ⟨j,rfl⟩:=A6e hb h2
 obtain ⟨k,rfl⟩:=A6e hc h3
 rw [Mr,Mr,Mr,Mr,Nat.add_assoc]
theorem Of {a:Nat} (h:a < 256):Am a 1=a/\Am 1 a=a:=by
 have e:Am a 1=a:=by
  by_cases h1:a=0
  ·subst h1; exact (Hz _).2
  ·obtain ⟨i,rfl⟩:=A6e h h1
   exact Mr i 0
 exact ⟨e,by rw [J9]; exact e⟩
def twN:Nat->Nat->Nat
 | 0,b=>b
 | i + 1,b=>tw (twN i b)
theorem Adk {b:Nat} (h:b < 256):∀ i,twN i b < 256
 | 0=>h
 | i + 1=>Avm (Adk h i)
theorem Aq2 {a b:Nat} (ha:a < 256) (hb:b < 256):∀ i,twN i (xr a b)=xr (twN i a) (twN i b)
 | 0=>rfl
 | i + 1=>by rw [twN,twN,twN,Aq2 ha hb i]; exact B1c ⟨_,Adk ha i⟩ ⟨_,Adk hb i⟩
theorem Aq1 (j:Nat):∀ i,twN i (pw j)=pw (i + j)
 | 0=>by rw [twN,Nat.zero_add]
 | i + 1=>by rw [twN,Aq1 j i,show i + 1 + j=(i + j) + 1 by omega]; rfl
theorem Avl:∀ i,twN i 0=0
 | 0=>rfl
 | i + 1=>by rw [twN,Avl i]; rfl
theorem Acp {b:Nat} (h:b < 256) (i:Nat):Am (pw i) b=twN i b:=by
 by_cases h1:b=0
 ·subst h1; rw [(Hz _).1,Avl]
 ·obtain ⟨j,rfl⟩:=A6e h h1
  rw [Mr,Aq1]
theorem A63 {a b c:Nat} (ha:a < 256) (hb:b < 256) (hc:c < 256):Am a (xr b c)=xr (Am a b) (Am a c):=by
 by_cases h1:a=0
 ·subst h1; rw [(Hz _).2,(Hz _).2,(Hz _).2]; rfl
 ·obtain ⟨i,rfl⟩:=A6e ha h1
  rw [Acp (I5 hb hc),Acp hb,Acp hc,Aq2 hb hc]
theorem A76 {a b c:Nat} (ha:a < 256) (hb:b < 256) (hc:c < 256):Am (xr a b) c=xr (Am a c) (Am b c):=by
 rw [J9,A63 hc ha hb,J9 c a,J9 c b]
theorem A22 (a b:Nat):xr a b=xr b a:=Nat.xor_comm a b
theorem N3 (a b c:Nat):xr (xr a b) c=xr a (xr b c):=Nat.xor_assoc a b c
theorem Hi (a:Nat):xr a 0=a/\xr 0 a=a:=⟨Nat.xor_zero a,Nat.zero_xor a⟩
def xp (x:Nat):Nat->Nat
 | 0=>1
 | n + 1=>Am (xp x n) x
theorem Ou (x:Nat):∀ n,xp x n < 256
 | 0=>(by decide:(1:Nat) < 256)
 | n + 1=>Cz _ _
theorem Aqj {x:Nat} (hx:x < 256) (a:Nat):∀ b,xp x (a + b)=Am (xp x a) (xp x b)
 | 0=>(Of (Ou x a)).1.symm
 | b + 1=>by rw [show a + (b + 1)=(a + b) + 1 by omega,xp,xp,Aqj hx a b,El (Ou x a) (Ou x b) hx]
theorem Aex {l:List Nat} (hl:B8 l) {x d k:Nat} (hx:x < 256) (hd:d < 256) (hk:k < l.length):∀ i,i<=l.length ->
   Io (l.set k (xr (l.getD k 0) d)) x i=if l.length - i<=k then xr (Io l x i) (Am d (xp x (k - (l.length - i)))) else Io l x i
 | 0,_=>by rw [if_neg (by omega)]; rfl
 | i + 1, h => by
   have ih:=Aex hl hx hd hk i (by omega)
   rw [Io,Io,ih,List.length_set,Af9]
   by_cases h1:k=l.length - 1 - i
   ·subst h1
    rw [if_neg (by omega),if_pos ⟨rfl,by omega⟩,if_pos (by omega),show l.length - 1 - i - (l.length - (i + 1))=0 by omega]
    rw [xp,(Of hd).1,N3]
   ·rw [if_neg (show ¬ (k=l.length - 1 - i/\k < l.length) by omega)]
    by_cases h2:l.length - i<=k
    ·rw [if_pos h2,if_pos (by omega),show k - (l.length - (i + 1))=(k - (l.length - i)) + 1 by omega,xp]
     rw [A76 (A51 hl x i) (Cz _ _) hx,El hd (Ou x _) hx,N3,N3,A22 (Am d _)]
    ·rw [if_neg h2,if_neg (by omega)]
theorem Aew {l:List Nat} (hl:B8 l) {x d k:Nat} (hx:x < 256) (hd:d < 256) (hk:k < l.length) :
   Io (l.set k (xr (l.getD k 0) d)) x l.length=xr (Io l x l.length) (Am d (xp x k)):=by
 rw [Aex hl hx hd hk _ (Nat.le_refl _),if_pos (by omega),Nat.sub_self,Nat.sub_zero]
theorem A52 {l m:List Nat} (h1:l.length=m.length) (h2:∀ j,l.getD j 0=m.getD j 0) (x:Nat):∀ i,Io l x i=Io m x i
 | 0=>rfl
 | i + 1=>by rw [Io,Io,A52 h1 h2 x i,h1,h2]
def Acf (b:List Nat) (x:Nat):Nat->Nat
 | 0=>0
 | k + 1=>xr (Acf b x k) (Am (b.getD k 0) (xp x k))
theorem Afp (b:List Nat) (x:Nat):∀ k,Acf b x k < 256
 | 0=>(by decide:(0:Nat) < 256)
 | k + 1=>I5 (Afp b x k) (Cz _ _)
theorem Aeu {b o:List Nat} (hb:B8 b) (ho:B8 o) {A e x:Nat} (hA:A < 256) (hx:x < 256):∀ k,e + k<=o.length->Io (mdi b o A e k) x o.length=xr (Io o x o.length) (Am (Am A (xp x e)) (Acf b x k))
 | 0,_=>by rw [Acf,(Hz _).1,(Hi _).1]; rfl
 | k + 1,h=>by
   have ih:=Aeu (e:=e) hb ho hA hx k (by omega)
   have h1:=Aew (l:=mdi b o A e k) (A0c ho k) (x:=x) (d:=Am A (b.getD k 0)) (k:=e + k) hx (Cz _ _) (by rw [Ls]; omega)
   rw [Ls] at h1
   rw [mdi,h1,ih,Acf,A63 (Cz _ _) (Afp b x k) (Cz _ _),N3]
   congr 2
   rw [Aqj hx,El hA (hb k) (Cz _ _),El hA (Ou x e) (Cz _ _)]
   congr 1
   rw [← El (hb k) (Ou x e) (Ou x k),J9 (b.getD k 0) (xp x e),El (Ou x e) (hb k) (Ou x k)]
theorem Nm (f:Nat->Nat):∀ n i j,(arL f n i).getD j 0=if j < n then f (i + j) else 0
 | 0,i,j=>by rw [if_neg (by omega)]; rfl
 | n + 1,i,0=>by rw [if_pos (by omega)]; rfl
 | n + 1,i,j + 1=>by
   show (arL f n (i + 1)).getD j 0=_
   rw [Nm f n (i + 1) j]
   by_cases h:j < n
   ·rw [if_pos h,if_pos (by omega),show i + 1 + j=i + (j + 1) by omega]
   ·rw [if_neg h,if_neg (by omega)]
theorem Qi (a b:List Nat) (j:Nat):(a ++ b).getD j 0=if j < a.length then a.getD j 0 else b.getD (j - a.length) 0:=by
 rw [List.getD_eq_getElem?_getD,List.getD_eq_getElem?_getD,List.getD_eq_getElem?_getD,List.getElem?_append]
 split <;> rfl
theorem B1b (l:List Nat) (j:Nat):(tr l).getD j 0=l.getD j 0:=by
 unfold tr
 rw [List.getD_eq_getElem?_getD,List.getElem?_take]
 by_cases h:j < dl l
 ·rw [if_pos h,List.getD_eq_getElem?_getD]
 ·rw [if_neg h]
  by_cases h2:j < l.length
  ·rw [A4x (by omega) h2]; rfl
  ·rw [List.getD_eq_getElem?_getD,List.getElem?_eq_none (by omega)]
theorem Aev {a:List Nat} (ba:B8 a) {x:Nat} (hx:x < 256) (hz:Acf gen x 5=0):∀ i,i + 4<=a.length->Io (mdo a gen 1 i) x a.length=Io a x a.length
 | 0,_=>rfl
 | i + 1,h=>by
   have ih:=Aev ba hx hz i (by omega)
   have h1:=Aeu (b:=gen) (o:=mdo a gen 1 i) (A:=Am ((mdo a gen 1 i).getD (a.length - 1 - i) 0) 1) (e:=a.length - 1 - i - (dl gen - 1)) Ama (W9 ba i) (Cz _ _) hx (dl gen - 1 + 1) (by rw [Id,Vs]; omega)
   rw [Id] at h1
   rw [mdo,h1,ih,Vs,show 5 - 1 + 1=5 from rfl,hz,(Hz _).1,(Hi _).1]
theorem roots:∀ j:_root_.Fin 4,Acf gen (ex (cu ((j.1:Nat):Int))) 5=0:=by decide +kernel
theorem Aul (n x:Nat):∀ i,Io (List.replicate n 0) x i=0
 | 0=>rfl
 | i + 1=>by
   rw [Io,Aul n x i,(Hz _).2,(Hi _).2,List.getD_eq_getElem?_getD]
   cases h:(List.replicate n 0)[(List.replicate n 0).length - 1 - i]? with
   | none=>rfl
   | some y=>exact (List.mem_replicate.1 (List.mem_of_getElem? h)).2
def A0z (l:List Nat) (c:Nat->Nat):Nat->List Nat
 | 0=>l
 | k + 1=>(A0z l c k).set k (xr ((A0z l c k).getD k 0) (c k))
theorem Oh (l:List Nat) (c:Nat->Nat):∀ k,(A0z l c k).length=l.length
 | 0=>rfl
 | k + 1=>by rw [A0z,List.length_set,Oh l c k]
theorem A6c {l:List Nat} {c:Nat->Nat} (hl:B8 l) (hc:∀ j,c j < 256):∀ k,B8 (A0z l c k)
 | 0=>hl
 | k + 1=>(A6c hl hc k).set (I5 (A6c hl hc k _) (hc k))
theorem A6d {l:List Nat} {c:Nat->Nat}:∀ k,k<=l.length->∀ j,(A0z l c k).getD j 0=if j < k then xr (l.getD j 0) (c j) else l.getD j 0
 | 0,_,j=>by rw [if_neg (by omega)]; rfl
 | k + 1,h,j=>by
   have ih:=A6d (l:=l) (c:=c) k (by omega)
   rw [A0z,Af9,Oh,ih k,if_neg (Nat.lt_irrefl k),ih j]
   by_cases e:k=j
   ·subst e; rw [if_pos ⟨rfl,by omega⟩,if_pos (by omega)]
   ·rw [if_neg (fun h=>e h.1)]
    by_cases h2:j < k
    ·rw [if_pos h2,if_pos (by omega)]
    ·rw [if_neg h2,if_neg (by omega)]
def Aoh (c:Nat->Nat) (x:Nat):Nat->Nat
 | 0=>0
 | k + 1=>xr (Aoh c x k) (Am (c k) (xp x k))
theorem Zf {l:List Nat} {c:Nat->Nat} (hl:B8 l) (hc:∀ j,c j < 256) {x:Nat} (hx:x < 256):∀ k,k<=l.length->Io (A0z l c k) x l.length=xr (Io l x l.length) (Aoh c x k)
 | 0,_=>((Hi _).1).symm
 | k + 1,h=>by
   have ih:=Zf hl hc hx k (by omega)
   have h1:=Aew (l:=A0z l c k) (A6c hl hc k) (x:=x) (d:=c k) (k:=k) hx (hc k) (by rw [Oh]; omega)
   rw [Oh] at h1
   rw [A0z,h1,ih,Aoh,N3]
theorem B17 {w f v:Nat->Nat} (hf:∀ j,f j < 256) (hv:∀ j,v j < 256) (h1:∀ j,j < 4->w j=ckF f v j) (h2:∀ j,j < 32->w (4 + j)=f j) {j:Nat} (hj:j < 4):syF w v j=0:=by
 have bD:=Ri hf hv
 have hc:∀ j,ckF f v j < 256:=Akh hf hv
 have hx:ex (cu ((j:Nat):Int)) < 256:=Wy _
 have hz:=roots ⟨j,hj⟩
 simp only at hz
 have hR:=Aev bD hx hz 35 (by rw [Ej]; decide)
 have lR:(mdo (Nk f v) gen 1 35).length=39:=by rw [Id,Ej]
 have cR:∀ k,ckF f v k=(mdo (Nk f v) gen 1 35).getD k 0:=fun k=>by
  unfold ckF Acm
  rw [B1b,Aad,Ej,Vs]
 have D0:∀ k,k < 4->(Nk f v).getD k 0=0:=fun k hk=>by
  unfold Nk
  rw [Qi,if_pos (by rw [List.length_append,List.length_replicate]; omega),Qi,if_pos (by rw [List.length_replicate]; omega),List.getD_eq_getElem?_getD,List.getElem?_replicate]
  split <;> rfl
 have eD:=Zf (l:=Nk f v) (c:=ckF f v) bD hc hx 4 (by rw [Ej]; decide)
 have e0:=Zf (l:=List.replicate 39 0) (c:=ckF f v) (B8.rep 39) hc hx 4 (by rw [List.length_replicate]; decide)
 have k1:Io (mdo (Nk f v) gen 1 35) (ex (cu ((j:Nat):Int))) 39=Aoh (ckF f v) (ex (cu ((j:Nat):Int))) 4:=by
  rw [A52 (m:=A0z (List.replicate 39 0) (ckF f v) 4) (by rw [lR,Oh,List.length_replicate]) (fun k=>?_)]
  ·rw [List.length_replicate,Aul,(Hi _).2] at e0; exact e0
  ·rw [A6d 4 (by rw [List.length_replicate]; decide)]
   have z:∀ k,(List.replicate 39 0).getD k 0=0:=fun k=>by
    rw [List.getD_eq_getElem?_getD,List.getElem?_replicate]; split <;> rfl
   by_cases hk:k < 4
   ·rw [if_pos hk,z,(Hi _).2,cR]
   ·rw [if_neg hk,z]
    by_cases h3:k < 39
    ·exact A0d bD 35 k (by rw [Ej]; decide) (by rw [Ej]; omega) (by rw [Ej]; omega)
    ·rw [List.getD_eq_getElem?_getD,List.getElem?_eq_none (by rw [lR]; omega)]; rfl
 have k2:Io (Sr w v) (ex (cu ((j:Nat):Int))) 39=xr (Io (Nk f v) (ex (cu ((j:Nat):Int))) 39) (Aoh (ckF f v) (ex (cu ((j:Nat):Int))) 4):=by
  rw [Ej] at eD
  rw [← eD]
  refine A52 (by rw [Sc,Oh,Ej]) (fun k=>?_) _ _
  rw [A6d 4 (by rw [Ej]; decide)]
  unfold Sr
  rw [List.nil_append,Qi,Bh,Nm]
  by_cases hk:k < 4
  ·rw [if_pos (by omega),if_pos (by omega),if_pos hk,D0 k hk,(Hi _).2,Nat.zero_add,h1 k hk]
  ·rw [if_neg hk]
   unfold Nk
   rw [Qi,List.length_append,List.length_replicate,Bh]
   by_cases h3:k < 36
   ·rw [if_pos h3,if_pos h3,if_pos (by omega),Qi,List.length_replicate,if_neg hk,Nm,if_pos (by omega),Nat.zero_add,Nat.zero_add]
    have:=h2 (k - 4) (by omega)
    rw [show 4 + (k - 4)=k by omega] at this
    exact this
   ·rw [if_neg h3,if_neg (by omega)]
 unfold syF
 rw [Sc,k2]
 rw [Ej] at hR
 rw [← hR,k1]
 exact Dd _
theorem I3 (r:Nat->Nat) (o n j:Nat):(A4 r o n).getD j 0=if j < n then r (o + j) else 0:=by
 unfold A4
 rw [List.nil_append,Nm,Nat.zero_add]
theorem A37 {a b:List Nat} (h1:a.length=b.length) (h2:∀ j,j < a.length->a.getD j 0=b.getD j 0):a=b:=by
 refine List.ext_getElem h1 fun j hj hj'=>?_
 have h:=h2 j hj
 rw [List.getD_eq_getElem?_getD,List.getD_eq_getElem?_getD,List.getElem?_eq_getElem hj,List.getElem?_eq_getElem hj'] at h
 exact h
theorem Aei (l:Nat->Nat) (n:Int) (b:Bool):∀ K k j,k < K->j < 9->Tw l n b K (9 * k + j)=(cwB l n b k).getD j 0
 | 0,k,j,h,_=>absurd h (Nat.not_lt_zero _)
 | K + 1,k,j,h,hj=>by
   rw [Tw]
   unfold Dy
   by_cases e:k=K
   ·subst e
    rw [if_pos ⟨by omega,by omega⟩,show 9 * k + j - 9 * k=j by omega]
   ·rw [if_neg (by omega)]
    exact Aei l n b K k j (by omega) hj
theorem A3y (l:Nat->Nat) (n:Int) (b:Bool) {k:Nat} (hk:k < 8):A4 (Tw l n b 8) (9 * k) 9=cwB l n b k:=by
 refine A37 (by rw [Af,Jo]) fun j hj=>?_
 rw [Af] at hj
 rw [I3,if_pos hj,Aei l n b 8 k j hk hj]
theorem Auo (x:Nat):∀ i,h8 x i=x / 2 ^ (8 * i)
 | 0=>by rw [h8,Nat.mul_zero,Nat.pow_zero,Nat.div_one]
 | i + 1=>by rw [h8,Auo x i,Nat.div_div_eq_div_mul,show 8 * (i + 1)=8 * i + 8 by omega,Nat.pow_add]
theorem Afo (x:Nat):∀ i j,(Pb x i).getD j 0=if j < i then h8 x j % 256 else 0
 | 0,j=>by rw [if_neg (Nat.not_lt_zero _)]; rfl
 | i + 1,j=>by
   rw [Pb,Qi,Fo,Afo x i j]
   by_cases h:j < i
   ·rw [if_pos h,if_pos h,if_pos (by omega)]
   ·rw [if_neg h]
    by_cases e:j=i
    ·subst e; rw [if_pos (by omega),Nat.sub_self]; rfl
    ·rw [if_neg (by omega),List.getD_eq_getElem?_getD,List.getElem?_eq_none (by show 1<=j - i; omega)]; rfl
theorem Ao3 (x n:Nat):∀ i,i<=n->nbF (Pb x n) i=x % 2 ^ (8 * i)
 | 0,_=>by rw [nbF,Nat.mul_zero,Nat.pow_zero,Nat.mod_one]
 | i + 1,h=>by
   rw [nbF,Ao3 x n i (by omega),Afo,if_pos (by omega),Auo,Nat.or_comm,Nat.mul_comm,← Nat.two_pow_add_eq_or_of_lt (Nat.mod_lt _ (Nat.pos_of_ne_zero (by simp)))]
   rw [show 8 * (i + 1)=8 * i + 8 by omega,Nat.pow_add,Nat.mod_mul,Nat.add_comm]
theorem Avn {l:Nat->Nat} (hl:∀ j,l j < 256) (k:Nat):∀ n,wdF l k n < 2 ^ (8 * n)
 | 0=>by rw [wdF]; decide
 | n + 1=>by
   have ih:=Avn hl k n
   rw [wdF,Nat.or_comm,Nat.mul_comm,← Nat.two_pow_add_eq_or_of_lt ih,show 8 * (n + 1)=8 * n + 8 by omega,Nat.pow_add]
   have h:=Nat.mul_le_mul_left (2 ^ (8 * n)) (show l (8 * k + n) + 1<=2 ^ 8 by have:=hl (8 * k + n); omega)
   rw [Nat.mul_add,Nat.mul_one] at h
   omega
theorem Avo {l:Nat->Nat} (hl:∀ j,l j < 256) (k:Nat):∀ n i,i < n->wdF l k n / 2 ^ (8 * i) % 256=l (8 * k + i)
 | 0,i,h=>absurd h (Nat.not_lt_zero _)
 | n + 1,i,h=>by
   have hb:=Avn hl k n
   have hp:0 < 2 ^ (8 * i):=Nat.pos_of_ne_zero (by simp)
   rw [wdF,Nat.or_comm,Nat.mul_comm,← Nat.two_pow_add_eq_or_of_lt hb]
   by_cases e:i=n
   ·subst e
    rw [Nat.mul_add_div hp,Nat.div_eq_of_lt hb,Nat.add_zero,Nat.mod_eq_of_lt (hl _)]
   ·have ih:=Avo hl k n i (by omega)
    rw [show 2 ^ (8 * n)=2 ^ (8 * i) * (256 * 2 ^ (8 * (n - i - 1))) by rw [show (256:Nat)=2 ^ 8 from rfl,← Nat.pow_add,← Nat.pow_add]; congr 1; omega,Nat.mul_assoc,Nat.mul_add_div hp,Nat.mul_assoc,Nat.mul_add_mod]
    exact ih
theorem Aek (l:Nat->Nat) (n:Int) (b:Bool):∀ K k j,k < K->j < 36->Sz l n b K (36 * k + j)=(cwC l n b k).getD j 0
 | 0,k,j,h,_=>absurd h (Nat.not_lt_zero _)
 | K + 1,k,j,h,hj=>by
   rw [Sz]
   unfold Dy
   by_cases e:k=K
   ·subst e
    rw [if_pos ⟨by omega,by omega⟩,show 36 * k + j - 36 * k=j by omega]
   ·rw [if_neg (by omega)]
    exact Aek l n b K k j (by omega) hj
theorem A3z (l:Nat->Nat) (n:Int) (b:Bool) {k:Nat} (hk:k < 2):A4 (Sz l n b 2) (36 * k) 36=cwC l n b k:=by
 refine A37 (by rw [Af,A4u]) fun j hj=>?_
 rw [Af] at hj
 rw [I3,if_pos hj,Aek l n b 2 k j hk hj]
theorem Aup (l:Nat->Nat) (j:Nat):hfF l 0 j=l j/\hfF l 1 j=l (32 + j):=⟨rfl,rfl⟩
theorem md1 (l r:Nat->Nat) (n:Int) (b:Bool):Bm 1 l n b=Tw l n b 8/\Ek 1 r n=dlB r n/\Bt 1 r n=jk (kB r n) (kB r n).length/\G9 1 r n=Zx (kB r n):=by
 unfold Bm Ek Bt G9
 rw [tq (show (1:Int)=1 from rfl)]
 simp only [cond_true,and_self]
theorem md2 (l r:Nat->Nat) (n:Int) (b:Bool):Bm 2 l n b=Sz l n b 2/\Ek 2 r n=dlC r n/\Bt 2 r n=jk (kC r n) (kC r n).length/\G9 2 r n=Zx (kC r n):=by
 unfold Bm Ek Bt G9
 rw [fq (show ¬ (2:Int)=1 by decide)]
 simp only [cond_false,and_self]
