import Derived.Test.YtfhiggfmkjmeiaaGreatFDec
import Derived.Test.YtfhiggfmkjmeiaaGreatFCtl
set_option linter.unusedVariables false
set_option linter.unusedSimpArgs false
set_option linter.unusedSectionVars false
namespace Go.Proofs.YtfhiggfmkjmeiaaGreat
open Go Go.RowKit
set_option maxRecDepth 100000
theorem tw_xr:∀ a b:_root_.Fin 256,tw (xr a.1 b.1)=xr (tw a.1) (tw b.1):=by decide +kernel
theorem pw255:pw 255=1:=by decide +kernel
theorem pw_per:∀ i,pw (i + 255)=pw i
 | 0=>pw255
 | i + 1=>by
   rw [show i + 1 + 255=(i + 255) + 1 by omega]
   show tw (pw (i + 255))=tw (pw i)
   rw [pw_per i]
theorem pw_mod (i:Nat):pw (i % 255)=pw i:=by
 have key:∀ k j,pw (j + 255 * k)=pw j:=fun k=>by
  induction k with
  | zero=>intro j; rfl
  | succ k ih=>intro j; rw [show j + 255 * (k + 1)=(j + 255 * k) + 255 by omega,pw_per,ih]
 have h:=key (i / 255) (i % 255)
 rw [show i % 255 + 255 * (i / 255)=i by omega] at h
 exact h.symm
theorem pw_lg:∀ v:_root_.Fin 256,v.1 ≠ 0->pw (lg v.1)=v.1:=by decide +kernel
theorem lg_pw:∀ i:_root_.Fin 255,lg (pw i.1)=i.1∧pw i.1 ≠ 0:=by decide +kernel
theorem mul_pw (i j:Nat):mulF (pw i) (pw j)=pw (i + j):=by
 have hi:=lg_pw ⟨i % 255,Nat.mod_lt _ (by decide)⟩
 have hj:=lg_pw ⟨j % 255,Nat.mod_lt _ (by decide)⟩
 simp only at hi hj
 rw [pw_mod] at hi hj
 unfold mulF
 rw [if_neg hi.2,if_neg hj.2,hi.1,hj.1]
 have e:cu ((i % 255 + j % 255:Nat):Int)=(i + j) % 255:=by unfold cu; omega
 rw [e]
 unfold ex
 rw [if_pos (Nat.mod_lt _ (by decide)),pw_mod]
theorem mul_0 (a:Nat):mulF a 0=0∧mulF 0 a=0:=by
 unfold mulF; exact ⟨by rw [if_pos rfl,ite_self],if_pos rfl⟩
theorem pwOf {a:Nat} (h:a < 256) (h0:a ≠ 0):∃ i,a=pw i:=⟨lg a,(pw_lg ⟨a,h⟩ h0).symm⟩
theorem mul_comm' (a b:Nat):mulF a b=mulF b a:=by
 unfold mulF
 by_cases ha:a=0
 ·rw [if_pos ha]; split <;> rfl
 ·by_cases hb:b=0
  ·rw [if_pos hb,if_pos hb,if_neg ha]
  ·rw [if_neg ha,if_neg hb,if_neg ha,if_neg hb,Nat.add_comm]
theorem mul_assoc' {a b c:Nat} (ha:a < 256) (hb:b < 256) (hc:c < 256):mulF (mulF a b) c=mulF a (mulF b c):=by
 by_cases h1:a=0
 ·subst h1; rw [(mul_0 _).2,(mul_0 _).2,(mul_0 _).2]
 by_cases h2:b=0
 ·subst h2; rw [(mul_0 _).1,(mul_0 _).2,(mul_0 _).1]
 by_cases h3:c=0
 ·subst h3; rw [(mul_0 _).1,(mul_0 _).1,(mul_0 _).1]
 obtain ⟨i,rfl⟩:=pwOf ha h1
 obtain ⟨j,rfl⟩:=pwOf hb h2
 obtain ⟨k,rfl⟩:=pwOf hc h3
 rw [mul_pw,mul_pw,mul_pw,mul_pw,Nat.add_assoc]
theorem mul_one' {a:Nat} (h:a < 256):mulF a 1=a∧mulF 1 a=a:=by
 have e:mulF a 1=a:=by
  by_cases h1:a=0
  ·subst h1; exact (mul_0 _).2
  ·obtain ⟨i,rfl⟩:=pwOf h h1
   exact mul_pw i 0
 exact ⟨e,by rw [mul_comm']; exact e⟩
def twN:Nat->Nat->Nat
 | 0,b=>b
 | i + 1,b=>tw (twN i b)
theorem twN_lt {b:Nat} (h:b < 256):∀ i,twN i b < 256
 | 0=>h
 | i + 1=>tw_lt (twN_lt h i)
theorem twN_xr {a b:Nat} (ha:a < 256) (hb:b < 256):∀ i,twN i (xr a b)=xr (twN i a) (twN i b)
 | 0=>rfl
 | i + 1=>by rw [twN,twN,twN,twN_xr ha hb i]; exact tw_xr ⟨_,twN_lt ha i⟩ ⟨_,twN_lt hb i⟩
theorem twN_pw (j:Nat):∀ i,twN i (pw j)=pw (i + j)
 | 0=>by rw [twN,Nat.zero_add]
 | i + 1=>by rw [twN,twN_pw j i,show i + 1 + j=(i + j) + 1 by omega]; rfl
theorem twN_0:∀ i,twN i 0=0
 | 0=>rfl
 | i + 1=>by rw [twN,twN_0 i]; rfl
theorem mul_tw {b:Nat} (h:b < 256) (i:Nat):mulF (pw i) b=twN i b:=by
 by_cases h1:b=0
 ·subst h1; rw [(mul_0 _).1,twN_0]
 ·obtain ⟨j,rfl⟩:=pwOf h h1
  rw [mul_pw,twN_pw]
theorem mul_xr {a b c:Nat} (ha:a < 256) (hb:b < 256) (hc:c < 256):mulF a (xr b c)=xr (mulF a b) (mulF a c):=by
 by_cases h1:a=0
 ·subst h1; rw [(mul_0 _).2,(mul_0 _).2,(mul_0 _).2]; rfl
 ·obtain ⟨i,rfl⟩:=pwOf ha h1
  rw [mul_tw (xr_lt hb hc),mul_tw hb,mul_tw hc,twN_xr hb hc]
theorem xr_mul {a b c:Nat} (ha:a < 256) (hb:b < 256) (hc:c < 256):mulF (xr a b) c=xr (mulF a c) (mulF b c):=by
 rw [mul_comm',mul_xr hc ha hb,mul_comm' c a,mul_comm' c b]
theorem xr_c (a b:Nat):xr a b=xr b a:=Nat.xor_comm a b
theorem xr_a (a b c:Nat):xr (xr a b) c=xr a (xr b c):=Nat.xor_assoc a b c
theorem xr_0 (a:Nat):xr a 0=a∧xr 0 a=a:=⟨Nat.xor_zero a,Nat.zero_xor a⟩
def xp (x:Nat):Nat->Nat
 | 0=>1
 | n + 1=>mulF (xp x n) x
theorem xp_lt (x:Nat):∀ n,xp x n < 256
 | 0=>(by decide:(1:Nat) < 256)
 | n + 1=>mulF_lt _ _
theorem xp_add {x:Nat} (hx:x < 256) (a:Nat):∀ b,xp x (a + b)=mulF (xp x a) (xp x b)
 | 0=>(mul_one' (xp_lt x a)).1.symm
 | b + 1=>by rw [show a + (b + 1)=(a + b) + 1 by omega,xp,xp,xp_add hx a b,mul_assoc' (xp_lt x a) (xp_lt x b) hx]
theorem evl_set {l:List Nat} (hl:B8 l) {x d k:Nat} (hx:x < 256) (hd:d < 256) (hk:k < l.length):∀ i,i<=l.length ->
   evlP (l.set k (xr (l.getD k 0) d)) x i=if l.length - i<=k then xr (evlP l x i) (mulF d (xp x (k - (l.length - i)))) else evlP l x i
 | 0,_=>by rw [if_neg (by omega)]; rfl
 | i + 1, h => by
   have ih:=evl_set hl hx hd hk i (by omega)
   rw [evlP,evlP,ih,List.length_set,gDset]
   by_cases h1:k=l.length - 1 - i
   ·subst h1
    rw [if_neg (by omega),if_pos ⟨rfl,by omega⟩,if_pos (by omega),show l.length - 1 - i - (l.length - (i + 1))=0 by omega]
    rw [xp,(mul_one' hd).1,xr_a]
   ·rw [if_neg (show ¬ (k=l.length - 1 - i∧k < l.length) by omega)]
    by_cases h2:l.length - i<=k
    ·rw [if_pos h2,if_pos (by omega),show k - (l.length - (i + 1))=(k - (l.length - i)) + 1 by omega,xp]
     rw [xr_mul (evlP_lt hl x i) (mulF_lt _ _) hx,mul_assoc' hd (xp_lt x _) hx,xr_a,xr_a,xr_c (mulF d _)]
    ·rw [if_neg h2,if_neg (by omega)]
theorem evl_put {l:List Nat} (hl:B8 l) {x d k:Nat} (hx:x < 256) (hd:d < 256) (hk:k < l.length) :
   evlP (l.set k (xr (l.getD k 0) d)) x l.length=xr (evlP l x l.length) (mulF d (xp x k)):=by
 rw [evl_set hl hx hd hk _ (Nat.le_refl _),if_pos (by omega),Nat.sub_self,Nat.sub_zero]
theorem evl_ext {l m:List Nat} (h1:l.length=m.length) (h2:∀ j,l.getD j 0=m.getD j 0) (x:Nat):∀ i,evlP l x i=evlP m x i
 | 0=>rfl
 | i + 1=>by rw [evlP,evlP,evl_ext h1 h2 x i,h1,h2]
def lowV (b:List Nat) (x:Nat):Nat->Nat
 | 0=>0
 | k + 1=>xr (lowV b x k) (mulF (b.getD k 0) (xp x k))
theorem lowV_lt (b:List Nat) (x:Nat):∀ k,lowV b x k < 256
 | 0=>(by decide:(0:Nat) < 256)
 | k + 1=>xr_lt (lowV_lt b x k) (mulF_lt _ _)
theorem evl_mdi {b o:List Nat} (hb:B8 b) (ho:B8 o) {A e x:Nat} (hA:A < 256) (hx:x < 256):∀ k,e + k<=o.length->evlP (mdi b o A e k) x o.length=xr (evlP o x o.length) (mulF (mulF A (xp x e)) (lowV b x k))
 | 0,_=>by rw [lowV,(mul_0 _).1,(xr_0 _).1]; rfl
 | k + 1,h=>by
   have ih:=evl_mdi (e:=e) hb ho hA hx k (by omega)
   have h1:=evl_put (l:=mdi b o A e k) (mdi_B8 ho k) (x:=x) (d:=mulF A (b.getD k 0)) (k:=e + k) hx (mulF_lt _ _) (by rw [mdi_len]; omega)
   rw [mdi_len] at h1
   rw [mdi,h1,ih,lowV,mul_xr (mulF_lt _ _) (lowV_lt b x k) (mulF_lt _ _),xr_a]
   congr 2
   rw [xp_add hx,mul_assoc' hA (hb k) (mulF_lt _ _),mul_assoc' hA (xp_lt x e) (mulF_lt _ _)]
   congr 1
   rw [← mul_assoc' (hb k) (xp_lt x e) (xp_lt x k),mul_comm' (b.getD k 0) (xp x e),mul_assoc' (xp_lt x e) (hb k) (xp_lt x k)]
theorem arL_at (f:Nat->Nat):∀ n i j,(arL f n i).getD j 0=if j < n then f (i + j) else 0
 | 0,i,j=>by rw [if_neg (by omega)]; rfl
 | n + 1,i,0=>by rw [if_pos (by omega)]; rfl
 | n + 1,i,j + 1=>by
   show (arL f n (i + 1)).getD j 0=_
   rw [arL_at f n (i + 1) j]
   by_cases h:j < n
   ·rw [if_pos h,if_pos (by omega),show i + 1 + j=i + (j + 1) by omega]
   ·rw [if_neg h,if_neg (by omega)]
theorem gDapp (a b:List Nat) (j:Nat):(a ++ b).getD j 0=if j < a.length then a.getD j 0 else b.getD (j - a.length) 0:=by
 rw [List.getD_eq_getElem?_getD,List.getD_eq_getElem?_getD,List.getD_eq_getElem?_getD,List.getElem?_append]
 split <;> rfl
theorem tr_at (l:List Nat) (j:Nat):(tr l).getD j 0=l.getD j 0:=by
 unfold tr
 rw [List.getD_eq_getElem?_getD,List.getElem?_take]
 by_cases h:j < dl l
 ·rw [if_pos h,List.getD_eq_getElem?_getD]
 ·rw [if_neg h]
  by_cases h2:j < l.length
  ·rw [dl_zero (by omega) h2]; rfl
  ·rw [List.getD_eq_getElem?_getD,List.getElem?_eq_none (by omega)]
theorem evl_mdo {a:List Nat} (ba:B8 a) {x:Nat} (hx:x < 256) (hz:lowV gen x 5=0):∀ i,i + 4<=a.length->evlP (mdo a gen 1 i) x a.length=evlP a x a.length
 | 0,_=>rfl
 | i + 1,h=>by
   have ih:=evl_mdo ba hx hz i (by omega)
   have h1:=evl_mdi (b:=gen) (o:=mdo a gen 1 i) (A:=mulF ((mdo a gen 1 i).getD (a.length - 1 - i) 0) 1) (e:=a.length - 1 - i - (dl gen - 1)) gen_B8 (mdo_B8 ba i) (mulF_lt _ _) hx (dl gen - 1 + 1) (by rw [mdo_len,dl_gen]; omega)
   rw [mdo_len] at h1
   rw [mdo,h1,ih,dl_gen,show 5 - 1 + 1=5 from rfl,hz,(mul_0 _).1,(xr_0 _).1]
theorem roots:∀ j:_root_.Fin 4,lowV gen (ex (cu ((j.1:Nat):Int))) 5=0:=by decide +kernel
theorem evl_0 (n x:Nat):∀ i,evlP (List.replicate n 0) x i=0
 | 0=>rfl
 | i + 1=>by
   rw [evlP,evl_0 n x i,(mul_0 _).2,(xr_0 _).2,List.getD_eq_getElem?_getD]
   cases h:(List.replicate n 0)[(List.replicate n 0).length - 1 - i]? with
   | none=>rfl
   | some y=>exact (List.mem_replicate.1 (List.mem_of_getElem? h)).2
def put4 (l:List Nat) (c:Nat->Nat):Nat->List Nat
 | 0=>l
 | k + 1=>(put4 l c k).set k (xr ((put4 l c k).getD k 0) (c k))
theorem put4_len (l:List Nat) (c:Nat->Nat):∀ k,(put4 l c k).length=l.length
 | 0=>rfl
 | k + 1=>by rw [put4,List.length_set,put4_len l c k]
theorem put4_B8 {l:List Nat} {c:Nat->Nat} (hl:B8 l) (hc:∀ j,c j < 256):∀ k,B8 (put4 l c k)
 | 0=>hl
 | k + 1=>(put4_B8 hl hc k).set (xr_lt (put4_B8 hl hc k _) (hc k))
theorem put4_at {l:List Nat} {c:Nat->Nat}:∀ k,k<=l.length->∀ j,(put4 l c k).getD j 0=if j < k then xr (l.getD j 0) (c j) else l.getD j 0
 | 0,_,j=>by rw [if_neg (by omega)]; rfl
 | k + 1,h,j=>by
   have ih:=put4_at (l:=l) (c:=c) k (by omega)
   rw [put4,gDset,put4_len,ih k,if_neg (Nat.lt_irrefl k),ih j]
   by_cases e:k=j
   ·subst e; rw [if_pos ⟨rfl,by omega⟩,if_pos (by omega)]
   ·rw [if_neg (fun h=>e h.1)]
    by_cases h2:j < k
    ·rw [if_pos h2,if_pos (by omega)]
    ·rw [if_neg h2,if_neg (by omega)]
def putV (c:Nat->Nat) (x:Nat):Nat->Nat
 | 0=>0
 | k + 1=>xr (putV c x k) (mulF (c k) (xp x k))
theorem evl_put4 {l:List Nat} {c:Nat->Nat} (hl:B8 l) (hc:∀ j,c j < 256) {x:Nat} (hx:x < 256):∀ k,k<=l.length->evlP (put4 l c k) x l.length=xr (evlP l x l.length) (putV c x k)
 | 0,_=>((xr_0 _).1).symm
 | k + 1,h=>by
   have ih:=evl_put4 hl hc hx k (by omega)
   have h1:=evl_put (l:=put4 l c k) (put4_B8 hl hc k) (x:=x) (d:=c k) (k:=k) hx (hc k) (by rw [put4_len]; omega)
   rw [put4_len] at h1
   rw [put4,h1,ih,putV,xr_a]
theorem syF_0 {w f v:Nat->Nat} (hf:∀ j,f j < 256) (hv:∀ j,v j < 256) (h1:∀ j,j < 4->w j=ckF f v j) (h2:∀ j,j < 32->w (4 + j)=f j) {j:Nat} (hj:j < 4):syF w v j=0:=by
 have bD:=wordD_B8 hf hv
 have hc:∀ j,ckF f v j < 256:=ckF_lt hf hv
 have hx:ex (cu ((j:Nat):Int)) < 256:=ex_lt _
 have hz:=roots ⟨j,hj⟩
 simp only at hz
 have hR:=evl_mdo bD hx hz 35 (by rw [wordD_len]; decide)
 have lR:(mdo (wordD f v) gen 1 35).length=39:=by rw [mdo_len,wordD_len]
 have cR:∀ k,ckF f v k=(mdo (wordD f v) gen 1 35).getD k 0:=fun k=>by
  unfold ckF modP
  rw [tr_at,topI_gen,wordD_len,dl_gen]
 have D0:∀ k,k < 4->(wordD f v).getD k 0=0:=fun k hk=>by
  unfold wordD
  rw [gDapp,if_pos (by rw [List.length_append,List.length_replicate]; omega),gDapp,if_pos (by rw [List.length_replicate]; omega),List.getD_eq_getElem?_getD,List.getElem?_replicate]
  split <;> rfl
 have eD:=evl_put4 (l:=wordD f v) (c:=ckF f v) bD hc hx 4 (by rw [wordD_len]; decide)
 have e0:=evl_put4 (l:=List.replicate 39 0) (c:=ckF f v) (B8.rep 39) hc hx 4 (by rw [List.length_replicate]; decide)
 have k1:evlP (mdo (wordD f v) gen 1 35) (ex (cu ((j:Nat):Int))) 39=putV (ckF f v) (ex (cu ((j:Nat):Int))) 4:=by
  rw [evl_ext (m:=put4 (List.replicate 39 0) (ckF f v) 4) (by rw [lR,put4_len,List.length_replicate]) (fun k=>?_)]
  ·rw [List.length_replicate,evl_0,(xr_0 _).2] at e0; exact e0
  ·rw [put4_at 4 (by rw [List.length_replicate]; decide)]
   have z:∀ k,(List.replicate 39 0).getD k 0=0:=fun k=>by
    rw [List.getD_eq_getElem?_getD,List.getElem?_replicate]; split <;> rfl
   by_cases hk:k < 4
   ·rw [if_pos hk,z,(xr_0 _).2,cR]
   ·rw [if_neg hk,z]
    by_cases h3:k < 39
    ·exact mdo_zero bD 35 k (by rw [wordD_len]; decide) (by rw [wordD_len]; omega) (by rw [wordD_len]; omega)
    ·rw [List.getD_eq_getElem?_getD,List.getElem?_eq_none (by rw [lR]; omega)]; rfl
 have k2:evlP (wordS w v) (ex (cu ((j:Nat):Int))) 39=xr (evlP (wordD f v) (ex (cu ((j:Nat):Int))) 39) (putV (ckF f v) (ex (cu ((j:Nat):Int))) 4):=by
  rw [wordD_len] at eD
  rw [← eD]
  refine evl_ext (by rw [wordS_len,put4_len,wordD_len]) (fun k=>?_) _ _
  rw [put4_at 4 (by rw [wordD_len]; decide)]
  unfold wordS
  rw [List.nil_append,gDapp,arL_len,arL_at]
  by_cases hk:k < 4
  ·rw [if_pos (by omega),if_pos (by omega),if_pos hk,D0 k hk,(xr_0 _).2,Nat.zero_add,h1 k hk]
  ·rw [if_neg hk]
   unfold wordD
   rw [gDapp,List.length_append,List.length_replicate,arL_len]
   by_cases h3:k < 36
   ·rw [if_pos h3,if_pos h3,if_pos (by omega),gDapp,List.length_replicate,if_neg hk,arL_at,if_pos (by omega),Nat.zero_add,Nat.zero_add]
    have:=h2 (k - 4) (by omega)
    rw [show 4 + (k - 4)=k by omega] at this
    exact this
   ·rw [if_neg h3,if_neg (by omega)]
 unfold syF
 rw [wordS_len,k2]
 rw [wordD_len] at hR
 rw [← hR,k1]
 exact xr_self _
theorem wordR_at (r:Nat->Nat) (o n j:Nat):(wordR r o n).getD j 0=if j < n then r (o + j) else 0:=by
 unfold wordR
 rw [List.nil_append,arL_at,Nat.zero_add]
theorem list_ext0 {a b:List Nat} (h1:a.length=b.length) (h2:∀ j,j < a.length->a.getD j 0=b.getD j 0):a=b:=by
 refine List.ext_getElem h1 fun j hj hj'=>?_
 have h:=h2 j hj
 rw [List.getD_eq_getElem?_getD,List.getD_eq_getElem?_getD,List.getElem?_eq_getElem hj,List.getElem?_eq_getElem hj'] at h
 exact h
theorem encB_at (l:Nat->Nat) (n:Int) (b:Bool):∀ K k j,k < K->j < 9->encB l n b K (9 * k + j)=(cwB l n b k).getD j 0
 | 0,k,j,h,_=>absurd h (Nat.not_lt_zero _)
 | K + 1,k,j,h,hj=>by
   rw [encB]
   unfold putN
   by_cases e:k=K
   ·subst e
    rw [if_pos ⟨by omega,by omega⟩,show 9 * k + j - 9 * k=j by omega]
   ·rw [if_neg (by omega)]
    exact encB_at l n b K k j (by omega) hj
theorem wordB (l:Nat->Nat) (n:Int) (b:Bool) {k:Nat} (hk:k < 8):wordR (encB l n b 8) (9 * k) 9=cwB l n b k:=by
 refine list_ext0 (by rw [wordR_len,cwB_len]) fun j hj=>?_
 rw [wordR_len] at hj
 rw [wordR_at,if_pos hj,encB_at l n b 8 k j hk hj]
theorem h8_eq (x:Nat):∀ i,h8 x i=x / 2 ^ (8 * i)
 | 0=>by rw [h8,Nat.mul_zero,Nat.pow_zero,Nat.div_one]
 | i + 1=>by rw [h8,h8_eq x i,Nat.div_div_eq_div_mul,show 8 * (i + 1)=8 * i + 8 by omega,Nat.pow_add]
theorem lowL_at (x:Nat):∀ i j,(lowL x i).getD j 0=if j < i then h8 x j % 256 else 0
 | 0,j=>by rw [if_neg (Nat.not_lt_zero _)]; rfl
 | i + 1,j=>by
   rw [lowL,gDapp,lowL_len,lowL_at x i j]
   by_cases h:j < i
   ·rw [if_pos h,if_pos h,if_pos (by omega)]
   ·rw [if_neg h]
    by_cases e:j=i
    ·subst e; rw [if_pos (by omega),Nat.sub_self]; rfl
    ·rw [if_neg (by omega),List.getD_eq_getElem?_getD,List.getElem?_eq_none (by show 1<=j - i; omega)]; rfl
theorem nb_low (x n:Nat):∀ i,i<=n->nbF (lowL x n) i=x % 2 ^ (8 * i)
 | 0,_=>by rw [nbF,Nat.mul_zero,Nat.pow_zero,Nat.mod_one]
 | i + 1,h=>by
   rw [nbF,nb_low x n i (by omega),lowL_at,if_pos (by omega),h8_eq,Nat.or_comm,Nat.mul_comm,← Nat.two_pow_add_eq_or_of_lt (Nat.mod_lt _ (Nat.pos_of_ne_zero (by simp)))]
   rw [show 8 * (i + 1)=8 * i + 8 by omega,Nat.pow_add,Nat.mod_mul,Nat.add_comm]
theorem wdF_b {l:Nat->Nat} (hl:∀ j,l j < 256) (k:Nat):∀ n,wdF l k n < 2 ^ (8 * n)
 | 0=>by rw [wdF]; decide
 | n + 1=>by
   have ih:=wdF_b hl k n
   rw [wdF,Nat.or_comm,Nat.mul_comm,← Nat.two_pow_add_eq_or_of_lt ih,show 8 * (n + 1)=8 * n + 8 by omega,Nat.pow_add]
   have h:=Nat.mul_le_mul_left (2 ^ (8 * n)) (show l (8 * k + n) + 1<=2 ^ 8 by have:=hl (8 * k + n); omega)
   rw [Nat.mul_add,Nat.mul_one] at h
   omega
theorem wd_at {l:Nat->Nat} (hl:∀ j,l j < 256) (k:Nat):∀ n i,i < n->wdF l k n / 2 ^ (8 * i) % 256=l (8 * k + i)
 | 0,i,h=>absurd h (Nat.not_lt_zero _)
 | n + 1,i,h=>by
   have hb:=wdF_b hl k n
   have hp:0 < 2 ^ (8 * i):=Nat.pos_of_ne_zero (by simp)
   rw [wdF,Nat.or_comm,Nat.mul_comm,← Nat.two_pow_add_eq_or_of_lt hb]
   by_cases e:i=n
   ·subst e
    rw [Nat.mul_add_div hp,Nat.div_eq_of_lt hb,Nat.add_zero,Nat.mod_eq_of_lt (hl _)]
   ·have ih:=wd_at hl k n i (by omega)
    rw [show 2 ^ (8 * n)=2 ^ (8 * i) * (256 * 2 ^ (8 * (n - i - 1))) by rw [show (256:Nat)=2 ^ 8 from rfl,← Nat.pow_add,← Nat.pow_add]; congr 1; omega,Nat.mul_assoc,Nat.mul_add_div hp,Nat.mul_assoc,Nat.mul_add_mod]
    exact ih
theorem encC_at (l:Nat->Nat) (n:Int) (b:Bool):∀ K k j,k < K->j < 36->encC l n b K (36 * k + j)=(cwC l n b k).getD j 0
 | 0,k,j,h,_=>absurd h (Nat.not_lt_zero _)
 | K + 1,k,j,h,hj=>by
   rw [encC]
   unfold putN
   by_cases e:k=K
   ·subst e
    rw [if_pos ⟨by omega,by omega⟩,show 36 * k + j - 36 * k=j by omega]
   ·rw [if_neg (by omega)]
    exact encC_at l n b K k j (by omega) hj
theorem wordC (l:Nat->Nat) (n:Int) (b:Bool) {k:Nat} (hk:k < 2):wordR (encC l n b 2) (36 * k) 36=cwC l n b k:=by
 refine list_ext0 (by rw [wordR_len,cwC_len]) fun j hj=>?_
 rw [wordR_len] at hj
 rw [wordR_at,if_pos hj,encC_at l n b 2 k j hk hj]
theorem hf_at (l:Nat->Nat) (j:Nat):hfF l 0 j=l j∧hfF l 1 j=l (32 + j):=⟨rfl,rfl⟩
theorem md1 (l r:Nat->Nat) (n:Int) (b:Bool):enc_v0 1 l n b=encB l n b 8∧dec_v0 1 r n=dlB r n∧dec_v1 1 r n=jk (kB r n) (kB r n).length∧dec_v2 1 r n=jfix (kB r n):=by
 unfold enc_v0 dec_v0 dec_v1 dec_v2
 rw [decide_eq_true (show (1:Int)=1 from rfl)]
 simp only [cond_true,and_self]
theorem md2 (l r:Nat->Nat) (n:Int) (b:Bool):enc_v0 2 l n b=encC l n b 2∧dec_v0 2 r n=dlC r n∧dec_v1 2 r n=jk (kC r n) (kC r n).length∧dec_v2 2 r n=jfix (kC r n):=by
 unfold enc_v0 dec_v0 dec_v1 dec_v2
 rw [decide_eq_false (show ¬ (2:Int)=1 by decide)]
 simp only [cond_false,and_self]
end Go.Proofs.YtfhiggfmkjmeiaaGreat
