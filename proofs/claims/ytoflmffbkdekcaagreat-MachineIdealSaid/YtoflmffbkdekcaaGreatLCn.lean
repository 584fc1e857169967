import Derived.Test.YtoflmffbkdekcaaGreatLGf
namespace Go.Proofs.YtoflmffbkdekcaaGreat
open Go Go.RowKit
set_option linter.unusedVariables false
set_option linter.unusedSimpArgs false
set_option maxRecDepth 100000
theorem arL_at (f:Nat→Nat):∀ n i j,(arL f n i).getD j 0=if j < n then f (i + j) else 0
  | 0,i,j=>by rw [if_neg (by omega)]; rfl
  | n + 1,i,0=>by rw [if_pos (by omega)]; rfl
  | n + 1,i,j + 1=>by
    show (arL f n (i + 1)).getD j 0=_
    rw [arL_at f n (i + 1) j]
    by_cases h:j < n
    · rw [if_pos h,if_pos (by omega),show i + 1 + j=i + (j + 1) by omega]
    · rw [if_neg h,if_neg (by omega)]
theorem gDapp (a b:List Nat) (j:Nat):(a ++ b).getD j 0=if j < a.length then a.getD j 0 else b.getD (j - a.length) 0:=by
  rw [List.getD_eq_getElem?_getD,List.getD_eq_getElem?_getD,List.getD_eq_getElem?_getD,List.getElem?_append]
  split <;> rfl
theorem tr_at (l:List Nat) (j:Nat):(tr l).getD j 0=l.getD j 0:=by
  unfold tr
  rw [List.getD_eq_getElem?_getD,List.getElem?_take]
  by_cases h:j < dl l
  · rw [if_pos h,List.getD_eq_getElem?_getD]
  · rw [if_neg h]
    by_cases h2:j < l.length
    · rw [dl_zero (by omega) h2]; rfl
    · rw [List.getD_eq_getElem?_getD,List.getElem?_eq_none (by omega)]
theorem evl_mdo {a:List Nat} (ba:B8 a) {x:Nat} (hx:x < 256) (hz:lowV gen x 5=0):∀ i,i + 4≤a.length→evlP (mdo a gen 1 i) x a.length=evlP a x a.length
  | 0,_=>rfl
  | i + 1,h=>by
    have ih:=evl_mdo ba hx hz i (by omega)
    have h1:=evl_mdi (b:=gen) (o:=mdo a gen 1 i) (A:=mulF ((mdo a gen 1 i).getD (a.length - 1 - i) 0) 1) (e:=a.length - 1 - i - (dl gen - 1)) gen_B8 (mdo_B8 ba i) (mulF_lt _ _) hx (dl gen - 1 + 1) (by rw [mdo_len,dl_gen]; omega)
    rw [mdo_len] at h1
    rw [mdo,h1,ih,dl_gen,show 5 - 1 + 1=5 from rfl,hz,(mul_0 _).1,(xr_0 _).1]
theorem roots:∀ j:_root_.Fin 4,lowV gen (ex (cu ((j.1:Nat):Int))) 5=0:=by decide +kernel
theorem evl_0 (n x:Nat):∀ i,evlP (List.replicate n 0) x i=0
  | 0=>rfl
  | i + 1=>by
    rw [evlP,evl_0 n x i,(mul_0 _).2,(xr_0 _).2,List.getD_eq_getElem?_getD]
    cases h:(List.replicate n 0)[(List.replicate n 0).length - 1 - i]? with
    | none=>rfl
    | some y=>exact (List.mem_replicate.1 (List.mem_of_getElem? h)).2
def put4 (l:List Nat) (c:Nat→Nat):Nat→List Nat
  | 0=>l
  | k + 1=>(put4 l c k).set k (xr ((put4 l c k).getD k 0) (c k))
theorem put4_len (l:List Nat) (c:Nat→Nat):∀ k,(put4 l c k).length=l.length
  | 0=>rfl
  | k + 1=>by rw [put4,List.length_set,put4_len l c k]
theorem put4_B8 {l:List Nat} {c:Nat→Nat} (hl:B8 l) (hc:∀ j,c j < 256):∀ k,B8 (put4 l c k)
  | 0=>hl
  | k + 1=>(put4_B8 hl hc k).set (xr_lt (put4_B8 hl hc k _) (hc k))
theorem put4_at {l:List Nat} {c:Nat→Nat}:∀ k,k≤l.length→∀ j,(put4 l c k).getD j 0=if j < k then xr (l.getD j 0) (c j) else l.getD j 0
  | 0,_,j=>by rw [if_neg (by omega)]; rfl
  | k + 1, h, j => by
    have ih:=put4_at (l:=l) (c:=c) k (by omega)
    rw [put4,gDset,put4_len,ih k,if_neg (Nat.lt_irrefl k),ih j]
    by_cases e:k=j
    · subst e; rw [if_pos ⟨rfl,by omega⟩,if_pos (by omega)]
    · rw [if_neg (fun h=>e h.1)]
      by_cases h2:j < k
      · rw [if_pos h2,if_pos (by omega)]
      · rw [if_neg h2,if_neg (by omega)]
def putV (c:Nat→Nat) (x:Nat):Nat→Nat
  | 0=>0
  | k + 1=>xr (putV c x k) (mulF (c k) (xp x k))
theorem evl_put4 {l:List Nat} {c:Nat→Nat} (hl:B8 l) (hc:∀ j,c j < 256) {x:Nat} (hx:x < 256):∀ k,k≤l.length→evlP (put4 l c k) x l.length=xr (evlP l x l.length) (putV c x k)
  | 0,_=>((xr_0 _).1).symm
  | k + 1,h=>by
    have ih:=evl_put4 hl hc hx k (by omega)
    have h1:=evl_put (l:=put4 l c k) (put4_B8 hl hc k) (x:=x) (d:=c k) (k:=k) hx (hc k) (by rw [put4_len]; omega)
    rw [put4_len] at h1
    rw [put4,h1,ih,putV,xr_a]
theorem syF_0 {w f v : Nat → Nat} (hf : ∀ j, f j < 256) (hv : ∀ j, v j < 256) (h1 : ∀ j, j < 4 → w j = ckF f v j) (h2 : ∀ j, j < 32 → w (4 + j) = f j) {j : Nat} (hj : j < 4) : syF w v j = 0 := by
  have bD:=wordD_B8 hf hv
  have hc:∀ j,ckF f v j < 256:=ckF_lt hf hv
  have hx:ex (cu ((j:Nat):Int)) < 256:=ex_lt _
  have hz:=roots ⟨j,hj⟩
  simp only at hz
  have hR:=evl_mdo bD hx hz 35 (by rw [wordD_len]; decide)
  have lR:(mdo (wordD f v) gen 1 35).length=39:=by rw [mdo_len,wordD_len]
  have cR:∀ k,ckF f v k=(mdo (wordD f v) gen 1 35).getD k 0:=fun k=>by
    unfold ckF modP
    rw [tr_at,topI_gen,wordD_len,dl_gen]
  have D0:∀ k,k < 4→(wordD f v).getD k 0=0:=fun k hk=>by
    unfold wordD
    rw [gDapp,if_pos (by rw [List.length_append,List.length_replicate]; omega),gDapp,if_pos (by rw [List.length_replicate]; omega),List.getD_eq_getElem?_getD,List.getElem?_replicate]
    split <;> rfl
  have eD:=evl_put4 (l:=wordD f v) (c:=ckF f v) bD hc hx 4 (by rw [wordD_len]; decide)
  have e0:=evl_put4 (l:=List.replicate 39 0) (c:=ckF f v) (B8.rep 39) hc hx 4 (by rw [List.length_replicate]; decide)
  have k1:evlP (mdo (wordD f v) gen 1 35) (ex (cu ((j:Nat):Int))) 39=putV (ckF f v) (ex (cu ((j:Nat):Int))) 4:=by
    rw [evl_ext (m:=put4 (List.replicate 39 0) (ckF f v) 4) (by rw [lR,put4_len,List.length_replicate]) (fun k=>?_)]
    · rw [List.length_replicate,evl_0,(xr_0 _).2] at e0; exact e0
    · rw [put4_at 4 (by rw [List.length_replicate]; decide)]
      have z:∀ k,(List.replicate 39 0).getD k 0=0:=fun k=>by
        rw [List.getD_eq_getElem?_getD,List.getElem?_replicate]; split <;> rfl
      by_cases hk:k < 4
      · rw [if_pos hk,z,(xr_0 _).2,cR]
      · rw [if_neg hk,z]
        by_cases h3:k < 39
        · exact mdo_zero bD 35 k (by rw [wordD_len]; decide) (by rw [wordD_len]; omega) (by rw [wordD_len]; omega)
        · rw [List.getD_eq_getElem?_getD,List.getElem?_eq_none (by rw [lR]; omega)]; rfl
  have k2:evlP (wordS w v) (ex (cu ((j:Nat):Int))) 39=xr (evlP (wordD f v) (ex (cu ((j:Nat):Int))) 39) (putV (ckF f v) (ex (cu ((j:Nat):Int))) 4):=by
    rw [wordD_len] at eD
    rw [← eD]
    refine evl_ext (by rw [wordS_len,put4_len,wordD_len]) (fun k=>?_) _ _
    rw [put4_at 4 (by rw [wordD_len]; decide)]
    unfold wordS
    rw [List.nil_append,gDapp,arL_len,arL_at]
    by_cases hk:k < 4
    · rw [if_pos (by omega),if_pos (by omega),if_pos hk,D0 k hk,(xr_0 _).2,Nat.zero_add,h1 k hk]
    · rw [if_neg hk]
      unfold wordD
      rw [gDapp,List.length_append,List.length_replicate,arL_len]
      by_cases h3:k < 36
      · rw [if_pos h3,if_pos h3,if_pos (by omega),gDapp,List.length_replicate,if_neg hk,arL_at,if_pos (by omega),Nat.zero_add,Nat.zero_add]
        have:=h2 (k - 4) (by omega)
        rw [show 4 + (k - 4)=k by omega] at this
        exact this
      · rw [if_neg h3,if_neg (by omega)]
  unfold syF
  rw [wordS_len,k2]
  rw [wordD_len] at hR
  rw [← hR,k1]
  exact xr_self _
theorem syF_clean {w f v:Nat→Nat} (hf:∀ j,f j < 256) (hv:∀ j,v j < 256) (h1:∀ j,j < 4→w j=ckF f v j) (h2:∀ j,j < 32→w (4 + j)=f j):lkind (syF w v)=0∧∀ j,j < 32→rsfix w v j=f j:=by
  have e:eqA (nf (syF w v)) (fun _=>0) 4 0=true:=eqA_iff.2 fun j _ hj=>by
    show ((syF w v j:Nat):Int)=0
    rw [syF_0 hf hv h1 h2 (by omega)]; rfl
  have k:lkind (syF w v)=0:=by unfold lkind; rw [if_pos e]
  refine ⟨k,fun j hj=>?_⟩
  unfold rsfix
  rw [k,if_neg (fun h=>by have:=h.1; omega)]
  exact h2 j hj
end Go.Proofs.YtoflmffbkdekcaaGreat
