import Derived.Test.YtoflmffbkdekcaaGreatLCn
import Derived.Test.YtoflmffbkdekcaaGreatFCtl
namespace Go.Proofs.YtoflmffbkdekcaaGreat
open Go Go.RowKit
set_option linter.unusedVariables false
set_option linter.unusedSimpArgs false
set_option maxRecDepth 100000
theorem wordR_at (r:Nat→Nat) (o n j:Nat):(wordR r o n).getD j 0=if j < n then r (o + j) else 0:=by
  unfold wordR
  rw [List.nil_append,arL_at,Nat.zero_add]
theorem list_ext0 {a b:List Nat} (h1:a.length=b.length) (h2:∀ j,j < a.length→a.getD j 0=b.getD j 0):a=b:=by
  refine List.ext_getElem h1 fun j hj hj'=>?_
  have h:=h2 j hj
  rw [List.getD_eq_getElem?_getD,List.getD_eq_getElem?_getD,List.getElem?_eq_getElem hj,List.getElem?_eq_getElem hj'] at h
  exact h
theorem encB_at (l:Nat→Nat) (n:Int) (b:Bool):∀ K k j,k < K→j < 9→encB l n b K (9 * k + j)=(cwB l n b k).getD j 0
  | 0,k,j,h,_=>absurd h (Nat.not_lt_zero _)
  | K + 1, k, j, h, hj => by
    rw [encB]
    unfold putN
    by_cases e:k=K
    · subst e
      rw [if_pos ⟨by omega,by omega⟩,show 9 * k + j - 9 * k=j by omega]
    · rw [if_neg (by omega)]
      exact encB_at l n b K k j (by omega) hj
theorem wordB (l:Nat→Nat) (n:Int) (b:Bool) {k:Nat} (hk:k < 8):wordR (encB l n b 8) (9 * k) 9=cwB l n b k:=by
  refine list_ext0 (by rw [wordR_len,cwB_len]) fun j hj=>?_
  rw [wordR_len] at hj
  rw [wordR_at,if_pos hj,encB_at l n b 8 k j hk hj]
theorem h8_eq (x:Nat):∀ i,h8 x i=x / 2 ^ (8 * i)
  | 0=>by rw [h8,Nat.mul_zero,Nat.pow_zero,Nat.div_one]
  | i + 1=>by rw [h8,h8_eq x i,Nat.div_div_eq_div_mul,show 8 * (i + 1)=8 * i + 8 by omega,Nat.pow_add]
theorem lowL_at (x:Nat):∀ i j,(lowL x i).getD j 0=if j < i then h8 x j % 256 else 0
  | 0,j=>by rw [if_neg (Nat.not_lt_zero _)]; rfl
  | i + 1, j => by
    rw [lowL,gDapp,lowL_len,lowL_at x i j]
    by_cases h:j < i
    · rw [if_pos h,if_pos h,if_pos (by omega)]
    · rw [if_neg h]
      by_cases e:j=i
      · subst e; rw [if_pos (by omega),Nat.sub_self]; rfl
      · rw [if_neg (by omega),List.getD_eq_getElem?_getD,List.getElem?_eq_none (by show 1≤j - i; omega)]; rfl
theorem nb_low (x n:Nat):∀ i,i≤n→nbF (lowL x n) i=x % 2 ^ (8 * i)
  | 0,_=>by rw [nbF,Nat.mul_zero,Nat.pow_zero,Nat.mod_one]
  | i + 1,h=>by
    rw [nbF,nb_low x n i (by omega),lowL_at,if_pos (by omega),h8_eq,Nat.or_comm,Nat.mul_comm,← Nat.two_pow_add_eq_or_of_lt (Nat.mod_lt _ (Nat.pos_of_ne_zero (by simp)))]
    rw [show 8 * (i + 1)=8 * i + 8 by omega,Nat.pow_add,Nat.mod_mul,Nat.add_comm]
theorem wdF_b {l:Nat→Nat} (hl:∀ j,l j < 256) (k:Nat):∀ n,wdF l k n < 2 ^ (8 * n)
  | 0=>by rw [wdF]; decide
  | n + 1=>by
    have ih:=wdF_b hl k n
    rw [wdF,Nat.or_comm,Nat.mul_comm,← Nat.two_pow_add_eq_or_of_lt ih,show 8 * (n + 1)=8 * n + 8 by omega,Nat.pow_add]
    have h:=Nat.mul_le_mul_left (2 ^ (8 * n)) (show l (8 * k + n) + 1≤2 ^ 8 by have:=hl (8 * k + n); omega)
    rw [Nat.mul_add,Nat.mul_one] at h
    omega
theorem wd_at {l:Nat→Nat} (hl:∀ j,l j < 256) (k:Nat):∀ n i,i < n→wdF l k n / 2 ^ (8 * i) % 256=l (8 * k + i)
  | 0,i,h=>absurd h (Nat.not_lt_zero _)
  | n + 1, i, h => by
    have hb:=wdF_b hl k n
    have hp:0 < 2 ^ (8 * i):=Nat.pos_of_ne_zero (by simp)
    rw [wdF,Nat.or_comm,Nat.mul_comm,← Nat.two_pow_add_eq_or_of_lt hb]
    by_cases e:i=n
    · subst e
      rw [Nat.mul_add_div hp,Nat.div_eq_of_lt hb,Nat.add_zero,Nat.mod_eq_of_lt (hl _)]
    · have ih:=wd_at hl k n i (by omega)
      rw [show 2 ^ (8 * n)=2 ^ (8 * i) * (256 * 2 ^ (8 * (n - i - 1))) by rw [show (256:Nat)=2 ^ 8 from rfl,← Nat.pow_add,← Nat.pow_add]; congr 1; omega,Nat.mul_assoc,Nat.mul_add_div hp,Nat.mul_assoc,Nat.mul_add_mod]
      exact ih
theorem bit_clean {x:Nat} (hx:x < 18446744073709551616) (n:Int):bitX (lowL x 8 ++ [chk x (parF n) 0]) n=x∧bitK (lowL x 8 ++ [chk x (parF n) 0]) n=0:=by
  have hd:bitD (lowL x 8 ++ [chk x (parF n) 0])=x:=by
    unfold bitD
    rw [List.take_left' (lowL_len x 8),lowL_len,nb_low x 8 8 (Nat.le_refl _)]
    exact Nat.mod_eq_of_lt hx
  have hc:(lowL x 8 ++ [chk x (parF n) 0]).getD 8 0=chk x (parF n) 0:=by rw [gDapp,lowL_len]; rfl
  have hs:bitS (lowL x 8 ++ [chk x (parF n) 0]) n=0:=by
    unfold bitS
    rw [hd,hc]; exact xr_self _
  have hs2:syn x (parF n) 0 (chk x (parF n) 0)=0:=xr_self _
  constructor
  · unfold bitX
    rw [hd,hc]
    unfold hfix
    rw [hs2,if_neg (by decide)]
  · unfold bitK
    rw [hs,if_pos (by decide)]
theorem bitsClean {l:Nat→Nat} (hl:∀ j,l j < 256) (n:Int):(∀ j,j < 64→dlB (encB l n false 8) n j=l j)∧jk (kB (encB l n false 8) n) (kB (encB l n false 8) n).length=0∧jfix (kB (encB l n false 8) n)=0:=by
  have hb:∀ k,k < 8→bitX (wordR (encB l n false 8) (9 * k) 9) n=wdF l k 8∧bitK (wordR (encB l n false 8) (9 * k) 9) n=0:=fun k hk=>by
    rw [wordB l n false hk]
    exact bit_clean (wdF_lt hl k 8 (Nat.le_refl _)) n
  have hk:kB (encB l n false 8) n=[0,0,0,0,0,0,0,0]:=by
    unfold kB
    have h0:=(hb 0 (by decide)).2
    have h1:=(hb 1 (by decide)).2
    have h2:=(hb 2 (by decide)).2
    have h3:=(hb 3 (by decide)).2
    have h4:=(hb 4 (by decide)).2
    have h5:=(hb 5 (by decide)).2
    have h6:=(hb 6 (by decide)).2
    have h7:=(hb 7 (by decide)).2
    simp only [Nat.mul_zero,Nat.mul_one,Nat.reduceMul] at h0 h1 h2 h3 h4 h5 h6 h7
    rw [h0,h1,h2,h3,h4,h5,h6,h7]
  refine ⟨fun j hj=>?_,by rw [hk]; rfl,by rw [hk]; rfl⟩
  unfold dlB
  rw [hk,show decide (2≤((jk [0,0,0,0,0,0,0,0] [0,0,0,0,0,0,0,0].length:Nat):Int))=false from rfl,cond_false]
  unfold dcB fwF
  show bitX (wordR (encB l n false 8) (9 * (j / 8)) 9) n / 2 ^ (8 * (j % 8)) % 256=l j
  rw [(hb (j / 8) (by omega)).1,wd_at hl _ 8 _ (Nat.mod_lt _ (by decide)),show 8 * (j / 8) + j % 8=j by omega]
theorem encC_at (l:Nat→Nat) (n:Int) (b:Bool):∀ K k j,k < K→j < 36→encC l n b K (36 * k + j)=(cwC l n b k).getD j 0
  | 0,k,j,h,_=>absurd h (Nat.not_lt_zero _)
  | K + 1, k, j, h, hj => by
    rw [encC]
    unfold putN
    by_cases e:k=K
    · subst e
      rw [if_pos ⟨by omega,by omega⟩,show 36 * k + j - 36 * k=j by omega]
    · rw [if_neg (by omega)]
      exact encC_at l n b K k j (by omega) hj
theorem wordC (l:Nat→Nat) (n:Int) (b:Bool) {k:Nat} (hk:k < 2):wordR (encC l n b 2) (36 * k) 36=cwC l n b k:=by
  refine list_ext0 (by rw [wordR_len,cwC_len]) fun j hj=>?_
  rw [wordR_len] at hj
  rw [wordR_at,if_pos hj,encC_at l n b 2 k j hk hj]
theorem chip_clean {l:Nat→Nat} (hl:∀ j,l j < 256) (n:Int) (k:Nat):(∀ j,j < 32→chX (cwC l n false k) n j=hfF l k j)∧chK (cwC l n false k) n=0:=by
  have h:=syF_clean (w:=fun j=>(cwC l n false k).getD j 0) (hfF_lt hl k) (viF_lt n false) (fun j hj=>by
    show (cwC l n false k).getD j 0=_
    unfold cwC
    rw [gDapp,arL_len,if_pos hj,arL_at,if_pos hj,Nat.zero_add]) (fun j hj=>by
    show (cwC l n false k).getD (4 + j) 0=_
    unfold cwC
    rw [gDapp,arL_len,if_neg (by omega),arL_at,if_pos (by omega),Nat.zero_add,show 4 + j - 4=j by omega])
  exact ⟨h.2,by unfold chK chS; rw [if_pos h.1]⟩
theorem hf_at (l:Nat→Nat) (j:Nat):hfF l 0 j=l j∧hfF l 1 j=l (32 + j):=⟨rfl,rfl⟩
theorem chipsClean {l:Nat→Nat} (hl:∀ j,l j < 256) (n:Int):(∀ j,j < 64→dlC (encC l n false 2) n j=l j)∧jk (kC (encC l n false 2) n) (kC (encC l n false 2) n).length=0∧jfix (kC (encC l n false 2) n)=0:=by
  have w0:wordR (encC l n false 2) 0 36=cwC l n false 0:=wordC l n false (k:=0) (by decide)
  have w1:wordR (encC l n false 2) 36 36=cwC l n false 1:=wordC l n false (k:=1) (by decide)
  have h0:=chip_clean hl n 0
  have h1:=chip_clean hl n 1
  have hk:kC (encC l n false 2) n=[0,0]:=by
    unfold kC
    rw [w0,w1,h0.2,h1.2]
  refine ⟨fun j hj=>?_,by rw [hk]; rfl,by rw [hk]; rfl⟩
  unfold dlC
  rw [hk,show decide (2≤((jk [0,0] [0,0].length:Nat):Int))=false from rfl,cond_false]
  unfold dcC
  rw [w0,w1]
  unfold putN
  by_cases h:32≤j
  · rw [if_pos ⟨h,by omega⟩,h1.1 _ (by omega),(hf_at l _).2,show 32 + (j - 32)=j by omega]
  · rw [if_neg (by omega),if_pos ⟨Nat.zero_le _,by omega⟩,h0.1 _ (by omega),(hf_at l _).1,Nat.sub_zero]
theorem md1 (l r:Nat→Nat) (n:Int) (b:Bool):enc_v0 1 l n b=encB l n b 8∧dec_v0 1 r n=dlB r n∧dec_v1 1 r n=jk (kB r n) (kB r n).length∧dec_v2 1 r n=jfix (kB r n):=by
  unfold enc_v0 dec_v0 dec_v1 dec_v2
  rw [decide_eq_true (show (1:Int)=1 from rfl)]
  simp only [cond_true,and_self]
theorem md2 (l r:Nat→Nat) (n:Int) (b:Bool):enc_v0 2 l n b=encC l n b 2∧dec_v0 2 r n=dlC r n∧dec_v1 2 r n=jk (kC r n) (kC r n).length∧dec_v2 2 r n=jfix (kC r n):=by
  unfold enc_v0 dec_v0 dec_v1 dec_v2
  rw [decide_eq_false (show ¬ (2:Int)=1 by decide)]
  simp only [cond_false,and_self]
theorem dec_enc {m:Int} (hm:m=1 ∨ m=2) {l:Nat→Nat} (hl:∀ j,l j < 256) (n:Int):(∀ j,j < 64→dec_v0 m (enc_v0 m l n false) n j=l j)∧dec_v1 m (enc_v0 m l n false) n=0∧dec_v2 m (enc_v0 m l n false) n=0:=by
  rcases hm with rfl | rfl
  · rw [(md1 l l n false).1,(md1 l _ n false).2.1,(md1 l _ n false).2.2.1,(md1 l _ n false).2.2.2]; exact bitsClean hl n
  · rw [(md2 l l n false).1,(md2 l _ n false).2.1,(md2 l _ n false).2.2.1,(md2 l _ n false).2.2.2]; exact chipsClean hl n
end Go.Proofs.YtoflmffbkdekcaaGreat
