import Derived.Test.YtoflmffbkdekcaaGreatLQt
namespace Go.Proofs.YtoflmffbkdekcaaGreat
open Go Go.RowKit
set_option linter.unusedVariables false
set_option linter.unusedSimpArgs false
theorem wt_of {x k:Nat} (h1:clrs x k=0) (h2:∀ i,i < k→clrs x i ≠ 0):wt x=k:=by
  rcases Nat.lt_trichotomy (wt x) k with h | h | h
  · exact absurd (wt_end x) (h2 _ h)
  · exact h
  · exact absurd h1 (wt_ne h)
theorem wt_two (y:Nat):wt (2 * y)=wt y:=wt_of (by rw [clrs_two,wt_end]) fun i hi=>by rw [clrs_two]; have:=wt_ne hi; omega
theorem wt_odd (y:Nat):wt (2 * y + 1)=wt y + 1:=by
  refine wt_of (by rw [clrs_succ,clr_odd,clrs_two,wt_end]) fun i hi=>?_
  cases i with
  | zero=>rw [clrs]; omega
  | succ i=>rw [clrs_succ,clr_odd,clrs_two]; have:=wt_ne (x:=y) (i:=i) (by omega); omega
theorem wt_full:∀ {n x:Nat},x < 2 ^ n→wt x=n→x=2 ^ n - 1
  | 0,x,h,_=>by simp at h; subst h; rfl
  | n + 1, x, h, hw => by
    have hp:0 < 2 ^ n:=Nat.pos_of_ne_zero (by simp)
    have h1:x / 2 < 2 ^ n:=by rw [Nat.pow_succ] at h; omega
    have hl:=wt_le h1
    rcases Nat.mod_two_eq_zero_or_one x with h2 | h2
    · rw [show x=2 * (x / 2) by omega,wt_two] at hw; omega
    · have e:x=2 * (x / 2) + 1:=by omega
      rw [e,wt_odd] at hw
      have ih:=wt_full h1 (by omega)
      rw [Nat.pow_succ]; omega
theorem hv_one {n j:Nat} (h:j < n):hv (2 ^ n - 1) j % 2=1:=by
  have hp:0 < 2 ^ (n - j):=Nat.pos_of_ne_zero (by simp)
  have hq:0 < 2 ^ j:=Nat.pos_of_ne_zero (by simp)
  rw [hv_eq]
  have e:2 ^ n=2 ^ j * 2 ^ (n - j):=by rw [← Nat.pow_add]; congr 1; omega
  have e2:2 ^ n - 1=2 ^ j * (2 ^ (n - j) - 1) + (2 ^ j - 1):=by
    rw [Nat.mul_sub,Nat.mul_one,← e]
    have:2 ^ j≤2 ^ n:=Nat.pow_le_pow_right (by decide) (by omega)
    omega
  rw [e2,Nat.mul_add_div hq,Nat.div_eq_of_lt (by omega),Nat.add_zero]
  have e3:2 ^ (n - j)=2 * 2 ^ (n - j - 1):=by rw [Nat.mul_comm,← Nat.pow_succ]; congr 1; omega
  omega
theorem mg_full {a o:Nat→Nat} {m:Nat} (hm:m < 18446744073709551616) (hw:wt m=64) {j:Nat} (hj:j < 64):mgF a o m j=o j:=by
  have e:=wt_full (n:=64) hm hw
  unfold mgF
  rw [e,decide_eq_true (by have:=hv_one (n:=64) hj; omega)]; rfl
theorem QC.masked {c:Cfg} {id:Int→Nat→Nat} {s:CtlS} (hc:cfgRight_v0 c=true) (h:QC c id s) {n:Int} (hn:0≤n∧n < Ln c.ly) {l:List Nat} (bl:B8 l) {m:Nat} (hm:m ≠ 0) (hm2:m < 18446744073709551616) {x:Nat→Nat} (hx:∀ j,j < 64→mgF (id n) (lnOf l) m j=x j):QC c (upZ id n x) (cMasked_s s n l m)∧cMasked_v0 s n l m=0:=by
  obtain ⟨e3,e0,_⟩:=h.cat hc hn
  obtain ⟨t1,t2,t3,t4⟩:=h.take hc hn (cat_v1 s n) (cat_v2 s n)
  have z:decide ((((0:Nat)):Int)=0)=true:=rfl
  have hlt:∀ j,dec_v0 s.le.c.mode (vRead_v0 s.d (ixl c.ly n)) (ixl c.ly n) j < 256:=by
    obtain ⟨_,_,hat⟩:=h.cat hc hn
    obtain ⟨r1,_,_⟩:=read_0 h.la h.co hat
    obtain ⟨l',l1,l2,l3⟩:=h.cells n hn
    refine dec_lt fun j=>?_
    rw [r1,l3]
    exact enc_lt l1 j
  unfold cMasked_s cMasked_v0
  rw [e3,e0,t2,z,cond_true,cond_true,decide_eq_false (show ¬ ((m:Nat):Int)=0 by omega),cond_false,cond_false]
  cases hw:decide (((wt m:Nat):Int)=64) with
  | true =>
    have hw:=of_decide_eq_true hw
    exact ⟨h.put hc hn (lnOf_lt bl) fun j hj=>by rw [← hx j hj]; exact (mg_full hm2 (by omega) hj).symm,rfl⟩
  | false =>
    rw [cond_false,cond_false]
    refine ⟨?_,rfl⟩
    show QC c (upZ id n x) (cput_s (ctake_s s (ixl c.ly n) (cat_v1 s n) (cat_v2 s n)) (ixl c.ly n) (mgF (dec_v0 s.le.c.mode (vRead_v0 s.d (ixl c.ly n)) (ixl c.ly n)) (lnOf l) m) false)
    exact t1.put hc hn (mgF_lt hlt (lnOf_lt bl) m) fun j hj=>by rw [← hx j hj]; exact mg_ext (t4 j hj)
end Go.Proofs.YtoflmffbkdekcaaGreat
