import Derived.Test.YtoflmffbkdekcaaGreatFDec
namespace Go.Proofs.YtoflmffbkdekcaaGreat
open Go Go.RowKit
set_option linter.unusedVariables false
set_option linter.unusedSimpArgs false
set_option maxRecDepth 100000
theorem tw_xr:∀ a b:_root_.Fin 256,tw (xr a.1 b.1)=xr (tw a.1) (tw b.1):=by decide +kernel
theorem pw255:pw 255=1:=by decide +kernel
theorem pw_per:∀ i,pw (i + 255)=pw i
  | 0=>pw255
  | i + 1=>by
    rw [show i + 1 + 255=(i + 255) + 1 by omega]
    show tw (pw (i + 255))=tw (pw i)
    rw [pw_per i]
theorem pw_mod (i:Nat):pw (i % 255)=pw i:=by
  have key:∀ k j,pw (j + 255 * k)=pw j:=fun k=>by
    induction k with
    | zero=>intro j; rfl
    | succ k ih=>intro j; rw [show j + 255 * (k + 1)=(j + 255 * k) + 255 by omega,pw_per,ih]
  have h:=key (i / 255) (i % 255)
  rw [show i % 255 + 255 * (i / 255)=i by omega] at h
  exact h.symm
theorem pw_lg:∀ v:_root_.Fin 256,v.1 ≠ 0→pw (lg v.1)=v.1:=by decide +kernel
theorem lg_pw:∀ i:_root_.Fin 255,lg (pw i.1)=i.1∧pw i.1 ≠ 0:=by decide +kernel
theorem mul_pw (i j:Nat):mulF (pw i) (pw j)=pw (i + j):=by
  have hi:=lg_pw ⟨i % 255,Nat.mod_lt _ (by decide)⟩
  have hj:=lg_pw ⟨j % 255,Nat.mod_lt _ (by decide)⟩
  simp only at hi hj
  rw [pw_mod] at hi hj
  unfold mulF
  rw [if_neg hi.2,if_neg hj.2,hi.1,hj.1]
  have e:cu ((i % 255 + j % 255:Nat):Int)=(i + j) % 255:=by unfold cu; omega
  rw [e]
  unfold ex
  rw [if_pos (Nat.mod_lt _ (by decide)),pw_mod]
theorem mul_0 (a:Nat):mulF a 0=0∧mulF 0 a=0:=by
  unfold mulF; exact ⟨by rw [if_pos rfl,ite_self],if_pos rfl⟩
theorem pwOf {a:Nat} (h:a < 256) (h0:a ≠ 0):∃ i,a=pw i:=⟨lg a,(pw_lg ⟨a,h⟩ h0).symm⟩
theorem mul_comm' (a b:Nat):mulF a b=mulF b a:=by
  unfold mulF
  by_cases ha:a=0
  · rw [if_pos ha]; split <;> rfl
  · by_cases hb:b=0
    · rw [if_pos hb,if_pos hb,if_neg ha]
    · rw [if_neg ha,if_neg hb,if_neg ha,if_neg hb,Nat.add_comm]
theorem mul_assoc' {a b c:Nat} (ha:a < 256) (hb:b < 256) (hc:c < 256):mulF (mulF a b) c=mulF a (mulF b c):=by
  by_cases h1:a=0
  · subst h1; rw [(mul_0 _).2,(mul_0 _).2,(mul_0 _).2]
  by_cases h2:b=0
  · subst h2; rw [(mul_0 _).1,(mul_0 _).2,(mul_0 _).1]
  by_cases h3:c=0
  · subst h3; rw [(mul_0 _).1,(mul_0 _).1,(mul_0 _).1]
  obtain ⟨i,rfl⟩:=pwOf ha h1
  obtain ⟨j,rfl⟩:=pwOf hb h2
  obtain ⟨k,rfl⟩:=pwOf hc h3
  rw [mul_pw,mul_pw,mul_pw,mul_pw,Nat.add_assoc]
theorem mul_one' {a:Nat} (h:a < 256):mulF a 1=a∧mulF 1 a=a:=by
  have e:mulF a 1=a:=by
    by_cases h1:a=0
    · subst h1; exact (mul_0 _).2
    · obtain ⟨i,rfl⟩:=pwOf h h1
      exact mul_pw i 0
  exact ⟨e,by rw [mul_comm']; exact e⟩
def twN:Nat→Nat→Nat
  | 0,b=>b
  | i + 1,b=>tw (twN i b)
theorem twN_lt {b:Nat} (h:b < 256):∀ i,twN i b < 256
  | 0=>h
  | i + 1=>tw_lt (twN_lt h i)
theorem twN_xr {a b:Nat} (ha:a < 256) (hb:b < 256):∀ i,twN i (xr a b)=xr (twN i a) (twN i b)
  | 0=>rfl
  | i + 1=>by rw [twN,twN,twN,twN_xr ha hb i]; exact tw_xr ⟨_,twN_lt ha i⟩ ⟨_,twN_lt hb i⟩
theorem twN_pw (j:Nat):∀ i,twN i (pw j)=pw (i + j)
  | 0=>by rw [twN,Nat.zero_add]
  | i + 1=>by rw [twN,twN_pw j i,show i + 1 + j=(i + j) + 1 by omega]; rfl
theorem twN_0:∀ i,twN i 0=0
  | 0=>rfl
  | i + 1=>by rw [twN,twN_0 i]; rfl
theorem mul_tw {b:Nat} (h:b < 256) (i:Nat):mulF (pw i) b=twN i b:=by
  by_cases h1:b=0
  · subst h1; rw [(mul_0 _).1,twN_0]
  · obtain ⟨j,rfl⟩:=pwOf h h1
    rw [mul_pw,twN_pw]
theorem mul_xr {a b c:Nat} (ha:a < 256) (hb:b < 256) (hc:c < 256):mulF a (xr b c)=xr (mulF a b) (mulF a c):=by
  by_cases h1:a=0
  · subst h1; rw [(mul_0 _).2,(mul_0 _).2,(mul_0 _).2]; rfl
  · obtain ⟨i,rfl⟩:=pwOf ha h1
    rw [mul_tw (xr_lt hb hc),mul_tw hb,mul_tw hc,twN_xr hb hc]
theorem xr_mul {a b c:Nat} (ha:a < 256) (hb:b < 256) (hc:c < 256):mulF (xr a b) c=xr (mulF a c) (mulF b c):=by
  rw [mul_comm',mul_xr hc ha hb,mul_comm' c a,mul_comm' c b]
theorem xr_c (a b:Nat):xr a b=xr b a:=Nat.xor_comm a b
theorem xr_a (a b c:Nat):xr (xr a b) c=xr a (xr b c):=Nat.xor_assoc a b c
theorem xr_0 (a:Nat):xr a 0=a∧xr 0 a=a:=⟨Nat.xor_zero a,Nat.zero_xor a⟩
def xp (x:Nat):Nat→Nat
  | 0=>1
  | n + 1=>mulF (xp x n) x
theorem xp_lt (x:Nat):∀ n,xp x n < 256
  | 0=>(by decide:(1:Nat) < 256)
  | n + 1=>mulF_lt _ _
theorem xp_add {x:Nat} (hx:x < 256) (a:Nat):∀ b,xp x (a + b)=mulF (xp x a) (xp x b)
  | 0=>(mul_one' (xp_lt x a)).1.symm
  | b + 1=>by rw [show a + (b + 1)=(a + b) + 1 by omega,xp,xp,xp_add hx a b,mul_assoc' (xp_lt x a) (xp_lt x b) hx]
theorem evl_set {l : List Nat} (hl : B8 l) {x d k : Nat} (hx : x < 256) (hd : d < 256) (hk : k < l.length) : ∀ i, i ≤ l.length →
    evlP (l.set k (xr (l.getD k 0) d)) x i=if l.length - i≤k then xr (evlP l x i) (mulF d (xp x (k - (l.length - i)))) else evlP l x i
  | 0,_=>by rw [if_neg (by omega)]; rfl
  | i + 1, h => by
    have ih:=evl_set hl hx hd hk i (by omega)
    rw [evlP,evlP,ih,List.length_set,gDset]
    by_cases h1:k=l.length - 1 - i
    · subst h1
      rw [if_neg (by omega),if_pos ⟨rfl,by omega⟩,if_pos (by omega),show l.length - 1 - i - (l.length - (i + 1))=0 by omega]
      rw [xp,(mul_one' hd).1,xr_a]
    · rw [if_neg (show ¬ (k=l.length - 1 - i∧k < l.length) by omega)]
      by_cases h2:l.length - i≤k
      · rw [if_pos h2,if_pos (by omega),show k - (l.length - (i + 1))=(k - (l.length - i)) + 1 by omega,xp]
        rw [xr_mul (evlP_lt hl x i) (mulF_lt _ _) hx,mul_assoc' hd (xp_lt x _) hx,xr_a,xr_a,xr_c (mulF d _)]
      · rw [if_neg h2,if_neg (by omega)]
theorem evl_put {l:List Nat} (hl:B8 l) {x d k:Nat} (hx:x < 256) (hd:d < 256) (hk:k < l.length) :
    evlP (l.set k (xr (l.getD k 0) d)) x l.length=xr (evlP l x l.length) (mulF d (xp x k)):=by
  rw [evl_set hl hx hd hk _ (Nat.le_refl _),if_pos (by omega),Nat.sub_self,Nat.sub_zero]
theorem evl_ext {l m:List Nat} (h1:l.length=m.length) (h2:∀ j,l.getD j 0=m.getD j 0) (x:Nat):∀ i,evlP l x i=evlP m x i
  | 0=>rfl
  | i + 1=>by rw [evlP,evlP,evl_ext h1 h2 x i,h1,h2]
def lowV (b:List Nat) (x:Nat):Nat→Nat
  | 0=>0
  | k + 1=>xr (lowV b x k) (mulF (b.getD k 0) (xp x k))
theorem lowV_lt (b:List Nat) (x:Nat):∀ k,lowV b x k < 256
  | 0=>(by decide:(0:Nat) < 256)
  | k + 1=>xr_lt (lowV_lt b x k) (mulF_lt _ _)
theorem evl_mdi {b o:List Nat} (hb:B8 b) (ho:B8 o) {A e x:Nat} (hA:A < 256) (hx:x < 256):∀ k,e + k≤o.length→evlP (mdi b o A e k) x o.length=xr (evlP o x o.length) (mulF (mulF A (xp x e)) (lowV b x k))
  | 0,_=>by rw [lowV,(mul_0 _).1,(xr_0 _).1]; rfl
  | k + 1,h=>by
    have ih:=evl_mdi (e:=e) hb ho hA hx k (by omega)
    have h1:=evl_put (l:=mdi b o A e k) (mdi_B8 ho k) (x:=x) (d:=mulF A (b.getD k 0)) (k:=e + k) hx (mulF_lt _ _) (by rw [mdi_len]; omega)
    rw [mdi_len] at h1
    rw [mdi,h1,ih,lowV,mul_xr (mulF_lt _ _) (lowV_lt b x k) (mulF_lt _ _),xr_a]
    congr 2
    rw [xp_add hx,mul_assoc' hA (hb k) (mulF_lt _ _),mul_assoc' hA (xp_lt x e) (mulF_lt _ _)]
    congr 1
    rw [← mul_assoc' (hb k) (xp_lt x e) (xp_lt x k),mul_comm' (b.getD k 0) (xp x e),mul_assoc' (xp_lt x e) (hb k) (xp_lt x k)]
end Go.Proofs.YtoflmffbkdekcaaGreat
