import Derived.Test.YtoflmffbkdekcaaGreatJHd
import Derived.Test.YtoflmffbkdekcaaGreatJLk
namespace Go.Proofs.YtoflmffbkdekcaaGreat
open Go Go.RowKit
set_option linter.unusedVariables false
set_option linter.unusedSimpArgs false
structure SrvQ (s:MchS):Prop where
  k:∀ x ∈ s.srv,x.step.kind=1→x.step.mask=0
  r:∀ x ∈ s.srv,x.step.kind=1 ∨ x.step.kind=2 ∨ x.step.kind=3
  o:List.Pairwise (fun a b:Srv=>a.last≤b.first) s.srv
theorem SrvQ.ext {s t:MchS} (h:SrvQ s) (e:t.srv=s.srv):SrvQ t:=⟨by rw [e]; exact h.k,by rw [e]; exact h.r,by rw [e]; exact h.o⟩
theorem SrvQ.add {s t:MchS} {y:Srv} (h:SrvQ s) (hi:SrvIn s) (e:t.srv=s.srv ++ [y]) (h1:y.first=((s.c.d.l.length:Nat):Int)) (h2:y.step.kind=1→y.step.mask=0) (h3:y.step.kind=1 ∨ y.step.kind=2 ∨ y.step.kind=3):SrvQ t:=by
  refine ⟨fun x hx=>?_,fun x hx=>?_,?_⟩
  · rw [e] at hx
    rcases List.mem_append.1 hx with hx | hx
    · exact h.k x hx
    · rcases List.mem_singleton.1 hx with rfl; exact h2
  · rw [e] at hx
    rcases List.mem_append.1 hx with hx | hx
    · exact h.r x hx
    · rcases List.mem_singleton.1 hx with rfl; exact h3
  · rw [e]
    refine List.pairwise_append.2 ⟨h.o,List.pairwise_singleton _ _,fun a ha b hb=>?_⟩
    rcases List.mem_singleton.1 hb with rfl
    rw [h1]; exact (hi a ha).2.2.1
theorem sright_k {k ln:Int} {d:Nat→Nat} {m:Nat} {f0 f1 f2 f3 f4 f5 f6 f7:Int} (h:sright_v0 k ln d m f0 f1 f2 f3 f4 f5 f6 f7=true):1≤k∧k≤8∧(k=1→m=0):=by
  unfold sright_v0 at h
  cases h1:decide (k < 1) with
  | true=>rw [h1] at h; cases h
  | false =>
  cases h2:decide (8 < k) with
  | true=>rw [h1,h2] at h; cases h
  | false =>
  rw [h1,h2] at h
  have h1:=of_decide_eq_false h1
  have h2:=of_decide_eq_false h2
  refine ⟨by omega,by omega,fun e=>?_⟩
  subst e
  cases h3:decide (((m:Nat):Int)=(((sbare_v2 1 ln d m f0 f1 f2 f3 f4 f5 f6 f7):Nat):Int)) with
  | true=>have h3:=of_decide_eq_true h3; have e:sbare_v2 1 ln d m f0 f1 f2 f3 f4 f5 f6 f7=0:=rfl; omega
  | false=>rw [h3] at h; revert h; simp
theorem stpRight_k {x:Stp} (h:stpRight x=true) (h4:decide (x.kind=4)=false) (h5:decide (x.kind=5)=false) (h6:decide (x.kind=6)=false) (h7:decide (x.kind=7)=false) (h8:decide (x.kind=8)=false):(x.kind=1→x.mask=0)∧(x.kind=1 ∨ x.kind=2 ∨ x.kind=3):=by
  unfold stpRight at h
  rw [h8] at h
  obtain ⟨a,b,c⟩:=sright_k h
  have h4:=of_decide_eq_false h4
  have h5:=of_decide_eq_false h5
  have h6:=of_decide_eq_false h6
  have h7:=of_decide_eq_false h7
  have h8:=of_decide_eq_false h8
  exact ⟨c,by omega⟩
theorem mRequest_q {s:MchS} {x:Stp} (h:SrvQ s) (hi:SrvIn s) (h2:x.kind=1→x.mask=0) (h3:x.kind=1 ∨ x.kind=2 ∨ x.kind=3):SrvQ (mRequest_s s x):=by
  unfold mRequest_s
  exact bifP (bifP (h.ext rfl) (h.add hi rfl rfl h2 h3)) (bifP (bifP (h.ext rfl) (h.add hi rfl rfl h2 h3)) (bifP (h.ext rfl) (h.add hi rfl rfl h2 h3)))
theorem mDo_q {s:MchS} {x:Stp} (h:SrvQ s) (hi:SrvIn s):SrvQ (mDo_s s x):=by
  have hj:SrvQ (mInject_s { s with steps:=IntKind.i64.wrap (s.steps + 1) } x.f):=by
    unfold mInject_s
    exact bifP (h.ext rfl) (h.ext rfl)
  unfold mDo_s
  cases h0:stpRight x with
  | false=>exact h
  | true =>
  cases h4:decide (x.kind=4) with
  | true=>exact h.ext rfl
  | false =>
  cases h5:decide (x.kind=5) with
  | true=>exact h.ext rfl
  | false =>
  cases h6:decide (x.kind=6) with
  | true=>exact h.ext rfl
  | false =>
  cases h7:decide (x.kind=7) with
  | true=>exact h.ext rfl
  | false =>
  cases h8:decide (x.kind=8) with
  | true=>exact hj
  | false =>
    have hk:=stpRight_k h0 h4 h5 h6 h7 h8
    exact mRequest_q (s:={ s with steps:=IntKind.i64.wrap (s.steps + 1) }) ⟨h.k,h.r,h.o⟩ hi hk.1 hk.2
theorem mrS_q {s:MchS} {l:List Stp} (h:SrvQ s) (hi:SrvIn s) (hl:∀ x ∈ l,StpOk x):∀ i,i≤l.length→SrvQ (mrS s l i)
  | 0,_=>h
  | i + 1,hn=>mDo_q (mrS_q h hi hl i (Nat.le_of_succ_le hn)) (mrS_srv hi hl i (Nat.le_of_succ_le hn))
theorem mPl_q {c:Cfg} {l:List Stp} (hl:∀ x ∈ l,StpOk x):SrvQ (mPl c l) :=
  mrS_q ⟨fun x hx=>(by cases hx),fun x hx=>(by cases hx),List.Pairwise.nil⟩ (mNewM_srv c) hl _ (Nat.le_refl _)
def ansS (x:Srv):Bool:=bif (decide (x.step.kind=1)) then (eqA (nf x.ans.line) (nf x.want) 64 0) else true
def sub25 (l:List Acc) (a b:Int):List Acc:=(l.drop a.toNat).take (b.toNat - a.toNat)
def fjR (l:List Srv):Nat→Bool
  | 0=>true
  | i + 1=>bif (fjR l i) then (bif (decide ((l.getD i eSrv0).ans.e=0)) then (ansS (l.getD i eSrv0)) else false) else false
def frR (l:List Srv) (x:Srv):Nat→Int
  | 0=>0
  | j + 1=>bif (bif (decide ((l.getD j eSrv0).step.line=x.step.line)) then (bif (decide ((l.getD j eSrv0).step.kind=2)) then true else (decide ((((l.getD j eSrv0).step.mask:Nat):Int)=18446744073709551615))) else false) then (l.getD j eSrv0).first else (frR l x j)
def hoA (x:Srv) (w:Bool):Bool:=bif w then (bif (decide (x.ans.e=0)) then (bif (ansS x) then true else false) else (eqA (nf x.ans.line) (fun _=>0) 64 0)) else false
def hoB (m:Int) (l:List Acc) (x:Srv) (w:Bool):Bool:=bif (bif (decide (x.step.kind=1)) then (decide (x.ans.e=0)) else false) then (bif (hoA x w) then (decide ((rsee m (sub25 l x.first x.last) (sub25 l x.first x.last).length).exp < 2)) else false) else (hoA x w)
def hoR (m:Int) (s:MchS):Nat→Bool
  | 0=>true
  | i + 1=>hoB m s.c.d.l (s.srv.getD i eSrv0) (hoR m s i)
def eaB (m:Int) (l:List Acc) (x:Srv) (from':Int) (w:Bool):Bool:=bif w then (bif (decide (x.ans.e=0)) then true else (bif (rsee m (sub25 l from' x.last) (sub25 l from' x.last).length).astray then true else (decide (1 < (rsee m (sub25 l from' x.last) (sub25 l from' x.last).length).exp)))) else false
def eaR (m:Int) (s:MchS):Nat→Bool
  | 0=>true
  | i + 1=>eaB m s.c.d.l (s.srv.getD i eSrv0) (frR (gaT eSrv0 s.srv i) (s.srv.getD i eSrv0) i) (eaR m s i)
theorem boolEq {a b:Bool} (h:a=true ↔ b=true):(a == b)=true:=by
  cases a <;> cases b <;> simp at h ⊢
theorem ff_iff {p:Nat→Bool} {n:Nat}:(bif decide (((ff p n:Nat):Int) < ((n:Nat):Int)) then false else true)=true ↔ ∀ i,i < n→p i=false :=
  ⟨fun h i hi=>ff_end h hi,ff_say⟩
theorem all_iff {p q:Nat→Bool} (h0:q 0=true) {n:Nat} (h:∀ i,i < n→(q (i + 1)=true ↔ q i=true∧p i=false)):q n=true ↔ ∀ i,i < n→p i=false:=by
  induction n with
  | zero=>exact ⟨fun _ i hi=>by omega,fun _=>h0⟩
  | succ n ih =>
    rw [h n (by omega),ih fun i hi=>h i (by omega)]
    constructor
    · rintro ⟨h1,h2⟩ i hi
      rcases Nat.lt_or_ge i n with h3 | h3
      · exact h1 i h3
      · rw [show i=n by omega]; exact h2
    · exact fun h1=>⟨fun i hi=>h1 i (by omega),h1 n (by omega)⟩
theorem faithful_eq (s:MchS):(jFaithful_v0 s == fjR s.srv s.srv.length)=true:=by
  refine boolEq (ff_iff.trans (all_iff (p:=fun i=>jbad (s.srv.getD i eSrv0)) (q:=fjR s.srv) rfl fun i hi=>?_).symm)
  show (bif fjR s.srv i then (bif decide ((s.srv.getD i eSrv0).ans.e=0) then ansS (s.srv.getD i eSrv0) else false) else false)=true ↔ fjR s.srv i=true∧jbad (s.srv.getD i eSrv0)=false
  unfold jbad ansS jgt_v0
  cases fjR s.srv i <;> cases decide ((s.srv.getD i eSrv0).ans.e=0) <;> cases decide ((s.srv.getD i eSrv0).step.kind=1) <;> cases eqA (nf (s.srv.getD i eSrv0).ans.line) (nf (s.srv.getD i eSrv0).want) 64 0 <;> simp
theorem see_at {s:MchS} {m:Int} (hm:m=1 ∨ m=2) (e:m=s.c.d.d.mode) {a b:Int} (h0:0≤a) (h1:a≤b) (h2:b≤((s.c.d.l.length:Nat):Int)):rsee m (sub25 s.c.d.l a b) (sub25 s.c.d.l a b).length=jAt_r s a b:=by
  subst e
  unfold sub25
  rw [rsee_part hm _ (by omega)]
  unfold jAt_r jcnt
  rw [show min s.c.d.l.length b.toNat=b.toNat by omega]
theorem honest_eq {s:MchS} (hi:SrvIn s) {m:Int} (hm:m=1 ∨ m=2) (e:m=s.c.d.d.mode):(jHonest_v0 s == hoR m s s.srv.length)=true:=by
  refine boolEq (ff_iff.trans (all_iff (p:=fun i=>hbad s (s.srv.getD i eSrv0)) (q:=hoR m s) rfl fun i h=>?_).symm)
  obtain ⟨k0,k1,k2,_⟩:=hi _ (gDm eSrv0 h)
  show hoB m s.c.d.l (s.srv.getD i eSrv0) (hoR m s i)=true ↔ hoR m s i=true∧hbad s (s.srv.getD i eSrv0)=false
  unfold hoB hoA hbad ansS jgt_v0
  rw [see_at hm e k0 k1 k2]
  have ez:(nf (fun _=>0):Nat→Int)=fun _=>0:=rfl
  rw [ez]
  have hx:decide ((jAt_r s (s.srv.getD i eSrv0).first (s.srv.getD i eSrv0).last).exp < 2)=!decide (1 < (jAt_r s (s.srv.getD i eSrv0).first (s.srv.getD i eSrv0).last).exp):=by
    by_cases h:(jAt_r s (s.srv.getD i eSrv0).first (s.srv.getD i eSrv0).last).exp < 2
    · rw [decide_eq_true h,decide_eq_false (by omega)]; rfl
    · rw [decide_eq_false h,decide_eq_true (by omega)]; rfl
  rw [hx]
  cases hoR m s i <;> cases decide ((s.srv.getD i eSrv0).ans.e=0) <;> cases decide ((s.srv.getD i eSrv0).step.kind=1) <;> cases eqA (nf (s.srv.getD i eSrv0).ans.line) (nf (s.srv.getD i eSrv0).want) 64 0 <;> simp
theorem wt_full:∀ {n x:Nat},x < 2 ^ n→(wt x=n ↔ x + 1=2 ^ n)
  | 0,x,h=>by
    have:x=0:=by simpa using h
    subst this
    exact ⟨fun _=>rfl,fun _=>rfl⟩
  | n + 1, x, h => by
    have h1:x / 2 < 2 ^ n:=by rw [Nat.pow_succ] at h; omega
    have ih:=wt_full h1
    have hw:=wt_half x
    have hl:=wt_le h1
    rw [Nat.pow_succ] at h ⊢
    constructor
    · intro e
      have:wt (x / 2)=n:=by omega
      have:=ih.1 this
      omega
    · intro e
      have:=ih.2 (by omega)
      omega
theorem gaT_getD {α:Type} (d:α) (l:List α) {n j:Nat} (h:j < n) (hn:n≤l.length):(gaT d l n).getD j d=l.getD j d:=by
  rw [gaT_eq d l n hn,List.getD_eq_getElem?_getD,List.getD_eq_getElem?_getD,List.getElem?_take,if_pos h]
theorem fr_eq {s : MchS} (hi : SrvIn s) (hq : SrvQ s) {i : Nat} (hn : i ≤ s.srv.length) (x : Srv) : ∀ j, j ≤ i → frR (gaT eSrv0 s.srv i) x j = efr s.srv j x.step.line
  | 0,_=>rfl
  | j + 1, h => by
    have ih:=fr_eq hi hq hn x j (by omega)
    rw [frR,ih,gaT_getD _ _ (by omega) hn,efr]
    have hj:j < s.srv.length:=by omega
    have hm:=(hi _ (gDm eSrv0 hj)).2.2.2
    have hk:=hq.k _ (gDm eSrv0 hj)
    have hr:=hq.r _ (gDm eSrv0 hj)
    generalize s.srv.getD j eSrv0=y at hm hk hr ⊢
    have hw : (bif decide (y.step.kind = 2) then true else decide (((y.step.mask : Nat) : Int) = 18446744073709551615)) = jwhole_v0 y.step := by
      unfold jwhole_v0
      cases h2:decide (y.step.kind=2) with
      | true=>rfl
      | false =>
        have h2:=of_decide_eq_false h2
        have hf:=wt_full (n:=64) (x:=y.step.mask) (by omega)
        rcases hr with h1 | h1 | h1
        · rw [decide_eq_false (show ¬ y.step.kind=3 by omega)]
          rw [hk h1]; rfl
        · exact absurd h1 h2
        · rw [decide_eq_true h1]
          show decide _=decide _
          by_cases e:wt y.step.mask=64
          · have:=hf.1 e
            rw [decide_eq_true (show ((y.step.mask:Nat):Int)=18446744073709551615 by omega),decide_eq_true (show ((wt y.step.mask:Nat):Int)=64 by omega)]
          · have h3:¬ y.step.mask + 1=2 ^ 64:=fun h=>e (hf.2 h)
            rw [decide_eq_false (show ¬ ((y.step.mask:Nat):Int)=18446744073709551615 by omega),decide_eq_false (show ¬ ((wt y.step.mask:Nat):Int)=64 by omega)]
    rw [hw]
    cases jwhole_v0 y.step with
    | false=>cases decide (y.step.line=x.step.line) <;> rfl
    | true =>
      show (bif (bif decide (y.step.line=x.step.line) then true else false) then _ else _)=upZ (efr s.srv j) y.step.line y.first x.step.line
      unfold upZ
      by_cases e:y.step.line=x.step.line
      · rw [decide_eq_true e,if_pos e.symm]; rfl
      · rw [decide_eq_false e,if_neg fun h=>e h.symm]; rfl
theorem efr_in {s:MchS} (hi:SrvIn s) (hq:SrvQ s) (k:Int) {i:Nat} (h:i < s.srv.length):∀ j,j≤i→0≤efr s.srv j k∧efr s.srv j k≤(s.srv.getD i eSrv0).first
  | 0,_=>⟨Int.le_refl _,(hi _ (gDm eSrv0 h)).1⟩
  | j + 1, hj => by
    have ih:=efr_in hi hq k h j (by omega)
    have hjl:j < s.srv.length:=by omega
    have h1:=hi _ (gDm eSrv0 hjl)
    have h2:(s.srv.getD j eSrv0).last≤(s.srv.getD i eSrv0).first:=by
      have:=List.pairwise_iff_getElem.1 hq.o j i hjl h (by omega)
      rw [List.getD_eq_getElem?_getD,List.getD_eq_getElem?_getD,List.getElem?_eq_getElem hjl,List.getElem?_eq_getElem h]
      exact this
    rw [efr]
    cases jwhole_v0 (s.srv.getD j eSrv0).step with
    | false=>exact ih
    | true =>
      show 0≤upZ (efr s.srv j) _ _ k∧upZ (efr s.srv j) _ _ k≤_
      unfold upZ
      split
      · exact ⟨h1.1,Int.le_trans h1.2.1 h2⟩
      · exact ih
theorem srv_cut {s:MchS} (hi:SrvIn s) {i:Nat} (h:i < s.srv.length):(s.srv.getD i eSrv0).first.toNat + ((s.srv.getD i eSrv0).last.toNat - (s.srv.getD i eSrv0).first.toNat)≤s.c.d.l.length ∧
    (s.srv.getD i eSrv0).first=(((s.srv.getD i eSrv0).first.toNat:Nat):Int)∧(s.srv.getD i eSrv0).last=(((s.srv.getD i eSrv0).first.toNat + ((s.srv.getD i eSrv0).last.toNat - (s.srv.getD i eSrv0).first.toNat):Nat):Int):=by
  obtain ⟨h0,h1,h2,_⟩:=hi _ (gDm eSrv0 h)
  omega
theorem fr_cut {s:MchS} (hi:SrvIn s) (hq:SrvQ s) {i:Nat} (h:i < s.srv.length):(frR (gaT eSrv0 s.srv i) (s.srv.getD i eSrv0) i).toNat + ((s.srv.getD i eSrv0).last.toNat - (frR (gaT eSrv0 s.srv i) (s.srv.getD i eSrv0) i).toNat)≤s.c.d.l.length ∧
    (frR (gaT eSrv0 s.srv i) (s.srv.getD i eSrv0) i)=(((frR (gaT eSrv0 s.srv i) (s.srv.getD i eSrv0) i).toNat:Nat):Int) ∧
    (s.srv.getD i eSrv0).last=(((frR (gaT eSrv0 s.srv i) (s.srv.getD i eSrv0) i).toNat + ((s.srv.getD i eSrv0).last.toNat - (frR (gaT eSrv0 s.srv i) (s.srv.getD i eSrv0) i).toNat):Nat):Int):=by
  obtain ⟨h0,h1,h2,_⟩:=hi _ (gDm eSrv0 h)
  rw [fr_eq hi hq (by omega) _ i (Nat.le_refl _)]
  obtain ⟨h3,h4⟩:=efr_in hi hq (s.srv.getD i eSrv0).step.line h i (Nat.le_refl _)
  omega
theorem earned_eq {s:MchS} (hi:SrvIn s) (hq:SrvQ s) {m:Int} (hm:m=1 ∨ m=2) (e:m=s.c.d.d.mode):(jEarned_v0 s == eaR m s s.srv.length)=true:=by
  refine boolEq (ff_iff.trans (all_iff (p:=ebad s) (q:=eaR m s) rfl fun i h=>?_).symm)
  obtain ⟨k0,k1,k2,_⟩:=hi _ (gDm eSrv0 h)
  obtain ⟨h3,h4⟩:=efr_in hi hq (s.srv.getD i eSrv0).step.line h i (Nat.le_refl _)
  show eaB m s.c.d.l (s.srv.getD i eSrv0) (frR (gaT eSrv0 s.srv i) (s.srv.getD i eSrv0) i) (eaR m s i)=true ↔ eaR m s i=true∧ebad s i=false
  unfold eaB ebad
  rw [fr_eq hi hq (by omega) _ i (Nat.le_refl _),see_at hm e h3 (by omega) k2]
  generalize jAt_r s (efr s.srv i (s.srv.getD i eSrv0).step.line) (s.srv.getD i eSrv0).last=k
  have hx:decide (1 < k.exp)=!decide (k.exp < 2):=by
    by_cases h:k.exp < 2
    · rw [decide_eq_true h,decide_eq_false (by omega)]; rfl
    · rw [decide_eq_false h,decide_eq_true (by omega)]; rfl
  rw [hx]
  cases eaR m s i <;> cases decide ((s.srv.getD i eSrv0).ans.e=0) <;> cases k.astray <;> cases decide (k.exp < 2) <;> simp
end Go.Proofs.YtoflmffbkdekcaaGreat
