import Derived.Test.YtoflmffbkdekcaaGreatFJS
import Derived.Test.YtoflmffbkdekcaaGreatJAns
namespace Go.Proofs.YtoflmffbkdekcaaGreat
open Go Go.RowKit
set_option linter.unusedVariables false
set_option linter.unusedSimpArgs false
def InjQ (s:MchS):Prop:=∀ x ∈ s.inj,1≤x.f.kind∧x.f.kind≤7
theorem InjQ.ext {s t:MchS} (h:InjQ s) (e:t.inj=s.inj):InjQ t:=by unfold InjQ; rw [e]; exact h
theorem mInject_q {s:MchS} {f:Flt} (h:InjQ s) (hm:s.c.d.d.mode=1 ∨ s.c.d.d.mode=2):InjQ (mInject_s s f):=by
  unfold mInject_s
  cases h0:decide ((dInject_v0 s.c.d.d f)=0) with
  | false=>exact h.ext rfl
  | true =>
    intro x hx
    have hx:x ∈ s.inj ++ [(⟨f,s.scrubs,((s.c.d.l.length:Nat):Int)⟩:Inj)]:=hx
    rcases List.mem_append.1 hx with hx | hx
    · exact h x hx
    · rcases List.mem_singleton.1 hx with rfl
      have h0:=of_decide_eq_true h0
      unfold dInject_v0 at h0
      cases hr:fright_v0 s.c.d.d.mode f s.c.d.d.g with
      | false=>rw [hr,cond_false] at h0; exact absurd h0 (by decide)
      | true=>exact (fright_t hm hr).1
theorem mRequest_i {s:MchS} {x:Stp} (h:InjQ s):InjQ (mRequest_s s x):=by
  unfold mRequest_s
  exact bifP (bifP (h.ext rfl) (h.ext rfl)) (bifP (bifP (h.ext rfl) (h.ext rfl)) (bifP (h.ext rfl) (h.ext rfl)))
theorem mDo_i {s:MchS} {x:Stp} (h:InjQ s) (hm:s.c.d.d.mode=1 ∨ s.c.d.d.mode=2):InjQ (mDo_s s x):=by
  have hj:InjQ (mInject_s { s with steps:=IntKind.i64.wrap (s.steps + 1) } x.f):=mInject_q (s:={ s with steps:=IntKind.i64.wrap (s.steps + 1) }) h hm
  have hr:InjQ (mRequest_s { s with steps:=IntKind.i64.wrap (s.steps + 1) } x):=mRequest_i (s:={ s with steps:=IntKind.i64.wrap (s.steps + 1) }) h
  unfold mDo_s
  exact bifP (bifP (h.ext rfl) (bifP (h.ext rfl) (bifP (h.ext rfl) (bifP (h.ext rfl) (bifP hj hr))))) h
theorem mPl_i {c:Cfg} (hm:c.mode=1 ∨ c.mode=2) (l:List Stp):InjQ (mPl c l):=by
  have key:∀ i,InjQ (mrS (mNewM_s c) l i):=fun i=>by
    induction i with
    | zero=>exact fun x hx=>by cases hx
    | succ i ih =>
      refine mDo_i ih ?_
      have h1:=mrS_x (mNewM_s c) l 0 i
      rw [Nat.zero_add] at h1
      rw [h1.d.m]
      show (ctlN c).d.d.mode=1 ∨ (ctlN c).d.d.mode=2
      rw [(ctlN_x c).m]
      exact hm
  exact key _
theorem swI_iff {m n : Int} {l : List Inj} {x : Inj} {w : Bool} : ∀ k, swI m n l x w k = true ↔ w = true ∧ ∀ j, j < k → (bif (lclash_v0 m (l.getD j eInj0).f x.f) then (bif decide ((l.getD j eInj0).f.kind = 1) then (decide (n ≤ IntKind.i64.wrap (x.scrubs - (l.getD j eInj0).scrubs))) else false) else true) = true
  | 0=>⟨fun h=>⟨h,fun j hj=>by omega⟩,fun h=>h.1⟩
  | k + 1 => by
    have ih:=swI_iff (m:=m) (n:=n) (l:=l) (x:=x) (w:=w) k
    rw [swI]
    cases h:swI m n l x w k with
    | false =>
      rw [h] at ih
      constructor
      · intro h; cases h
      · intro h1
        have:=ih.2 ⟨h1.1,fun j hj=>h1.2 j (by omega)⟩
        cases this
    | true =>
      rw [h] at ih
      have ih:=ih.1 rfl
      constructor
      · intro h1
        refine ⟨ih.1,fun j hj=>?_⟩
        rcases Nat.lt_or_ge j k with h2 | h2
        · exact ih.2 j h2
        · rw [show j=k by omega]; exact h1
      · intro h1; exact h1.2 k (by omega)
theorem pl_eq {g:Gm} (h:g.right=true):plG g=plN g:=by
  have hr:=Gm.rt h
  unfold plG plN perRank_v0
  rw [h]
  simp only [cond_true]
  obtain ⟨⟨a1,a2⟩,⟨b1,b2⟩,⟨c1,c2⟩,⟨d1,d2⟩,e1,e2⟩:=hr
  have p1:1≤g.banks * g.rows∧g.banks * g.rows≤16 * 1024:=⟨by have:=Int.mul_le_mul c1 d1 (by omega) (by omega); omega,Int.mul_le_mul c2 d2 (by omega) (by omega)⟩
  have p2:1≤g.banks * g.rows * g.cols∧g.banks * g.rows * g.cols≤16 * 1024 * 64:=⟨by have:=Int.mul_le_mul p1.1 e1 (by omega) (by omega); omega,Int.mul_le_mul p1.2 e2 (by omega) (by omega)⟩
  have p3:0≤(g.ranks + g.spares) * g.banks∧(g.ranks + g.spares) * g.banks≤8 * 16:=⟨Int.mul_nonneg (by omega) (by omega),Int.mul_le_mul b2 c2 (by omega) (by omega)⟩
  have p4:0≤(g.ranks + g.spares) * g.banks * g.rows∧(g.ranks + g.spares) * g.banks * g.rows≤8 * 16 * 1024:=⟨Int.mul_nonneg p3.1 (by omega),Int.mul_le_mul p3.2 d2 (by omega) (by omega)⟩
  rw [wrap_ok (x:=g.ranks + g.spares) (by omega) (by omega),wrap_ok (x:=g.banks * g.rows) (by omega) (by omega),wrap_ok (x:=g.banks * g.rows * g.cols) (by omega) (by omega),wrap_ok (x:=(g.ranks + g.spares) * g.banks) (by omega) (by omega),wrap_ok (x:=(g.ranks + g.spares) * g.banks * g.rows) (by omega) (by omega)]
  congr 1
  rw [Int.mul_assoc,Int.mul_assoc,Int.mul_assoc]
theorem sparse_eq {s : MchS} (hq : InjQ s) (hm : s.c.d.d.mode = 1 ∨ s.c.d.d.mode = 2) (hg : s.c.d.d.g.right = true) : (sparse2_v0 s == swO (decide (s.c.d.d.mode = 2)) s.c.d.d.mode (plN s.c.d.d.g) s.inj s.inj.length) = true := by
  rw [← pl_eq hg]
  refine boolEq (ff_iff.trans (all_iff (p:=sbad s.c.d.d.mode (plG s.c.d.d.g) s.inj) (q:=swO (decide (s.c.d.d.mode=2)) s.c.d.d.mode (plG s.c.d.d.g) s.inj) rfl fun i h=>?_).symm)
  have hk:=hq _ (gDm eInj0 h)
  generalize plG s.c.d.d.g=n
  rw [swO,swI_iff]
  have h1:swK (decide (s.c.d.d.mode=2)) (swO (decide (s.c.d.d.mode=2)) s.c.d.d.mode n s.inj i) (s.inj.getD i eInj0)=(swO (decide (s.c.d.d.mode=2)) s.c.d.d.mode n s.inj i && !sbk s.c.d.d.mode (s.inj.getD i eInj0)):=by
    unfold swK sbk narrow_v0
    generalize (s.inj.getD i eInj0).f.kind=k at hk ⊢
    rcases hm with hm | hm
    · rw [hm]
      obtain ⟨k1,k2⟩:=hk
      rcases (by omega:k=1 ∨ k=2 ∨ k=3 ∨ k=4 ∨ k=5 ∨ k=6 ∨ k=7) with rfl | rfl | rfl | rfl | rfl | rfl | rfl <;> cases swO (decide ((1:Int)=2)) 1 n s.inj i <;> rfl
    · rw [hm]
      obtain ⟨k1,k2⟩:=hk
      rcases (by omega:k=1 ∨ k=2 ∨ k=3 ∨ k=4 ∨ k=5 ∨ k=6 ∨ k=7) with rfl | rfl | rfl | rfl | rfl | rfl | rfl <;> cases swO (decide ((2:Int)=2)) 2 n s.inj i <;> rfl
  rw [h1]
  have h2:sbad s.c.d.d.mode n s.inj i=false ↔ sbk s.c.d.d.mode (s.inj.getD i eInj0)=false∧∀ j,j < i→sbj s.c.d.d.mode n (s.inj.getD i eInj0) (s.inj.getD j eInj0)=false:=by
    unfold sbad sj
    cases sbk s.c.d.d.mode (s.inj.getD i eInj0) with
    | true=>exact ⟨fun h=>absurd h (by simp),fun h=>absurd h.1 (by decide)⟩
    | false =>
      rw [cond_false]
      constructor
      · intro h
        have h:=of_decide_eq_false h
        exact ⟨rfl,fun j hj=>ff_lt (p:=fun j=>sbj s.c.d.d.mode n (s.inj.getD i eInj0) (s.inj.getD j eInj0)) (n:=i) (by omega)⟩
      · intro h
        rw [ff_all h.2]
        exact decide_eq_false (by omega)
  rw [h2]
  have h3:∀ j,(bif (lclash_v0 s.c.d.d.mode (s.inj.getD j eInj0).f (s.inj.getD i eInj0).f) then (bif decide ((s.inj.getD j eInj0).f.kind=1) then (decide (n≤IntKind.i64.wrap ((s.inj.getD i eInj0).scrubs - (s.inj.getD j eInj0).scrubs))) else false) else true)=true ↔ sbj s.c.d.d.mode n (s.inj.getD i eInj0) (s.inj.getD j eInj0)=false:=fun j=>by
    unfold sbj
    rw [clash_eq hm]
    generalize IntKind.i64.wrap ((s.inj.getD i eInj0).scrubs - (s.inj.getD j eInj0).scrubs)=z
    cases lclash_v0 s.c.d.d.mode (s.inj.getD j eInj0).f (s.inj.getD i eInj0).f with
    | false=>exact ⟨fun _=>rfl,fun _=>rfl⟩
    | true =>
      cases decide ((s.inj.getD j eInj0).f.kind=1) with
      | false=>exact ⟨fun h=>(by cases h),fun h=>by cases h⟩
      | true =>
        show decide (n≤z)=true ↔ decide (z < n)=false
        simp only [decide_eq_true_eq,decide_eq_false_iff_not]
        omega
  rw [Bool.and_eq_true]
  constructor
  · rintro ⟨⟨a,b⟩,d⟩
    exact ⟨a,by simpa using b,fun j hj=>(h3 j).1 (d j hj)⟩
  · rintro ⟨a,b,d⟩
    exact ⟨⟨a,by rw [b]; rfl⟩,fun j hj=>(h3 j).2 (d j hj)⟩
theorem sparse_t {c:Cfg} {l:List Stp} {a b:Flt} {k:Int} (hs:∀ x ∈ l,StpOk x):sparse_v0 c l a b k=true:=by
  unfold sparse_v0
  have key:pl25 c l.length 60=true→(sparse2_v0 (mPl c l) == (swO (decide (c.mode=2)) c.mode (plN c.ly.g) (gIn c l) (gIn c l).length))=true:=fun h=>by
    have hr:=cfg_t (pl25_c h)
    have e1:=mPl_md c l
    have e2:=mPl_g c l
    rw [gIn_eq,e1,e2]
    exact sparse_eq (mPl_i hr.2.1 l) (mPl_h h hs (by decide)).c.d.d.md (by rw [← e2]; exact (ly_rt hr.1).1)
  cases h:pl25 c l.length 60 with
  | false=>cases decide (c.mode=2) <;> rfl
  | true =>
    have k:=key h
    revert k
    cases decide (c.mode=2) <;> exact fun k=>k
end Go.Proofs.YtoflmffbkdekcaaGreat
