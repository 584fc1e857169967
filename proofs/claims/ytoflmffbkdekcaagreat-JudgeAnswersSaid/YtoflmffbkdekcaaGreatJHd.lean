import Derived.Test.YtoflmffbkdekcaaGreatFJN
namespace Go.Proofs.YtoflmffbkdekcaaGreat
open Go Go.RowKit
set_option linter.unusedVariables false
set_option linter.unusedSimpArgs false
theorem getD_pre {α:Type} {a b:List α} {d:α} (h:∃ x,b=a ++ x) {i:Nat} (hi:i < a.length):b.getD i d=a.getD i d:=by
  obtain ⟨x,rfl⟩:=h
  rw [List.getD_eq_getElem?_getD,List.getD_eq_getElem?_getD,List.getElem?_append_left hi]
theorem see_pre {a b:List Acc} (m:Int) (h:∃ x,b=a ++ x) {i n:Nat} (hn:i + n≤a.length):jsee m b i n=jsee m a i n :=
  jsee_same m n fun j hj=>getD_pre h (by omega)
theorem jrd_same (m:Int) {l l':List Acc}:∀ n,(∀ i,i < n→l.getD i eAcc0=l'.getD i eAcc0)→jrd m l n=jrd m l' n
  | 0,_=>rfl
  | n + 1,h=>by rw [jrd,jrd,jrd_same m n fun i hi=>h i (by omega),h n (by omega)]
theorem jrd_nn (m:Int) (l:List Acc):∀ n,0≤(jrd m l n).exp
  | 0=>Int.le_refl _
  | n + 1=>by
    rw [jrd]
    cases (l.getD n eAcc0).write with
    | true=>exact jrd_nn m l n
    | false=>exact jadd_nn (jrd_nn m l n) _ _
theorem jrd_mono (m:Int) (l:List Acc) (n:Nat):∀ k,(jrd m l n).exp≤(jrd m l (n + k)).exp∧((jrd m l (n + k)).drop=false→(jrd m l n).drop=false)∧((jrd m l (n + k)).tell=true→(jrd m l n).tell=true)
  | 0=>⟨Int.le_refl _,id,id⟩
  | k + 1 => by
    obtain ⟨h1,h2,h3⟩:=jrd_mono m l n k
    rw [← Nat.add_assoc,jrd]
    cases (l.getD (n + k) eAcc0).write with
    | true=>exact ⟨h1,h2,h3⟩
    | false =>
      simp only [cond_false]
      rw [jadd_eq (jrd_nn m l _)]
      refine ⟨Int.le_trans h1 (mx_l _ _),fun h=>h2 ?_,fun h=>h3 ?_⟩
      · revert h; unfold lkJ; cases (jrd m l (n + k)).drop <;> simp
      · revert h; unfold lkJ; cases (jrd m l (n + k)).tell <;> simp
theorem calm_head {s t:MchS} (x:MExt s t) (h:jCalm_v0 t=true):jCalm_v0 s=true:=by
  obtain ⟨h1,h2⟩:=calm_t h
  rw [jAt_all] at h1 h2
  have hl:=x.d.len
  have e:jsee t.c.d.d.mode t.c.d.l 0 t.c.d.l.length=lkJ (jsee t.c.d.d.mode t.c.d.l 0 s.c.d.l.length) (jsee t.c.d.d.mode t.c.d.l (0 + s.c.d.l.length) (t.c.d.l.length - s.c.d.l.length)):=by
    rw [← jsee_app,show s.c.d.l.length + (t.c.d.l.length - s.c.d.l.length)=t.c.d.l.length by omega]
  rw [see_pre t.c.d.d.mode x.d.l (i:=0) (n:=s.c.d.l.length) (by omega),x.d.m] at e
  rw [x.d.m,e] at h1 h2
  unfold jCalm_v0
  rw [jAt_all]
  have a1:(jsee s.c.d.d.mode s.c.d.l 0 s.c.d.l.length).astray=false:=by
    revert h1; unfold lkJ; cases (jsee s.c.d.d.mode s.c.d.l 0 s.c.d.l.length).astray <;> simp
  rw [a1]
  exact decide_eq_true (Int.le_trans (mx_l _ _) h2)
theorem watched_head {s t:MchS} (x:MExt s t) (h:jWatched_v0 t=true):jWatched_v0 s=true:=by
  have hl:=x.d.len
  unfold jWatched_v0 jreads_r at h ⊢
  obtain ⟨m1,m2,m3⟩:=jrd_mono t.c.d.d.mode t.c.d.l s.c.d.l.length (t.c.d.l.length - s.c.d.l.length)
  rw [show s.c.d.l.length + (t.c.d.l.length - s.c.d.l.length)=t.c.d.l.length by omega] at m1 m2 m3
  rw [jrd_same t.c.d.d.mode (l:=t.c.d.l) (l':=s.c.d.l) s.c.d.l.length fun i hi=>getD_pre x.d.l hi] at m1 m2 m3
  rw [x.d.m] at h m1 m2 m3
  cases h1:decide ((jrd s.c.d.d.mode t.c.d.l t.c.d.l.length).exp≤IntKind.i64.wrap (1 + s.c.d.d.mode)) with
  | false=>rw [h1] at h; cases h
  | true =>
    rw [h1] at h
    rw [decide_eq_true (Int.le_trans m1 (of_decide_eq_true h1))]
    cases h2:(jrd s.c.d.d.mode t.c.d.l t.c.d.l.length).drop with
    | true=>rw [h2] at h; cases h
    | false =>
      rw [h2] at h
      rw [m2 h2]
      exact m3 h
theorem ff_ext {p q:Nat→Bool} {n:Nat} (h:∀ j,j < n→p j=q j):ff p n=ff q n:=by
  have hp:=ff_le p n
  have hq:=ff_le q n
  rcases Nat.lt_trichotomy (ff p n) (ff q n) with h1 | h1 | h1
  · have h2:=ff_at (p:=p) (n:=n) (by omega)
    rw [h _ (by omega),ff_lt h1] at h2; cases h2
  · exact h1
  · have h2:=ff_at (p:=q) (n:=n) (by omega)
    rw [← h _ (by omega),ff_lt h1] at h2; cases h2
theorem sj_same {m n:Int} {a b:List Inj} {i:Nat} (h:∃ x,b=a ++ x) (hi:i < a.length):sbad m n b i=sbad m n a i:=by
  have e:sj m n b i=sj m n a i:=by
    unfold sj
    refine ff_ext fun j hj=>?_
    rw [getD_pre h hi,getD_pre h (by omega)]
  unfold sbad
  rw [getD_pre h hi,e]
theorem exLen {α:Type} {a b:List α} (h:∃ x,b=a ++ x):a.length≤b.length:=by
  obtain ⟨x,rfl⟩:=h
  rw [List.length_append]; omega
theorem sparse_head {s t:MchS} (x:MExt s t) (h:sparse2_v0 t=true):sparse2_v0 s=true:=by
  have hl:=exLen x.inj
  unfold sparse2_v0 si at h ⊢
  rw [x.d.m,x.d.g] at h
  refine ff_say fun i hi=>?_
  rw [← sj_same x.inj hi]
  exact ff_end h (Nat.lt_of_lt_of_le hi hl)
theorem faith_head {s t:MchS} (x:MExt s t) (h:jFaithful_v0 t=true):jFaithful_v0 s=true:=by
  have hl:=exLen x.srv
  refine ff_say (p:=fun i=>jbad (s.srv.getD i eSrv0)) fun i hi=>?_
  have h1:jbad (t.srv.getD i eSrv0)=false:=ff_end (p:=fun i=>jbad (t.srv.getD i eSrv0)) h (Nat.lt_of_lt_of_le hi hl)
  rw [getD_pre x.srv hi] at h1
  exact h1
theorem jAt_head {s t:MchS} (x:MExt s t) (a:Int) {b:Int} (hb:b≤((s.c.d.l.length:Nat):Int)):jAt_r t a b=jAt_r s a b:=by
  have hl:=x.d.len
  unfold jAt_r jcnt
  rw [x.d.m,show min t.c.d.l.length b.toNat=b.toNat by omega,show min s.c.d.l.length b.toNat=b.toNat by omega]
  by_cases h:a.toNat≤b.toNat
  · exact see_pre _ x.d.l (by omega)
  · rw [show b.toNat - a.toNat=0 by omega]; rfl
theorem honest_head {s t:MchS} (x:MExt s t) (hi:SrvIn s) (h:jHonest_v0 t=true):jHonest_v0 s=true:=by
  have hl:=exLen x.srv
  refine ff_say (p:=fun i=>hbad s (s.srv.getD i eSrv0)) fun i hi'=>?_
  have h1:hbad t (t.srv.getD i eSrv0)=false:=ff_end (p:=fun i=>hbad t (t.srv.getD i eSrv0)) h (Nat.lt_of_lt_of_le hi' hl)
  rw [getD_pre x.srv hi'] at h1
  unfold hbad at h1 ⊢
  rw [jAt_head x _ (hi _ (gDm eSrv0 hi')).2.2.1] at h1
  exact h1
theorem efr_same {a b:List Srv} (h:∃ x,b=a ++ x):∀ n,n≤a.length→efr b n=efr a n
  | 0,_=>rfl
  | n + 1,hn=>by rw [efr,efr,efr_same h n (by omega),getD_pre h (by omega)]
theorem earned_head {s t:MchS} (x:MExt s t) (hi:SrvIn s) (h:jEarned_v0 t=true):jEarned_v0 s=true:=by
  have hl:=exLen x.srv
  refine ff_say (p:=ebad s) fun i hi'=>?_
  have h1:ebad t i=false:=ff_end (p:=ebad t) h (Nat.lt_of_lt_of_le hi' hl)
  unfold ebad at h1 ⊢
  rw [getD_pre x.srv hi',efr_same x.srv i (by omega),jAt_head x _ (hi _ (gDm eSrv0 hi')).2.2.1] at h1
  exact h1
end Go.Proofs.YtoflmffbkdekcaaGreat
