import Derived.Test.YtfhiggfmkjmeiaaGreatFxM
set_option linter.all false
namespace Go.Proofs.YtfhiggfmkjmeiaaGreat
open Go Go.RowKit
def A14 (H:List B) (σ:List Vw):List B->Nat->Bool
 | [],_=>true
 | b :: bs,i=>(match sg0 σ i with | .id j=>(match H[j]? with | some b'=>(b'.isRo == b.isRo) | none=>false) | .nil=>b.isNil && !b.isRo | .sg _ _ _ _ | .ss _ _ _ _=>false) && A14 H σ bs (i + 1)
def A88 (σ:List Vw):List B->Nat->Bool
 | [],_=>true
 | b :: bs,i=>(b.isRow || (match sg0 σ i with | .id j=>Nat.beq j i | _=>false)) && A88 σ bs (i + 1)
def Wi (H:List B) (σ:List Vw) (pre post:List B):Bool :=
 Nat.beq σ.length post.length && inH H.length σ && We σ post 0 && A14 H σ post 0 && post.all (B.alive (sg0 σ)) && A88 σ pre 0 && post.all (B.lt (liv post)) && post.all (fun b=>!b.isFree) && Nat.ble pre.length post.length
theorem T6 {H:List B} {σ:List Vw}:∀ {bs:List B} {i q:Nat} {b:B},A14 H σ bs i=true->bs[q]?=some b ->
    (∃ j b',sg0 σ (i + q)=.id j/\H[j]?=some b'/\b'.isRo=b.isRo) ∨ (sg0 σ (i + q)=.nil/\b.isNil=true/\b.isRo=false)
 | b :: bs,i,0,b',h,hq=>by
   simp at hq; subst hq
   simp only [A14,bq] at h
   have h1:=h.1
   rw [Nat.add_zero]
   split at h1
   ·rename_i j hj
    split at h1
    ·rename_i b' hb; exact .inl ⟨j,b',hj,hb,by simpa using h1⟩
    ·cases h1
   ·rename_i hj; simp only [bq,Bool.not_eq_true'] at h1; exact .inr ⟨hj,h1⟩
   ·cases h1
   ·cases h1
 | b :: bs,i,q + 1,b',h,hq=>by
   simp only [A14,bq] at h
   have:=T6 (q:=q) h.2 (by simpa using hq)
   rwa [show i + 1 + q=i + (q + 1) by omega] at this
theorem W0 {σ:List Vw}:∀ {bs:List B} {i q:Nat} {b:B},A88 σ bs i=true->bs[q]?=some b->b.isRow=false->sg0 σ (i + q)=.id (i + q)
 | b :: bs,i,0,b',h,hq,hr=>by
   simp at hq; subst hq
   simp only [A88,bq,hr,Bool.false_or] at h
   have h1:=h.1
   rw [Nat.add_zero]
   split at h1
   ·rename_i j hj; rw [hj,Nat.eq_of_beq_eq_true h1]
   ·cases h1
 | b :: bs,i,q + 1,b',h,hq,hr=>by
   simp only [A88,bq] at h
   have:=W0 (q:=q) h.2 (by simpa using hq) hr
   rwa [show i + 1 + q=i + (q + 1) by omega] at this
section
variable {X:Ctx} {ρ:Env} {H:List B} {w w':World} {P:Program}
theorem Emb.proj (h:Emb X ρ H w) {σ:List Vw} {pre post:List B} (hk:X.k=pre.length) (hfx:X.fx=Gc pre) (hok:Wi H σ pre post=true) (hf:Nc H σ post 0=want σ post 0):Emb X (ρ.via (sg0 σ)) post w:=by
 simp only [Wi,bq] at hok
 obtain ⟨⟨⟨⟨⟨⟨⟨⟨c1,c2⟩,c3⟩,c4⟩,c5⟩,c6⟩,c7⟩,c8⟩,c9⟩:=hok
 have c9':=Nat.le_of_ble_eq_true c9
 have alv:∀ {i:Nat} {b:B},post[i]?=some b->b.alive (sg0 σ)=true:=fun hb=>(List.all_eq_true.1 c5) _ (List.mem_of_getElem? hb)
 have F1:∀ {i:Nat} {b:B},post[i]?=some b->(∃ j,sg0 σ i=.id j/\(H[j]?=some (b.rn (sg0 σ)) ∨ b.isAny=true)/\(ρ.via (sg0 σ)) i=ρ j) ∨ (b.isNil=true/\b.isRo=false/\(ρ.via (sg0 σ)) i=Loc.nil):=fun {i b} hb=>by
  rcases T6 c4 hb with ⟨j,b',h1,h2,h3⟩ | ⟨h1,h2,h3⟩
  ·rw [Nat.zero_add] at h1
   have e1:=O5 H σ post 0 i b hb
   have e2:=Rh σ post 0 i b hb
   cases hany:b.isAny with
   | true=>exact .inl ⟨j,h1,.inr rfl,by unfold Env.via; rw [h1]⟩
   | false =>
   rw [hf,e2,Nat.zero_add,hany,Option.some.injEq,h1] at e1
   simp only [cond_false,wt1,fd1,h2,Fd.b.injEq] at e1
   refine .inl ⟨j,h1,.inl ?_,by unfold Env.via; rw [h1]⟩
   rw [h2]
   congr 1
   cases b with
   | ro b =>
     cases b' with
     | ro b'=>simp only [B.bare] at e1; rw [← e1]; rfl
     | _=>cases h3
   | _ =>
     cases b' with
     | ro b'=>cases h3
     | _=>exact e1.symm
  ·rw [Nat.zero_add] at h1
   exact .inr ⟨h2,h3,by unfold Env.via; rw [h1]⟩
 have anyRes:∀ {b:B} (ρ:Env) (c:Loc),b.isAny=true->b.res ρ c=Sf:=fun {b} ρ c h=>by cases b <;> first | rfl | cases h
 have F3:∀ {i:Nat} {b:B},post[i]?=some b->(∃ j,sg0 σ i=.id j/\H[j]?=some (b.rn (sg0 σ))/\b.res (ρ.via (sg0 σ)) ((ρ.via (sg0 σ)) i)=(b.rn (sg0 σ)).res ρ (ρ j)) ∨ ((b.res (ρ.via (sg0 σ)) ((ρ.via (sg0 σ)) i)).ok w/\∀ g,g ∉ (b.res (ρ.via (sg0 σ)) ((ρ.via (sg0 σ)) i)).fp):=fun {i b} hb=>by
  rcases F1 hb with ⟨j,h1,h2 | h2,h3⟩ | ⟨h1,h2,h3⟩
  ·exact .inl ⟨j,h1,h2,by rw [B.res_rn (alv hb),h3]⟩
  ·exact .inr ⟨by rw [anyRes _ _ h2]; exact S4 w,fun g=>by rw [anyRes _ _ h2]; exact G8⟩
  ·obtain ⟨α,e,rfl | rfl⟩:=J8 h1
   ·refine .inr ?_
    simp only [B.res,h3]
    exact ⟨World.ownsRow_nil w 0 _ _,fun g=>by simp [Res.fp,Loc.slw,Loc.nil,Value.ownBlock]⟩
   ·cases h2
 have F2:∀ {i i' j:Nat} {b:B},post[i]?=some b->b.isRo=false->sg0 σ i=.id j->sg0 σ i'=.id j->i=i':=fun hb hro h1 h2 =>
  Og (Qs σ post 0 _ _ _ c3 hb hro (by rw [Nat.zero_add]; exact h1)) (Pn h1 (by intro e; cases e)) (by simp [Vw.has]) (Pn h2 (by intro e; cases e)) (by simp [Vw.has])
 refine ⟨⟨?_,?_,?_,h.hs.fr⟩,?_,fun i b hb=>(List.all_eq_true.1 c7) _ (List.mem_of_getElem? hb),?_,?_,?_⟩
 ·intro i r hi
  obtain ⟨b,hb,rfl⟩:=H4 hi
  rcases F3 hb with ⟨j,h1,h2,h3⟩ | ⟨h1,_⟩
  ·rw [h3]; exact h.hs.ok j _ (Bd h2)
  ·exact h1
 ·intro i i' r r' hne hi hi' g hg hg'
  obtain ⟨b,hb,rfl⟩:=H4 hi
  obtain ⟨b',hb',rfl⟩:=H4 hi'
  rcases F3 hb with ⟨j,h1,h2,h3⟩ | ⟨_,h1⟩
  ·rcases F3 hb' with ⟨j',h1',h2',h3'⟩ | ⟨_,h1'⟩
   ·rw [h3] at hg; rw [h3'] at hg'
    cases hro:b.isRo with
    | true=>cases b <;> first | exact absurd hg G8 | cases hro
    | false =>
      have hjj:j ≠ j':=fun e=>hne (F2 hb hro h1 (by rw [e]; exact h1'))
      exact h.hs.ap j j' _ _ hjj (Bd h2) (Bd h2') g hg hg'
   ·exact h1' g hg'
  ·exact h1 g hg
 ·intro i r hi g hg
  obtain ⟨b,hb,rfl⟩:=H4 hi
  rcases F3 hb with ⟨j,h1,h2,h3⟩ | ⟨_,h1⟩
  ·rw [h3] at hg; exact h.hs.my j _ (Bd h2) g hg
  ·exact absurd hg (h1 g)
 ·intro i b hb
  rcases F1 hb with ⟨j,h1,h2 | h2,h3⟩ | ⟨h1,h2,h3⟩
  rotate_left 1
  ·cases b with
   | ro b=>cases b <;> first | trivial | cases h2
   | _=>cases h2
  rotate_left 1
  ·have:=h.sd j _ h2
   rw [h3]
   cases hro:b.isRo with
   | false=>exact (B.side_rn (alv hb) hro).1 this
   | true =>
     cases b with
     | ro b =>
       have hal:b.alive (sg0 σ)=true:=by have:=alv hb; simpa [B.alive] using this
       exact (B.roOk_rn (b:=b) hal).1 this
     | _=>cases hro
  ·obtain ⟨α,e,rfl | rfl⟩:=J8 h1
   ·rw [h3]; exact ⟨rfl,rfl,fun _=>⟨rfl,rfl⟩⟩
   ·cases h2
 ·intro i hi hfi
  have hip:i < pre.length:=hk ▸ hi
  rw [hfx] at hfi
  unfold Gc at hfi
  rw [List.getElem?_eq_getElem hip] at hfi
  have:=W0 (q:=i) c6 (List.getElem?_eq_getElem hip) (by simpa using hfi)
  rw [Nat.zero_add] at this
  show (ρ.via (sg0 σ)) i=X.ρ i
  unfold Env.via
  rw [this]
  exact h.ag i hi (by rw [hfx]; unfold Gc; rw [List.getElem?_eq_getElem hip]; exact hfi)
 ·intro i hi
  have hip:i < post.length:=Nat.lt_of_lt_of_le (hk ▸ hi) c9'
  refine Bq.2 ⟨post[i],List.getElem?_eq_getElem hip,?_⟩
  have:=(List.all_eq_true.1 c8) _ (List.getElem_mem (l:=post) hip)
  intro e
  rw [e] at this; cases this
 ·intro i b hi hfi hb
  have hip:i < pre.length:=hk ▸ hi
  have hfi':=hfi
  rw [hfx] at hfi
  unfold Gc at hfi
  rw [List.getElem?_eq_getElem hip] at hfi
  have hσ:=W0 (q:=i) c6 (List.getElem?_eq_getElem hip) (by simpa using hfi)
  rw [Nat.zero_add] at hσ
  rcases F1 hb with ⟨j,h1,h2 | h2,h3⟩ | ⟨h1,h2,h3⟩
  rotate_left 1
  ·cases b <;> first | rfl | cases h2
  rotate_left 1
  ·rw [hσ] at h1; cases h1
   have:=h.nr i _ hi hfi' h2
   cases b <;> first | rfl | cases this
  ·unfold Env.via at h3
   obtain ⟨j,b',q1,q2,q3⟩ | ⟨q1,_⟩:=T6 c4 hb
   ·cases b with
    | row e l =>
      rw [Nat.zero_add,hσ] at q1; cases q1
      have e1:=O5 H σ post 0 i _ hb
      have e2:=Rh σ post 0 i _ hb
      rw [hf,e2,Nat.zero_add,Option.some.injEq,hσ] at e1
      simp only [B.isAny,cond_false,wt1,fd1,q2,Fd.b.injEq] at e1
      have:=h.nr i _ hi hfi' q2
      cases b' with
      | row e' l'=>cases this
      | ro b'=>cases q3
      | _=>cases e1
    | _=>rfl
   ·rw [Nat.zero_add,hσ] at q1; cases q1
structure Fin:Type 1 where
 res:V
 fd:List Fd
 I:List It
 os:List Ob
 ok:Bool
def Awv (P:Program) (fn:Func) (c:Code) (m:Nat) (args:List V) (pre:List B) (res:V) (post:List B) (σ:List Vw) (I:List It):Option Fin :=
 bif Nat.ble args.length fn.ntmps then match A4y P pre.length none fn.ntmps c ⟨Ps args 0,pre ++ .dfs :: List.replicate m .free,pre.length + 1,I,[]⟩ with
 | some (.ex _,_,_)=>none
 | some (_,s,os)=>match Vx P s fn.results.toList with
   | some xs=>some ⟨A2f xs,Nc s.H σ post 0,s.I,os,O1 s.H pre.length && Wi s.H σ pre post && V.alive (sg0 σ) res⟩
   | none=>none
 | none=>none
 else none
def Ayn (args:List V) (pre:List B) (res:V) (post:List B):Bool :=
 pre.all (B.lt (liv pre)) && V.lts (liv pre) args && V.lt (liv post) res && res.nz && pre.all (fun b=>!b.isFree) && args.all V.nz &&
 (post.zipIdx.all fun p=>!p.1.isRo || (match pre[p.2]? with | some b=>b.isRo | none=>false))
theorem A6k (ρ:Env):∀ (A C:List B) (i:Nat),rsF ρ (A ++ C) i=rsF ρ A i ++ rsF ρ C (i + A.length)
 | [],C,i=>rfl
 | b :: A,C,i=>by rw [List.cons_append,rsF,rsF,A6k ρ A C (i + 1),List.cons_append,List.length_cons,show i + 1 + A.length=i + (A.length + 1) by omega]
theorem A9y (ρ:Env):∀ (m i:Nat),rsF ρ (List.replicate m .free) i=List.replicate m Sf
 | 0,_=>rfl
 | m + 1,i=>by rw [List.replicate_succ,rsF,A9y ρ m (i + 1),List.replicate_succ]; rfl
theorem Hs.pad {M:List Nat} {w0 w:World} {L:List Res} (h:Hs M w0 w L) (m:Nat):Hs M w0 w (L ++ List.replicate m Sf):=by
 have key:∀ {i:Nat} {r:Res},(L ++ List.replicate m Sf)[i]?=some r->L[i]?=some r ∨ r=Sf:=fun {i r} hi=>by
  rcases Nat.lt_or_ge i L.length with h1 | h1
  ·rw [List.getElem?_append_left h1] at hi; exact .inl hi
  ·rw [List.getElem?_append_right h1] at hi
   exact .inr (List.eq_of_mem_replicate (List.mem_of_getElem? hi))
 refine ⟨fun i r hi=>?_,fun i j r s hne hi hj g hg hg'=>?_,fun i r hi g hg=>?_,h.fr⟩
 ·rcases key hi with h1 | rfl
  ·exact h.ok i r h1
  ·exact S4 w
 ·rcases key hi with h1 | rfl
  ·rcases key hj with h2 | rfl
   ·exact h.ap i j r s hne h1 h2 g hg hg'
   ·exact G8 hg'
  ·exact G8 hg
 ·rcases key hi with h1 | rfl
  ·exact h.my i r h1 g hg
  ·exact absurd hg G8
theorem Emb.pad (h:Emb X ρ H w) (m:Nat):Emb X ρ (H ++ List.replicate m .free) w:=by
 have key:∀ {i:Nat} {b:B},(H ++ List.replicate m .free)[i]?=some b->H[i]?=some b ∨ b=.free:=fun {i b} hi=>by
  rcases Nat.lt_or_ge i H.length with h1 | h1
  ·rw [List.getElem?_append_left h1] at hi; exact .inl hi
  ·rw [List.getElem?_append_right h1] at hi
   exact .inr (List.eq_of_mem_replicate (List.mem_of_getElem? hi))
 have lv:∀ i,liv H i=true->liv (H ++ List.replicate m .free) i=true:=fun i hi=>by
  obtain ⟨b,hb,hf⟩:=Bq.1 hi
  exact Bq.2 ⟨b,by rw [List.getElem?_append_left (List.getElem?_eq_some_iff.1 hb).1]; exact hb,hf⟩
 refine ⟨?_,fun i b hb=>?_,fun i b hb=>?_,h.ag,fun i hi=>lv i (h.kl i hi),fun i b hi hf hb=>?_⟩
 ·rw [A6k,A9y]; exact h.hs.pad m
 ·rcases key hb with h1 | rfl
  ·exact h.sd i b h1
  ·trivial
 ·rcases key hb with h1 | rfl
  ·exact B.lt_mono lv (h.cl i b h1)
  ·rfl
 ·rcases key hb with h1 | rfl
  ·exact h.nr i b hi hf h1
  ·rfl
theorem Aze {pre post:List B} (h:(post.zipIdx.all fun p=>!p.1.isRo || (match pre[p.2]? with | some b=>b.isRo | none=>false))=true) {i:Nat} {b:B} (hb:post[i]?=some b) (hr:b.isRo=true):∃ b',pre[i]?=some b'/\b'.isRo=true:=by
 have hm:(b,i) ∈ post.zipIdx:=by rw [List.mem_zipIdx_iff_getElem?]; exact hb
 have:=(List.all_eq_true.1 h) _ hm
 simp only [hr,Bool.not_true,Bool.false_or] at this
 split at this
 ·rename_i b' hb'; exact ⟨b',hb',this⟩
 ·cases this
theorem Hs.padR {M:List Nat} {w0 w:World} {L:List Res} (h:Hs M w0 w L) {r:Res} (hok:r.ok w) (hfp:r.fp=[]):Hs M w0 w (L ++ [r]):=by
 have key:∀ {i:Nat} {s:Res},(L ++ [r])[i]?=some s->L[i]?=some s ∨ s=r:=fun {i s} hi=>by
  rcases Nat.lt_or_ge i L.length with h1 | h1
  ·rw [List.getElem?_append_left h1] at hi; exact .inl hi
  ·rw [List.getElem?_append_right h1] at hi
   have:=List.mem_of_getElem? hi
   simp at this
   exact .inr this
 have no:∀ g,g ∉ r.fp:=fun g hg=>by rw [hfp] at hg; cases hg
 refine ⟨fun i s hi=>?_,fun i j s t hne hi hj g hg hg'=>?_,fun i s hi g hg=>?_,h.fr⟩
 ·rcases key hi with h1 | rfl
  ·exact h.ok i s h1
  ·exact hok
 ·rcases key hi with h1 | rfl
  ·rcases key hj with h2 | rfl
   ·exact h.ap i j s t hne h1 h2 g hg hg'
   ·exact no g hg'
  ·exact no g hg
 ·rcases key hi with h1 | rfl
  ·exact h.my i s h1 g hg
  ·exact absurd hg (no g)
theorem Emb.padD {k:Nat} {fx:Nat->Bool} {M:List Nat} {w0:World} (h:Emb ⟨k,fx,ρ,M,w0⟩ ρ H w) (hk:k=H.length):Emb ((⟨k + 1,fx,ρ,M,w0⟩:Ctx).wd k []) (ρ.wl k []) (H ++ [.dfs]) w:=by
 have key:∀ {i:Nat} {b:B},(H ++ [.dfs])[i]?=some b->(i < k/\H[i]?=some b) ∨ (i=k/\b=.dfs):=fun {i b} hi=>by
  rcases Nat.lt_or_ge i H.length with h1 | h1
  ·rw [List.getElem?_append_left h1] at hi; exact .inl ⟨by omega,hi⟩
  ·rw [List.getElem?_append_right h1] at hi
   have h2:=(List.getElem?_eq_some_iff.1 hi).1
   simp at h2
   rw [h2] at hi
   exact .inr ⟨by omega,(Option.some.inj hi).symm⟩
 have lv:∀ i,liv H i=true->liv (H ++ [.dfs]) i=true:=fun i hi=>by
  obtain ⟨b,hb,hf⟩:=Bq.1 hi
  exact Bq.2 ⟨b,by rw [List.getElem?_append_left (List.getElem?_eq_some_iff.1 hb).1]; exact hb,hf⟩
 have hd:(H ++ [B.dfs])[k]?=some .dfs:=by rw [List.getElem?_append_right (by omega),hk,Nat.sub_self]; rfl
 refine ⟨?_,fun i b hb=>?_,fun i b hb=>?_,fun i hi hf=>?_,fun i hi=>?_,fun i b hi hf hb=>?_⟩
 ·have e:rsF (ρ.wl k []) (H ++ [.dfs]) 0=rsF ρ H 0 ++ [.objs [] (.deferred (some []))]:=by
   rw [A6k,Nat.zero_add,← hk]
   congr 1
   ·refine List.ext_getElem? fun j=>?_
    rw [Ng,Ng,Nat.zero_add]
    cases hj:H[j]? with
    | none=>rfl
    | some b =>
      have:j ≠ k:=by have:=(List.getElem?_eq_some_iff.1 hj).1; omega
      rw [Env.wl_ne _ _ this]
      exact congrArg some (B.res_pl (Env.wl_pl ρ k []) (Loc.Pl.refl _) rfl)
   ·rw [rsF,rsF,Env.wl_at]; rfl
  rw [e]
  exact h.hs.padR ⟨List.nodup_nil,fun D hD=>by cases hD⟩ rfl
 ·rcases key hb with ⟨h1,h2⟩ | ⟨rfl,rfl⟩
  ·rw [Env.wl_ne _ _ (by omega)]
   exact (B.side_pl (Env.wl_pl ρ k [])).2 (h.sd i b h2)
  ·trivial
 ·rcases key hb with ⟨h1,h2⟩ | ⟨rfl,rfl⟩
  ·exact B.lt_mono lv (h.cl i b h2)
  ·rfl
 ·rfl
 ·rcases Nat.lt_or_ge i k with h1 | h1
  ·exact lv i (h.kl i h1)
  ·have:i=k:=by have:i < k + 1:=hi; omega
   subst this
   exact Bq.2 ⟨_,hd,fun e=>by cases e⟩
 ·rcases key hb with ⟨h1,h2⟩ | ⟨rfl,rfl⟩
  ·exact h.nr i b h1 hf h2
  ·rfl
theorem ActOk.pl {ds:List Deferred} {ρ ρ':Env} {n:Nat} {T:List (Nat × V)} {a:Act} (h:ActOk ds ρ n T a) (hp:∀ i,Loc.Pl (ρ i) (ρ' i)):ActOk ds ρ' n T a:=⟨h.sz,h.df,fun i=>(h.t i).imp id fun h1=>by rw [V.den_pl hp]; exact h1⟩
theorem Sp.of {f:FuncId} {fn:Func} {c:Code} {args:List V} {pre post:List B} {res:V} {I:List It} {O:List Ob} (hf:P.funcs[f]?=some fn) (hb:fn.body=some c) (m:Nat) (σ:List Vw) (g:Good P I O)
   (h2:Awv P fn c m args pre res post σ I=some ⟨V.rn (sg0 σ) res,want σ post 0,[],O,true⟩) (h1:Ayn args pre res post=true):Sp P f args pre res post:=by
 simp only [Ayn,bq] at h1
 obtain ⟨⟨⟨⟨⟨⟨a1,a2⟩,a3⟩,a4⟩,a5⟩,a6⟩,a7⟩:=h1
 unfold Awv at h2
 cases hle:Nat.ble args.length fn.ntmps with
 | false=>rw [hle] at h2; cases h2
 | true =>
 rw [hle] at h2
 simp only [cond_true] at h2
 have hle':=Nat.le_of_ble_eq_true hle
 have key:∃ e s os xs,A4y P pre.length none fn.ntmps c ⟨Ps args 0,pre ++ .dfs :: List.replicate m .free,pre.length + 1,I,[]⟩=some (e,s,os)/\(e=.nm ∨ e=.rt)/\Vx P s fn.results.toList=some xs /\
  A2f xs=V.rn (sg0 σ) res/\Nc s.H σ post 0=want σ post 0/\s.I=[]/\os=O/\(O1 s.H pre.length=true/\Wi s.H σ pre post=true)/\V.alive (sg0 σ) res=true:=by
   split at h2
   ·cases h2
   ·rename_i e s os hne hc
    split at h2
    ·rename_i xs hx
     simp only [Option.some.injEq,Fin.mk.injEq,bq] at h2
     refine ⟨e,s,os,xs,hc,?_,hx,h2.1,h2.2.1,h2.2.2.1,h2.2.2.2.1,h2.2.2.2.2.1,h2.2.2.2.2.2⟩
     cases e with
     | nm=>exact .inl rfl
     | rt=>exact .inr rfl
     | ex id=>exact (hne id rfl).elim
    ·cases h2
   ·cases h2
 obtain ⟨e,s,os,xs,hc,he,hx,k1,k2,k3,k4,⟨k0,k5⟩,k6⟩:=key
 have hln:pre.length<=post.length:=by simp only [Wi,bq] at k5; exact Nat.le_of_ble_eq_true k5.2
 have hfr:(post.all fun b=>!b.isFree)=true:=by simp only [Wi,bq] at k5; exact k5.1.2
 refine ⟨⟨a1,a2⟩,hln,⟨a5,hfr⟩,⟨a3,a4⟩,fun i b hb hr=>Aze a7 hb hr,fun ρ M w hE=>?_⟩
 refine Aqf hf hb _ rfl ?_
 have hq:Gc pre pre.length=true:=by unfold Gc; rw [List.getElem?_eq_none (Nat.le_refl _)]
 have hA:AtD ((⟨pre.length + 1,Gc pre,ρ,M,w⟩:Ctx).wd pre.length) Xe fn.ntmps ⟨Ps args 0,pre ++ .dfs :: List.replicate m .free,pre.length + 1,I,[]⟩ { tmps:=(V.dens ρ args).toArray ++ Array.replicate (fn.ntmps - (V.dens ρ args).toArray.size) undef,defers:=[] } w:=by
   have hE2:=(hE.padD rfl).pad m
   rw [List.append_assoc] at hE2
   refine ⟨[],_,hE2,?_,Aen (V.lts_mono (fun j hj=>?_) _ a2)⟩
   ·exact (Aem hle').pl (Env.wl_pl ρ pre.length [])
   ·obtain ⟨b,hb,hbf⟩:=Bq.1 hj
    exact Bq.2 ⟨b,by rw [List.getElem?_append_left (List.getElem?_eq_some_iff.1 hb).1]; exact hb,hbf⟩
 refine A7v.1.out (O:=[]) (Nat.lt_succ_self _) hq (Bs:=⟨M,w,ρ,fun _=>false⟩) (fun l=>⟨rfl,rfl,fun i hi=>by cases hi⟩) (fun _ _ y hy=>by cases hy) hc (by rw [List.append_nil,k4]; exact g) hA fun a' w' hA' _=>?_
 obtain ⟨l,ρ',hE',ha',ht'⟩:=hA'
 have fin:LeavesInM (FW none) 0 P fn a'.tmps (fun e w'=>∃ ρ',e=.returned (V.den ρ' res)/\Emb ⟨pre.length,Gc pre,ρ,M,w⟩ ρ' post w') a'.defers .returning w':=by
   rw [ha'.df]
   refine A03 (Qa k0) (Nat.lt_succ_self _) hq l hE' fun ρ'' w'' hp hne E''=>?_
   obtain ⟨r1,r2,r3⟩:=Ad9 E'' (ha'.pl hp) ht' hx
   have E3:Emb ⟨pre.length,Gc pre,ρ,M,w⟩ ρ'' s.H w'':=E''.bk rfl rfl (fun i hi hf=>⟨Nat.lt_succ_of_lt hi,hf,Env.wl_ne _ _ (Nat.ne_of_lt hi)⟩) fun i hi=>E''.kl i (Nat.lt_succ_of_lt hi)
   exact ⟨_,r1,ρ''.via (sg0 σ),by rw [k1,V.den_rn res k6],E3.proj rfl rfl k5 k2⟩
 rcases he with rfl | rfl
 ·exact fin
 ·exact fin
theorem Sp.cells {f:FuncId} {args:List V} {pre post:List B} {res:V} (h:Sp P f args pre res post) (i:Nat) {l l':List V} {ty:TypeId} (hi:post[i]?=some (.blk l ty)) (hf:V.flat ρN l=V.flat ρN l') (h1:V.lts L0 l=true) (h2:V.lts L0 l'=true) (h3:V.wf l'=true) :
   Sp P f args pre res (post.set i (.blk l' ty)):=by
 have hil:=(List.getElem?_eq_some_iff.1 hi).1
 have nf:(B.blk l' ty) ≠ .free:=fun e=>by cases e
 have lv:∀ j,liv post j=true->liv (post.set i (.blk l' ty)) j=true:=Do nf
 have at':∀ {j:Nat} {b:B},(post.set i (.blk l' ty))[j]?=some b->(j=i/\b=.blk l' ty) ∨ (j ≠ i/\post[j]?=some b):=fun {j b} hj=>by
  by_cases e:i=j
  ·subst e; rw [List.getElem?_set_self hil] at hj; exact .inl ⟨rfl,(Option.some.inj hj).symm⟩
  ·rw [List.getElem?_set_ne e] at hj; exact .inr ⟨fun h=>e h.symm,hj⟩
 refine ⟨h.cl,by rw [List.length_set]; exact h.ln,⟨h.fr.1,List.all_eq_true.2 fun b hb=>?_⟩,⟨V.lt_mono lv _ h.rs.1,h.rs.2⟩,fun j b hb hr=>?_,fun ρ M w hE=>(h.out ρ M w hE).mono ?_⟩
 ·obtain ⟨j,hj⟩:=List.mem_iff_getElem?.1 hb
  rcases at' hj with ⟨_,rfl⟩ | ⟨_,hj⟩
  ·rfl
  ·exact (List.all_eq_true.1 h.fr.2) b (List.mem_of_getElem? hj)
 ·rcases at' hb with ⟨_,rfl⟩ | ⟨_,hj⟩
  ·cases hr
  ·exact h.ro j b hj hr
 ·rintro e w' ⟨ρ',he,hE'⟩
  refine ⟨ρ',he,?_⟩
  have e1:V.flat ρ' l=V.flat ρ' l':=by
   rw [V.flat_ext (n:=L0) (ρ:=ρN) (ρ':=ρ') (fun i hi=>by cases hi) _ h1,V.flat_ext (n:=L0) (ρ:=ρN) (ρ':=ρ') (fun i hi=>by cases hi) _ h2,hf]
  have e2:rsF ρ' (post.set i (.blk l' ty)) 0=rsF ρ' post 0:=by
   rw [Uv,Nat.zero_add]
   have:(rsF ρ' post 0)[i]?=some ((B.blk l' ty).res ρ' (ρ' i)):=by
    rw [Bd hi]
    simp only [B.res]; rw [e1]
   obtain ⟨hl,hv⟩:=List.getElem?_eq_some_iff.1 this
   rw [← hv]; exact List.set_getElem_self hl
  refine ⟨by rw [e2]; exact hE'.hs,fun j b hb=>?_,fun j b hb=>?_,hE'.ag,fun j hj=>lv j (hE'.kl j hj),fun j b hj hfx hb=>?_⟩
  ·rcases at' hb with ⟨rfl,rfl⟩ | ⟨_,hj⟩
   ·exact ⟨(hE'.sd j _ hi).1,h3⟩
   ·exact hE'.sd j b hj
  ·rcases at' hb with ⟨rfl,rfl⟩ | ⟨_,hj⟩
   ·exact V.lts_mono Sh _ h2
   ·exact B.lt_mono lv (hE'.cl j b hj)
  ·rcases at' hb with ⟨rfl,rfl⟩ | ⟨_,hj2⟩
   ·rfl
   ·exact hE'.nr j b hj hfx hj2
end
end Go.Proofs.YtfhiggfmkjmeiaaGreat
namespace Go.Proofs.YtfhiggfmkjmeiaaGreat
open Go Go.RowKit
noncomputable abbrev P:=Tryz.prog
def ir:Nat->Nat->List Vw
 | _,0=>[]
 | a,n + 1=>.id a :: ir (a + 1) n
noncomputable def evF (fn:Func) (m:Nat) (args:List V) (pre:List B) (res:V) (post:List B) (σ:List Vw) (I:List It):Option Fin:=match fn.body with
 | some c=>Awv P fn c m args pre res post σ I
 | none=>none
theorem so {f:FuncId} {args:List V} {pre post:List B} {res:V} (fn:Func) (m:Nat) (σ:List Vw) {I:List It} {O:List Ob} (g:Good P I O) (hf:P.funcs[f]?=some fn:=by exact rfl)
   (h2:evF fn m args pre res post σ I=some ⟨V.rn (sg0 σ) res,want σ post 0,[],O,true⟩:=by kernel_rfl) (h1:Ayn args pre res post=true:=by kernel_rfl):Sp P f args pre res post:=by
 unfold evF at h2
 cases hb:fn.body with
 | none=>rw [hb] at h2; cases h2
 | some c=>rw [hb] at h2; exact Sp.of hf hb m σ g h2 h1
abbrev vi (x:Int):V:=.v (.int .i64 x)
abbrev vn (x:Nat):V:=.v (.int .i64 ((x:Nat):Int))
abbrev vb (x:Nat):V:=.v (.int .u8 ((x:Nat):Int))
abbrev vu (x:Nat):V:=.v (.int .u64 ((x:Nat):Int))
abbrev vw (x:Nat):V:=.v (.int .u32 ((x:Nat):Int))
abbrev vt (b:Bool):V:=.v (.bool b)
abbrev B23:V:=.v (.pointer none)
abbrev A64:V:=.v (.slice none 0 0)
theorem aW {x c:Int} (h:-9223372036854775808<=c/\c<=9223372036854775807/\c=x):Value.int .i64 (IntKind.i64.wrap x)=.int .i64 c:=by
 obtain ⟨h1,h2,rfl⟩:=h
 rw [Qk ⟨h1,h2⟩]
theorem Ck {a b c:Int} (h:-9223372036854775808<=c/\c<=9223372036854775807/\c=a + b):Value.int .i64 (IntKind.i64.wrap (a + b))=.int .i64 c:=aW h
theorem Yq {a b c:Int} (h:-9223372036854775808<=c/\c<=9223372036854775807/\c=a - b):Value.int .i64 (IntKind.i64.wrap (a - b))=.int .i64 c:=aW h
theorem Ajn {a b c:Int} (h:-9223372036854775808<=c/\c<=9223372036854775807/\c=a * b):Value.int .i64 (IntKind.i64.wrap (a * b))=.int .i64 c:=aW h
def nf (f:Nat->Nat):Nat->Int:=fun i=>((f i:Nat):Int)
theorem Av4 {q:Nat->Prop} [DecidablePred q] (h:∀ y:_root_.Fin 256,q y.1) {x:Nat} (hx:x < 256):q x:=h ⟨x,hx⟩
def xr (a b:Nat):Nat:=a ^^^ b
theorem I5 {a b:Nat} (ha:a < 256) (hb:b < 256):xr a b < 256:=Nat.xor_lt_two_pow (n:=8) ha hb
theorem w8 {x:Nat} (h:x < 256):IntKind.u8.wrap ((x:Nat):Int)=((x:Nat):Int):=by
 unfold IntKind.wrap
 simp only [IntKind.bits,IntKind.signed,Bool.false_and,Bool.false_eq_true,if_false]
 omega
theorem bv8 {a:Nat} (h:a < 256):(BitVec.ofInt 8 ((a:Nat):Int)).toNat=a:=by
 rw [BitVec.toNat_ofInt]; omega
theorem Yt (a b:Nat) (ha:a < 256) (hb:b < 256):Value.int .u8 (bits .xor .u8 ((a:Nat):Int) ((b:Nat):Int))=.int .u8 ((xr a b:Nat):Int):=by
 have e:bits .xor .u8 ((a:Nat):Int) ((b:Nat):Int)=IntKind.u8.wrap (((BitVec.ofInt 8 ((a:Nat):Int) ^^^ BitVec.ofInt 8 ((b:Nat):Int)).toNat:Nat):Int):=rfl
 rw [e,BitVec.toNat_xor,bv8 ha,bv8 hb]
 exact congrArg _ (w8 (I5 ha hb))
theorem Azh (a:Nat) (ha:a < 256):Value.int .u8 (bits .and .u8 ((a:Nat):Int) 128)=.int .u8 ((a / 128 * 128:Nat):Int):=by
 have key:∀ a:_root_.Fin 256,bits .and .u8 ((a.1:Nat):Int) 128=((a.1 / 128 * 128:Nat):Int):=by decide +kernel
 rw [key ⟨a,ha⟩]
theorem Azg (a:Nat) (ha:a < 256):Value.int .u8 (IntKind.u8.wrap (((a:Nat):Int) * 2 ^ 1))=.int .u8 ((2 * a % 256:Nat):Int):=by
 have key:∀ a:_root_.Fin 256,IntKind.u8.wrap (((a.1:Nat):Int) * 2 ^ 1)=((2 * a.1 % 256:Nat):Int):=by decide +kernel
 rw [key ⟨a,ha⟩]
def eqA (f g:Nat->Int):Nat->Nat->Bool
 | 0,_=>true
 | n + 1,i=>(f i == g i) && eqA f g n (i + 1)
theorem P0 {f g:Nat->Int}:∀ {n i:Nat},eqA f g n i=true ↔ ∀ j,i<=j->j < i + n->f j=g j
 | 0,i=>by simp only [eqA,true_iff]; intro j h1 h2; omega
 | n + 1, i => by
   rw [eqA,bq,beq_iff_eq,P0]
   constructor
   ·rintro ⟨h1,h2⟩ j h3 h4
    rcases Nat.lt_or_ge i j with h5 | h5
    ·exact h2 j (by omega) (by omega)
    ·have:j=i:=by omega
     subst this; exact h1
   ·intro h
    exact ⟨h i (by omega) (by omega),fun j h1 h2=>h j (by omega) (by omega)⟩
def upZ {β:Type} (f:Int->β) (k:Int) (v:β):Int->β:=fun j=>if j=k then v else f j
abbrev mpI (f:Int->Int):Int->V:=fun k=>.v (.int .i64 (f k))
theorem Aco (f:Int->Int) (k a:Int):∀ i,mpI (upZ f k a) i=upM (mpI f) k (.v (.int .i64 a)) i:=fun i=>by
 unfold upZ upM; simp only [mpI]; split <;> rfl
end Go.Proofs.YtfhiggfmkjmeiaaGreat
namespace Go.Proofs.YtfhiggfmkjmeiaaGreat
open Go Go.RowKit
theorem wU8 {x:Nat} (h:x < 256):IntKind.u8.wrap ((x:Nat):Int)=((x:Nat):Int):=w8 h
theorem Az6 {x:Nat} (h:x < 4294967296):IntKind.u32.wrap ((x:Nat):Int)=((x:Nat):Int):=by
 unfold IntKind.wrap
 simp only [IntKind.bits,IntKind.signed,Bool.false_and,Bool.false_eq_true,if_false]
 omega
theorem Aah {x:Nat} (h:x < 18446744073709551616):IntKind.u64.wrap ((x:Nat):Int)=((x:Nat):Int):=by
 unfold IntKind.wrap
 simp only [IntKind.bits,IntKind.signed,Bool.false_and,Bool.false_eq_true,if_false]
 omega
theorem mU8 (x:Nat):IntKind.u8.wrap ((x:Nat):Int)=((x % 256:Nat):Int):=by
 unfold IntKind.wrap
 simp only [IntKind.bits,IntKind.signed,Bool.false_and,Bool.false_eq_true,if_false]
 omega
theorem bvN {n a:Nat} (h:a < 2 ^ n):(BitVec.ofInt n ((a:Nat):Int)).toNat=a:=by
 rw [BitVec.toNat_ofInt]
 have:((a:Int) % ((2 ^ n:Nat):Int))=((a % 2 ^ n:Nat):Int):=by rw [Int.natCast_emod]
 rw [this,Nat.mod_eq_of_lt h]; rfl
theorem A2l (a b:Nat) (ha:a < 18446744073709551616) (hb:b < 18446744073709551616):Value.int .u64 (bits .and .u64 ((a:Nat):Int) ((b:Nat):Int))=.int .u64 ((a &&& b:Nat):Int):=by
 have e:bits .and .u64 ((a:Nat):Int) ((b:Nat):Int)=IntKind.u64.wrap (((BitVec.ofInt 64 ((a:Nat):Int) &&& BitVec.ofInt 64 ((b:Nat):Int)).toNat:Nat):Int):=rfl
 rw [e,BitVec.toNat_and,bvN (n:=64) (by omega),bvN (n:=64) (by omega),Aah (Nat.lt_of_le_of_lt Nat.and_le_left ha)]
theorem Ah9 (a b:Nat) (ha:a < 4294967296) (hb:b < 4294967296):Value.int .u32 (bits .and .u32 ((a:Nat):Int) ((b:Nat):Int))=.int .u32 ((a &&& b:Nat):Int):=by
 have e:bits .and .u32 ((a:Nat):Int) ((b:Nat):Int)=IntKind.u32.wrap (((BitVec.ofInt 32 ((a:Nat):Int) &&& BitVec.ofInt 32 ((b:Nat):Int)).toNat:Nat):Int):=rfl
 rw [e,BitVec.toNat_and,bvN (n:=32) (by omega),bvN (n:=32) (by omega),Az6 (Nat.lt_of_le_of_lt Nat.and_le_left ha)]
theorem Aju (a b:Nat) (ha:a < 256) (hb:b < 256):Value.int .u8 (bits .and .u8 ((a:Nat):Int) ((b:Nat):Int))=.int .u8 ((a &&& b:Nat):Int):=by
 have e:bits .and .u8 ((a:Nat):Int) ((b:Nat):Int)=IntKind.u8.wrap (((BitVec.ofInt 8 ((a:Nat):Int) &&& BitVec.ofInt 8 ((b:Nat):Int)).toNat:Nat):Int):=rfl
 rw [e,BitVec.toNat_and,bvN (n:=8) (by omega),bvN (n:=8) (by omega),wU8 (Nat.lt_of_le_of_lt Nat.and_le_left ha)]
theorem A7e (a b:Nat) (ha:a < 18446744073709551616) (hb:b < 18446744073709551616):Value.int .u64 (bits .or .u64 ((a:Nat):Int) ((b:Nat):Int))=.int .u64 ((a ||| b:Nat):Int):=by
 have e:bits .or .u64 ((a:Nat):Int) ((b:Nat):Int)=IntKind.u64.wrap (((BitVec.ofInt 64 ((a:Nat):Int) ||| BitVec.ofInt 64 ((b:Nat):Int)).toNat:Nat):Int):=rfl
 rw [e,BitVec.toNat_or,bvN (n:=64) (by omega),bvN (n:=64) (by omega),Aah (Nat.or_lt_two_pow (n:=64) ha hb)]
theorem Aha (a b:Nat) (ha:a < 18446744073709551616) (hb:b < 18446744073709551616):Value.int .u64 (bits .xor .u64 ((a:Nat):Int) ((b:Nat):Int))=.int .u64 ((a ^^^ b:Nat):Int):=by
 have e:bits .xor .u64 ((a:Nat):Int) ((b:Nat):Int)=IntKind.u64.wrap (((BitVec.ofInt 64 ((a:Nat):Int) ^^^ BitVec.ofInt 64 ((b:Nat):Int)).toNat:Nat):Int):=rfl
 rw [e,BitVec.toNat_xor,bvN (n:=64) (by omega),bvN (n:=64) (by omega),Aah (Nat.xor_lt_two_pow (n:=64) ha hb)]
theorem Aqv (a b:Nat) (ha:a < 256) (hb:b < 256):Value.int .u8 (bits .or .u8 ((a:Nat):Int) ((b:Nat):Int))=.int .u8 ((a ||| b:Nat):Int):=by
 have e:bits .or .u8 ((a:Nat):Int) ((b:Nat):Int)=IntKind.u8.wrap (((BitVec.ofInt 8 ((a:Nat):Int) ||| BitVec.ofInt 8 ((b:Nat):Int)).toNat:Nat):Int):=rfl
 rw [e,BitVec.toNat_or,bvN (n:=8) (by omega),bvN (n:=8) (by omega),wU8 (Nat.or_lt_two_pow (n:=8) ha hb)]
theorem Az1 (a:Nat) (h0:a ≠ 0) (ha:a < 18446744073709551616):Value.int .u64 (IntKind.u64.wrap (((a:Nat):Int) - 1))=.int .u64 ((a - 1:Nat):Int):=by
 rw [show ((a:Nat):Int) - 1=((a - 1:Nat):Int) by omega,Aah (by omega)]
theorem Az0 (a:Nat) (h0:a ≠ 0) (ha:a < 4294967296):Value.int .u32 (IntKind.u32.wrap (((a:Nat):Int) - 1))=.int .u32 ((a - 1:Nat):Int):=by
 rw [show ((a:Nat):Int) - 1=((a - 1:Nat):Int) by omega,Az6 (by omega)]
theorem B1e (a:Nat) (h0:a ≠ 0) (ha:a < 256):Value.int .u8 (IntKind.u8.wrap (((a:Nat):Int) - 1))=.int .u8 ((a - 1:Nat):Int):=by
 rw [show ((a:Nat):Int) - 1=((a - 1:Nat):Int) by omega,wU8 (by omega)]
theorem Yo (a:Nat):Value.int .u64 (((a:Nat):Int).fdiv (2 ^ 1))=.int .u64 ((a / 2:Nat):Int):=by
 rw [show ((a:Nat):Int).fdiv (2 ^ 1)=((a / 2:Nat):Int) by rw [Int.fdiv_eq_ediv_of_nonneg _ (by decide)]; rfl]
theorem A70 (a:Nat) (ha:a < 18446744073709551616):Value.int .u64 (bits .and .u64 ((a:Nat):Int) 1)=.int .u64 ((a % 2:Nat):Int):=by
 have:=A2l a 1 ha (by decide)
 rw [Nat.and_one_is_mod] at this
 exact this
theorem Aq5 (a b:Nat) (h:a + b < 18446744073709551616):Value.int .u64 (IntKind.u64.wrap (((a:Nat):Int) + ((b:Nat):Int)))=.int .u64 ((a + b:Nat):Int):=by
 rw [show ((a:Nat):Int) + ((b:Nat):Int)=((a + b:Nat):Int) by omega,Aah h]
def clr (x:Nat):Nat:=x &&& (x - 1)
theorem Awb {x:Nat} (h:x ≠ 0):clr x < x:=Nat.lt_of_le_of_lt Nat.and_le_right (by omega)
theorem Awa (x:Nat):clr x<=x:=Nat.and_le_left
def Hf (x:Nat):Nat->Nat
 | 0=>x
 | i + 1=>clr (Hf x i)
theorem Kn (x:Nat):∀ i,Hf x i<=x
 | 0=>Nat.le_refl _
 | i + 1=>Nat.le_trans (Awa _) (Kn x i)
theorem M4 (x:Nat):∀ i,Hf x (i + 1)=Hf (clr x) i
 | 0=>rfl
 | i + 1=>by rw [Hf,M4 x i]; rfl
def wtf:Nat->Nat->Nat
 | 0,_=>0
 | f + 1,x=>if x=0 then 0 else wtf f (clr x) + 1
def wt (x:Nat):Nat:=wtf x x
theorem A20:∀ (f x:Nat),x<=f->Hf x (wtf f x)=0/\∀ i,i < wtf f x->Hf x i ≠ 0
 | 0,x,h=>⟨by simp [wtf,Hf]; omega,fun i hi=>by simp [wtf] at hi⟩
 | f + 1,x,h=>by
   unfold wtf
   by_cases h0:x=0
   ·subst h0
    exact ⟨by simp [Hf],fun i hi=>by simp at hi⟩
   ·rw [if_neg h0]
    obtain ⟨h1,h2⟩:=A20 f (clr x) (by have:=Awb h0; omega)
    refine ⟨by rw [M4]; exact h1,fun i hi=>?_⟩
    cases i with
    | zero=>exact h0
    | succ i=>rw [M4]; exact h2 i (by omega)
theorem Ws (x:Nat):Hf x (wt x)=0:=(A20 x x (Nat.le_refl _)).1
theorem Ss {x i:Nat} (h:i < wt x):Hf x i ≠ 0:=(A20 x x (Nat.le_refl _)).2 i h
theorem Ara (y:Nat):clr (2 * y)=2 * clr y:=by
 unfold clr
 by_cases h:y=0
 ·subst h; rfl
 refine Nat.eq_of_testBit_eq fun k=>?_
 have e:2 * y - 1=2 * (y - 1) + 1:=by omega
 cases k with
 | zero=>simp [Nat.testBit_zero]
 | succ k =>
   rw [Nat.testBit_and,Nat.testBit_succ,Nat.testBit_succ,Nat.testBit_succ,e,show 2 * y / 2=y by omega,show (2 * (y - 1) + 1) / 2=y - 1 by omega,show 2 * (y &&& (y - 1)) / 2=y &&& (y - 1) by omega,Nat.testBit_and]
theorem A4j (y:Nat):clr (2 * y + 1)=2 * y:=by
 unfold clr
 refine Nat.eq_of_testBit_eq fun k=>?_
 cases k with
 | zero=>simp [Nat.testBit_zero]
 | succ k =>
   rw [Nat.testBit_and,Nat.testBit_succ,Nat.testBit_succ,show (2 * y + 1 - 1) / 2=y by omega,show (2 * y + 1) / 2=y by omega,Nat.testBit_succ,show 2 * y / 2=y by omega,Bool.and_self]
theorem Mf (y:Nat):∀ i,Hf (2 * y) i=2 * Hf y i
 | 0=>rfl
 | i + 1=>by rw [Hf,Mf y i,Ara]; rfl
theorem A7k:∀ {n x:Nat},x < 2 ^ n->Hf x n=0
 | 0,x,h=>by simp at h; subst h; rfl
 | n + 1,x,h=>by
   have h1:x / 2 < 2 ^ n:=by rw [Nat.pow_succ] at h; omega
   have ih:=A7k h1
   rcases Nat.mod_two_eq_zero_or_one x with h2 | h2
   ·rw [show x=2 * (x / 2) by omega,Mf,Hf,ih]; rfl
   ·rw [show x=2 * (x / 2) + 1 by omega,M4,A4j,Mf,ih]
theorem A1z {n x:Nat} (h:x < 2 ^ n):wt x<=n:=by
 rcases Nat.lt_or_ge n (wt x) with h1 | h1
 ·exact absurd (A7k h) (Ss h1)
 ·exact h1
def hvf:Nat->Nat->Nat
 | 0,_=>0
 | f + 1,x=>if x=0 then 0 else hvf f (x / 2) + 1
def bl (x:Nat):Nat:=hvf x x
theorem Zr:∀ (f x:Nat),x<=f->x / 2 ^ hvf f x=0/\∀ i,i < hvf f x->x / 2 ^ i ≠ 0
 | 0,x,h=>⟨by simp [hvf]; omega,fun i hi=>by simp [hvf] at hi⟩
 | f + 1,x,h=>by
   unfold hvf
   by_cases h0:x=0
   ·subst h0
    exact ⟨by simp,fun i hi=>by simp at hi⟩
   ·rw [if_neg h0]
    obtain ⟨h1,h2⟩:=Zr f (x / 2) (by omega)
    refine ⟨by rw [Nat.pow_succ',← Nat.div_div_eq_div_mul]; exact h1,fun i hi=>?_⟩
    cases i with
    | zero=>simpa using h0
    | succ i=>rw [Nat.pow_succ',← Nat.div_div_eq_div_mul]; exact h2 i (by omega)
theorem Aao (x:Nat):x / 2 ^ bl x=0:=(Zr x x (Nat.le_refl _)).1
theorem Au8 {x i:Nat} (h:i < bl x):x / 2 ^ i ≠ 0:=(Zr x x (Nat.le_refl _)).2 i h
theorem Tm {n x:Nat} (h:x < 2 ^ n):bl x<=n:=by
 rcases Nat.lt_or_ge n (bl x) with h1 | h1
 ·exact absurd (Nat.div_eq_of_lt h) (Au8 h1)
 ·exact h1
theorem Asf {x i m:Nat} (h:x < m):x / 2 ^ i < m:=Nat.lt_of_le_of_lt (Nat.div_le_self _ _) h
end Go.Proofs.YtfhiggfmkjmeiaaGreat
namespace Go.Proofs.YtfhiggfmkjmeiaaGreat
open Go Go.RowKit
theorem A2 {α:Type} {c:Bool} (h:c=true) {a b:α}:cond c a b=a:=by rw [h]; rfl
theorem A1 {α:Type} {c:Bool} (h:c=false) {a b:α}:cond c a b=b:=by rw [h]; rfl
def eB:Enc Nat:=⟨fun a=>[vb a],5,1,fun a=>⟨rfl,rfl,rfl⟩⟩
theorem gD {l:List Nat} {i:Nat} (h:i < l.length):l[i]?=some (l.getD i 0):=by
 rw [List.getD_eq_getElem?_getD,List.getElem?_eq_getElem h]; rfl
theorem Enc.csTake {α:Type} (e:Enc α):∀ (l:List α) (n:Nat),(e.cs l).take (n * e.sz)=e.cs (l.take n)
 | [],n=>by simp [Enc.cs]
 | a :: l,0=>by simp [Enc.cs]
 | a :: l,n + 1=>by
   have h:=Enc.csTake e l n
   have hl:=e.len a
   unfold Enc.cs at h ⊢
   rw [List.flatMap_cons,List.take_succ_cons,List.flatMap_cons,← h,List.take_append,hl,List.take_of_length_le (by rw [hl,Nat.succ_mul]; omega),Nat.succ_mul,Nat.add_sub_cancel]
theorem Enc.csDrop {α:Type} (e:Enc α):∀ (l:List α) (n:Nat),(e.cs l).drop (n * e.sz)=e.cs (l.drop n)
 | [],n=>by simp [Enc.cs]
 | a :: l,0=>by simp [Enc.cs]
 | a :: l,n + 1=>by
   have h:=Enc.csDrop e l n
   have hl:=e.len a
   unfold Enc.cs at h ⊢
   rw [List.flatMap_cons,List.drop_succ_cons,← h,List.drop_append,hl,List.drop_of_length_le (by rw [hl,Nat.succ_mul]; omega),Nat.succ_mul,Nat.add_sub_cancel,List.nil_append]
theorem vwT {α:Type} (e:Enc α) (l:List α) (n:Nat) (h:n<=l.length):Fd.v (((e.cs l).drop (0 * e.sz)).take (n * e.sz)) n=.v (e.cs (l.take n)) (l.take n).length:=by
 rw [Nat.zero_mul,List.drop_zero,Enc.csTake,List.length_take,Nat.min_eq_left h]
theorem vwS {α:Type} (e:Enc α) (l:List α) (i n:Nat) (h:i + n<=l.length):Fd.v (((e.cs l).drop (i * e.sz)).take (n * e.sz)) n=.v (e.cs ((l.drop i).take n)) ((l.drop i).take n).length:=by
 rw [Enc.csDrop,Enc.csTake,List.length_take,List.length_drop,Nat.min_eq_left (by omega)]
def B8 (l:List Nat):Prop:=∀ i,l.getD i 0 < 256
theorem B8.mem {l:List Nat} (h:∀ x ∈ l,x < 256):B8 l:=fun i=>by
 rw [List.getD_eq_getElem?_getD]
 cases hx:l[i]? with
 | none=>decide
 | some x=>exact h x (List.mem_of_getElem? hx)
theorem B8.of {l:List Nat} (h:B8 l):∀ x ∈ l,x < 256:=fun x hx=>by
 obtain ⟨i,hi⟩:=List.mem_iff_getElem?.1 hx
 have:=h i
 rw [List.getD_eq_getElem?_getD,hi] at this
 exact this
theorem B8.take {l:List Nat} (h:B8 l) (n:Nat):B8 (l.take n):=.mem fun x hx=>h.of x (List.mem_of_mem_take hx)
theorem B8.app {l m:List Nat} (h:B8 l) (h':B8 m):B8 (l ++ m):=.mem fun x hx=>(List.mem_append.1 hx).elim (h.of x) (h'.of x)
theorem B8.set {l:List Nat} (h:B8 l) {i a:Nat} (ha:a < 256):B8 (l.set i a):=.mem fun x hx=>(List.mem_or_eq_of_mem_set hx).elim (h.of x) (fun e=>e ▸ ha)
theorem B8.rep (n:Nat):B8 (List.replicate n 0):=.mem fun x hx=>by rw [(List.mem_replicate.1 hx).2]; decide
def dlf (l:List Nat):Nat->Nat
 | 0=>0
 | n + 1=>if l.getD n 0=0 then dlf l n else n + 1
def dl (l:List Nat):Nat:=dlf l l.length
theorem Akz (l:List Nat):∀ n,dlf l n<=n
 | 0=>Nat.le_refl _
 | n + 1=>by unfold dlf; split; have:=Akz l n; omega; omega
theorem Gh (l:List Nat):dl l<=l.length:=Akz l _
theorem A7t (l:List Nat):∀ n i,dlf l n<=i->i < n->l.getD i 0=0
 | 0,i,_,h=>by omega
 | n + 1,i,h1,h2=>by
   unfold dlf at h1
   split at h1
   ·rename_i hz
    rcases Nat.lt_or_ge i n with h3 | h3
    ·exact A7t l n i h1 h3
    ·rw [show i=n by omega]; exact hz
   ·omega
theorem A7s (l:List Nat):∀ n,dlf l n ≠ 0->l.getD (dlf l n - 1) 0 ≠ 0
 | 0,h=>absurd rfl h
 | n + 1,h=>by
   unfold dlf at h ⊢
   split
   ·rename_i hz
    rw [if_pos hz] at h
    exact A7s l n h
   ·rename_i hz; exact hz
theorem A4x {l:List Nat} {i:Nat} (h1:dl l<=i) (h2:i < l.length):l.getD i 0=0:=A7t l _ i h1 h2
theorem A4w {l:List Nat} (h:dl l ≠ 0):l.getD (dl l - 1) 0 ≠ 0:=A7s l _ h
def arL (f:Nat->Nat):Nat->Nat->List Nat
 | 0,_=>[]
 | n + 1,i=>f i :: arL f n (i + 1)
theorem Bh (f:Nat->Nat):∀ n i,(arL f n i).length=n
 | 0,_=>rfl
 | n + 1,i=>by rw [arL,List.length_cons,Bh f n (i + 1)]
theorem Yr {l:List Nat}:∀ n i,l.length=n + i->(arL (fun j=>l.getD j 0) n i)=l.drop i
 | 0,i,h=>by rw [arL,List.drop_of_length_le (by omega)]
 | n + 1,i,h=>by
   rw [arL,Yr n (i + 1) (by omega),List.drop_eq_getElem_cons (show i < l.length by omega),List.getD_eq_getElem?_getD,List.getElem?_eq_getElem (by omega)]; rfl
theorem Ij {f:Nat->Nat} (h:∀ j,f j < 256) (n i:Nat):B8 (arL f n i):=.mem fun x hx=>by
 induction n generalizing i with
 | zero=>cases hx
 | succ n ih =>
   rcases List.mem_cons.1 hx with rfl | hx
   ·exact h _
   ·exact ih _ hx
theorem Ys (f:Nat->Nat):∀ n i,arV .u8 (nf f) n i=eB.cs (arL f n i)
 | 0,_=>rfl
 | n + 1,i=>by
   have h:=Ys f n (i + 1)
   unfold Enc.cs at h ⊢
   rw [arV,arL,List.flatMap_cons,h]; rfl
theorem Ef (f:Nat->Nat) (n:Nat):V.flat ρN [.ar .u8 n (nf f)]=eB.cs (arL f n 0):=by
 rw [← Ys]; simp only [V.flat,V.den,List.append_nil]; rfl
theorem Sp.resE {P:Program} {f:FuncId} {args:List V} {pre post:List B} {res:V} (h:Sp P f args pre res post) {res':V} (hd:V.den ρN res=V.den ρN res') (h1:V.lt L0 res=true) (h2:V.lt L0 res'=true) (h3:res'.nz=true):Sp P f args pre res' post :=
 ⟨h.cl,h.ln,h.fr,⟨V.lt_mono (fun i hi=>by cases hi) _ h2,h3⟩,h.ro,fun ρ M w hE=>(h.out ρ M w hE).mono fun e w' ⟨ρ',he,hE'⟩=>⟨ρ',by
  rw [he,V.den_ext (n:=L0) (ρ:=ρN) (fun i hi=>by cases hi) _ h1,V.den_ext (n:=L0) (ρ:=ρN) (fun i hi=>by cases hi) _ h2,hd],hE'⟩⟩
theorem Sp.argE {P:Program} {f:FuncId} {args args':List V} {pre post:List B} {res:V} (h:Sp P f args pre res post) (hd:∀ ρ,V.dens ρ args=V.dens ρ args') (h2:V.lts (liv pre) args'=true):Sp P f args' pre res post :=
 ⟨⟨h.cl.1,h2⟩,h.ln,h.fr,h.rs,h.ro,fun ρ M w hE=>by rw [← hd]; exact h.out ρ M w hE⟩
theorem Aqt {k:IntKind} {n:Nat} {f g:Nat->Int} (h:∀ j,j < n->f j=g j) (ρ:Env):V.dens ρ [.ar k n f]=V.dens ρ [.ar k n g]:=by
 simp only [V.dens,V.den]; rw [Jj n 0 fun j _ hj=>h j (by omega)]
theorem ldN {l:List Nat} {n:Nat} (h:l.length=n):((eB.cs l).drop 0).take n=(V.den ρN (.ar .u8 n (nf fun j=>l.getD j 0))).cells.toList:=by
 have e:(V.den ρN (.ar .u8 n (nf fun j=>l.getD j 0))).cells.toList=arV .u8 (nf fun j=>l.getD j 0) n 0:=by rw [V.den]; rfl
 rw [e,Ys (fun j=>l.getD j 0),Yr n 0 (by omega),List.drop_zero,List.drop_zero,List.take_of_length_le]
 rw [eB.csLen,h]; exact Nat.le_of_eq (Nat.mul_one n)
theorem K4 {k:IntKind} {n:Nat} {f g:Nat->Int} (h:∀ j,j < n->f j=g j):V.den ρN (.ar k n f)=V.den ρN (.ar k n g):=by
 simp only [V.den]; rw [Jj n 0 fun j _ hj=>h j (by omega)]
abbrev mpB (c:Int->Nat->Nat):Int->V:=fun k=>.ar .u8 72 (nf (c k))
theorem Acn (c:Int->Nat->Nat) (k:Int) (a:Nat->Nat):∀ i,mpB (upZ c k a) i=upM (mpB c) k (.ar .u8 72 (nf a)) i:=fun i=>by
 unfold upZ upM; simp only [mpB]; split <;> rfl
end Go.Proofs.YtfhiggfmkjmeiaaGreat
namespace Go.Proofs.YtfhiggfmkjmeiaaGreat
open Go Go.RowKit
def nb:Nat->List B->List (Nat × B)
 | _,[]=>[]
 | i,b :: l=>(i,b) :: nb (i + 1) l
def A5j {α:Type} (f:α->α) (x:α):Nat->α
 | 0=>x
 | n + 1=>f (A5j f x n)
theorem W3 {α:Type} (f:α->α) (x:α):∀ n,A5j f x (n + 1)=A5j f (f x) n
 | 0=>rfl
 | n + 1=>by rw [A5j,W3 f x n]; rfl
def cnt {α:Type} (go:α->Bool) (f:α->α):Nat->α->Nat
 | 0,_=>0
 | k + 1,x=>bif go x then cnt go f k (f x) + 1 else 0
theorem Ab0 {α:Type} {go:α->Bool} {f:α->α}:∀ {k x i},i < cnt go f k x->go (A5j f x i)=true
 | 0,x,i,h=>absurd h (Nat.not_lt_zero _)
 | k + 1, x, i, h => by
   unfold cnt at h
   cases q:go x with
   | false=>rw [q] at h; exact absurd h (Nat.not_lt_zero _)
   | true =>
     rw [q] at h
     cases i with
     | zero=>exact q
     | succ i=>rw [W3]; exact Ab0 (k:=k) (Nat.lt_of_succ_lt_succ h)
theorem A8q {α:Type} {f:α->α} {go:α->Bool} {p:α->Prop} (hp:∀ x,p x->go x=true->p (f x)) {k:Nat} {x:α} (h:p x):∀ {i},i<=cnt go f k x->p (A5j f x i)
 | 0,_=>h
 | i + 1,hi=>hp _ (A8q hp (k:=k) h (Nat.le_of_succ_le hi)) (Ab0 hi)
theorem Ae6 {α:Type} {go:α->Bool} {f:α->α} {p:α->Prop} (hp:∀ x,p x->go x=true->p (f x)) (m:α->Nat) (hm:∀ x,p x->go x=true->m (f x) < m x):∀ {k x},p x->m x<=k->go (A5j f x (cnt go f k x))=false
 | 0,x,h,hk=>by
   show go x=false
   cases q:go x with
   | false=>rfl
   | true=>have:=hm x h q; omega
 | k + 1, x, h, hk => by
   unfold cnt
   cases q:go x with
   | false=>exact q
   | true =>
     show go (A5j f x (cnt go f k (f x) + 1))=false
     rw [W3]
     exact Ae6 hp m hm (hp x h q) (by have:=hm x h q; omega)
def ff (p:Nat->Bool):Nat->Nat
 | 0=>0
 | n + 1=>if ff p n < n then ff p n else bif p n then n else n + 1
theorem Qd (p:Nat->Bool):∀ n,ff p n<=n
 | 0=>Nat.le_refl _
 | n + 1=>by
   have:=Qd p n
   unfold ff
   split
   ·omega
   ·cases p n
    ·exact Nat.le_refl _
    ·exact Nat.le_succ _
theorem Qe {p:Nat->Bool}:∀ {n i},i < ff p n->p i=false
 | 0,i,h=>absurd h (Nat.not_lt_zero _)
 | n + 1,i,h=>by
   have hl:=Qd p n
   unfold ff at h
   split at h
   ·exact Qe h
   ·cases q:p n with
    | true=>rw [q,cond_true] at h; exact Qe (n:=n) (by omega)
    | false =>
      rw [q,cond_false] at h
      rcases Nat.lt_or_ge i n with h1 | h1
      ·exact Qe (n:=n) (by omega)
      ·rw [show i=n by omega]; exact q
theorem U0 {p:Nat->Bool}:∀ {n},ff p n < n->p (ff p n)=true
 | 0,h=>absurd h (Nat.not_lt_zero _)
 | n + 1,h=>by
   unfold ff at h ⊢
   split
   ·rename_i h1; exact U0 h1
   ·rename_i h1
    rw [if_neg h1] at h
    cases q:p n with
    | true=>exact q
    | false=>rw [q,cond_false] at h; omega
