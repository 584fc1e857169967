import Derived.Test.YtfhiggfmkjmeiaaGreatFxR
set_option linter.all false
namespace Go.Proofs.YtfhiggfmkjmeiaaGreat
open Go Go.RowKit
def B.own:B->Bool
 | .free | .gone | .ro _=>false
 | _=>true
def Wp (σ:Nat->Vw) (g:Nat):Bool:=match σ g with | .id j=>Nat.beq j g | _=>false
theorem A6q {σ:Nat->Vw} {g:Nat} (h:Wp σ g=true):σ g=.id g:=by
 unfold Wp at h
 split at h
 ·rename_i j hj; rw [hj,Nat.eq_of_beq_eq_true h]
 ·cases h
mutual
theorem V.rn_id {σ:Nat->Vw}:∀ x:V,V.lt (Wp σ) x=true->V.rn σ x=x
 | .z,h | .v _,h | .ar _ _ _,h=>by rw [V.rn]
 | .pt g _,h | .pe g _ _ _,h | .ps g _ _,h | .ss g _ _ _,h | .sg g _ _ _,h | .mp g,h | .yl g,h | .sk g _ _ _ _,h | .sl g,h=>by
   simp only [V.lt] at h
   rw [V.rn,A6q h]
 | .ag l,h=>by simp only [V.lt] at h; rw [V.rn,V.rns_id l h]
 | .tu l,h=>by simp only [V.lt] at h; rw [V.rn,V.rns_id l h]
 | .fn _ b c,h=>by simp only [V.lt,bq] at h; rw [V.rn,V.rns_id b h.1,V.rns_id c h.2]
theorem V.rns_id {σ:Nat->Vw}:∀ l:List V,V.lts (Wp σ) l=true->V.rns σ l=l
 | [],_=>by rw [V.rns]
 | x :: l,h=>by simp only [V.lts,bq] at h; rw [V.rns,V.rn_id x h.1,V.rns_id l h.2]
end
mutual
theorem V.alive_id {σ:Nat->Vw}:∀ x:V,V.lt (Wp σ) x=true->V.alive σ x=true
 | .z,h | .v _,h | .ar _ _ _,h | .sl _,h=>by rw [V.alive]
 | .pt g _,h | .pe g _ _ _,h | .ps g _ _,h | .ss g _ _ _,h | .sg g _ _ _,h | .mp g,h | .yl g,h | .sk g _ _ _ _,h=>by
   simp only [V.lt] at h
   rw [V.alive,A6q h]; rfl
 | .ag l,h=>by simp only [V.lt] at h; rw [V.alive,V.alives_id l h]
 | .tu l,h=>by simp only [V.lt] at h; rw [V.alive,V.alives_id l h]
 | .fn _ b c,h=>by simp only [V.lt,bq] at h; rw [V.alive,V.alives_id b h.1,V.alives_id c h.2]; rfl
theorem V.alives_id {σ:Nat->Vw}:∀ l:List V,V.lts (Wp σ) l=true->V.alives σ l=true
 | [],_=>by rw [V.alives]
 | x :: l,h=>by simp only [V.lts,bq] at h; rw [V.alives,V.alive_id x h.1,V.alives_id l h.2]; rfl
end
theorem B.rn_id {σ:Nat->Vw}:∀ {b:B},b.lt (Wp σ)=true->b.rn σ=b
 | .blk l _,h=>by rw [B.rn,V.rns_id l h]
 | .ro b,h=>by rw [B.rn,B.rn_id (b:=b) h]
 | .gone,_ | .free,_ | .row _ _,_ | .mp _ _,_ | .lo _ _,_ | .dfs,_=>rfl
theorem B.alive_id {σ:Nat->Vw}:∀ {b:B},b.lt (Wp σ)=true->b.alive σ=true
 | .blk l _,h=>V.alives_id l h
 | .ro b,h=>B.alive_id (b:=b) h
 | .gone,_ | .free,_ | .row _ _,_ | .mp _ _,_ | .lo _ _,_ | .dfs,_=>rfl
section
variable {X:Ctx} {ρ:Env} {H S:List B} {w w':World} {P:Program} {nT:Nat} {a:Act} {ds:List Deferred}
theorem Emb.rei (h : Emb X ρ H w) {σ : Nat -> Vw} {S : List B}
   (F:∀ (i:Nat) b,S[i]?=some b->b=.free ∨ (b.isNil=true/\b.isRo=false/\σ i=.nil) ∨ ∃ j,σ i=.id j/\H[j]?=some (b.rn σ))
   (al:∀ (i:Nat) b,S[i]?=some b->b.alive σ=true)
   (inj:∀ (i i' j:Nat) b b',S[i]?=some b->S[i']?=some b'->b.own=true->b'.own=true->σ i=.id j->σ i'=.id j->i=i')
   (cl:∀ (i:Nat) b,S[i]?=some b->b.lt (liv S)=true) (ag:∀ i,i < X.k->X.fx i=true->σ i=.id i) (kl:∀ i,i < X.k->liv S i=true):Emb X (ρ.via σ) S w:=by
 have F3:∀ {i:Nat} {b:B},S[i]?=some b->(∃ j,σ i=.id j/\H[j]?=some (b.rn σ)/\b.res (ρ.via σ) ((ρ.via σ) i)=(b.rn σ).res ρ (ρ j)) ∨ ((b.res (ρ.via σ) ((ρ.via σ) i)).ok w/\∀ g,g ∉ (b.res (ρ.via σ) ((ρ.via σ) i)).fp):=fun {i b} hb=>by
  rcases F i b hb with rfl | ⟨h1,h2,h3⟩ | ⟨j,h1,h2⟩
  ·exact .inr ⟨S4 w,fun g=>G8⟩
  ·obtain ⟨α,e,rfl | rfl⟩:=J8 h1
   ·refine .inr ?_
    have h4:(ρ.via σ) i=Loc.nil:=by unfold Env.via; rw [h3]
    simp only [B.res,h4]
    exact ⟨World.ownsRow_nil w 0 _ _,fun g=>by simp [Res.fp,Loc.slw,Loc.nil,Value.ownBlock]⟩
   ·cases h2
  ·exact .inl ⟨j,h1,h2,by rw [B.res_rn (al i b hb)]; unfold Env.via; rw [h1]⟩
 have noFp:∀ {b:B} {ρ:Env} {c:Loc} {g:Nat},b.own=false->g ∈ (b.res ρ c).fp->False:=fun {b ρ c g} hb hg=>by
  cases b <;> first | exact G8 hg | cases hb
 refine ⟨⟨?_,?_,?_,h.hs.fr⟩,?_,cl,?_,kl,?_⟩
 ·intro i r hi
  obtain ⟨b,hb,rfl⟩:=H4 hi
  rcases F3 hb with ⟨j,h1,h2,h3⟩ | ⟨h1,_⟩
  ·rw [h3]; exact h.hs.ok j _ (Bd h2)
  ·exact h1
 ·intro i i' r r' hne hi hi' g hg hg'
  obtain ⟨b,hb,rfl⟩:=H4 hi
  obtain ⟨b',hb',rfl⟩:=H4 hi'
  cases ho:b.own with
  | false=>exact noFp ho hg
  | true =>
    cases ho':b'.own with
    | false=>exact noFp ho' hg'
    | true =>
      rcases F3 hb with ⟨j,h1,h2,h3⟩ | ⟨_,h1⟩
      ·rcases F3 hb' with ⟨j',h1',h2',h3'⟩ | ⟨_,h1'⟩
       ·rw [h3] at hg; rw [h3'] at hg'
        exact h.hs.ap j j' _ _ (fun e=>hne (inj i i' j b b' hb hb' ho ho' h1 (by rw [e]; exact h1'))) (Bd h2) (Bd h2') g hg hg'
       ·exact h1' g hg'
      ·exact h1 g hg
 ·intro i r hi g hg
  obtain ⟨b,hb,rfl⟩:=H4 hi
  rcases F3 hb with ⟨j,h1,h2,h3⟩ | ⟨_,h1⟩
  ·rw [h3] at hg; exact h.hs.my j _ (Bd h2) g hg
  ·exact absurd hg (h1 g)
 ·intro i b hb
  rcases F i b hb with rfl | ⟨h1,h2,h3⟩ | ⟨j,h1,h2⟩
  ·trivial
  ·obtain ⟨α,e,rfl | rfl⟩:=J8 h1
   ·have h4:(ρ.via σ) i=Loc.nil:=by unfold Env.via; rw [h3]
    rw [h4]; exact ⟨rfl,rfl,fun _=>⟨rfl,rfl⟩⟩
   ·cases h2
  ·have:=h.sd j _ h2
   have h4:(ρ.via σ) i=ρ j:=by unfold Env.via; rw [h1]
   rw [h4]
   cases hro:b.isRo with
   | false=>exact (B.side_rn (al i b hb) hro).1 this
   | true =>
     cases b with
     | ro b =>
       have hal:b.alive σ=true:=by have:=al i _ hb; simpa [B.alive] using this
       exact (B.roOk_rn (b:=b) hal).1 this
     | _=>cases hro
 ·intro i hi hf
  show (ρ.via σ) i=_
  unfold Env.via
  rw [ag i hi hf]
  exact h.ag i hi hf
 ·intro i b hi hf hb
  rcases F i b hb with rfl | ⟨h1,h2,h3⟩ | ⟨j,h1,h2⟩
  ·rfl
  ·rw [ag i hi hf] at h3; cases h3
  ·rw [ag i hi hf] at h1; cases h1
   have:=h.nr i _ hi hf h2
   cases b <;> first | rfl | cases this
def Lm:List (Nat × V)->Nat->Bool
 | [],_=>false
 | (j,_) :: T,i=>bif Nat.beq i j then true else Lm T i
def Bb:List Nat->Nat->Bool
 | [],_=>false
 | j :: l,i=>bif Nat.beq i j then true else Bb l i
def zsT (l:List Nat):List (Nat × V):=l.map fun t=>(t,.z)
def W7:List (Nat × Vw)->Nat->Bool
 | [],_=>false
 | (j,_) :: T,i=>bif Nat.beq j i then true else W7 T i
def Ajh (j:Nat):List (Nat × Vw)->Bool
 | []=>false
 | (_,.id k) :: l=>bif Nat.beq k j then true else Ajh j l
 | _ :: l=>Ajh j l
def A9n:List (Nat × Vw)->Bool
 | []=>true
 | (_,.id k) :: l=>!Ajh k l && A9n l
 | _ :: l=>A9n l
def Aix (Tx T1:List (Nat × V)):List V:=Tx.map fun p=>bif p.2.nz then Ay T1 p.1 else .z
def Ayi (σ:List (Nat × Vw)) (H1:List B) (p:Nat × B):Fd:=match sgA σ p.1 with | .id j=>(match H1[j]? with | some b=>.b b | none=>.no) | _=>.no
def Ad5 (σ:List (Nat × Vw)) (H1:List B) (W:List (Nat × B)):List Fd:=W.map (Ayi σ H1)
def A9s (σ:List (Nat × Vw)) (W:List (Nat × B)):List B->Nat->Bool
 | [],_=>true
 | b :: H,i=>((look i W).isSome || b.lt (Wp (sgA σ))) && A9s σ W H (i + 1)
def Azv (b:Option B):Bool:=match b with | some .free | none=>true | _=>false
def A3i (base:St) (Gz:List Nat) (σ:List (Nat × Vw)) (Tx:List (Nat × V)) (W:List (Nat × B)) (T1:List (Nat × V)) (log:List Nat) (S:List B):Bool :=
 Tx.all (fun p=>V.alive (sgA σ) p.2 && V.lt (liv S) p.2) &&
 base.T.all (fun p=>Lm Tx p.1 || Bb Gz p.1 || !(Ay base.T p.1).nz || ((Ay T1 p.1).nz && V.lt (Wp (sgA σ)) (Ay base.T p.1))) &&
 W.all (fun p=>p.2.alive (sgA σ) && p.2.lt (liv S) && !p.2.isFree && (match sgA σ p.1 with | .id _=>true | .nil=>p.2.isNil && !p.2.isRo | .sg _ _ _ _ | .ss _ _ _ _=>false)) &&
 σ.all (fun q=>(look q.1 W).isSome && (match base.H[q.1]? with | some (.row _ _) | some .free=>true | _=>false) && (match q.2 with | .id j=>W7 σ j || (match S[j]? with | some b=>!b.own | none=>true) | _=>true)) &&
 A9n σ && A9s σ W base.H 0 && log.all (fun g=>(look g W).isSome || Azv base.H[g]?)
structure Base (X:Ctx) (s:St):Prop where
 cl:∀ (i:Nat) b,s.H[i]?=some b->b.lt (liv s.H)=true
 tl:tlt (liv s.H) s.T
 kl:∀ i,i < X.k->liv s.H i=true
 nr:∀ (i:Nat) b,i < X.k->X.fx i=true->s.H[i]?=some b->b.isRow=false
theorem At.base {s:St} (h:At X ds nT s a w):Base X s:=by
 obtain ⟨ρ,hE,_,hl⟩:=h
 exact ⟨hE.cl,hl,hE.kl,hE.nr⟩
theorem Jw (A C:List (Nat × V)) (t:Nat):Ay (A ++ C) t=bif Lm A t then Ay A t else Ay C t:=by
 induction A with
 | nil=>rfl
 | cons p A ih =>
   obtain ⟨j,x⟩:=p
   rw [List.cons_append,Ay,Ay,Lm]
   cases Nat.beq t j with
   | true=>rfl
   | false=>exact ih
theorem Agp (l:List Nat) (t:Nat):Ay (zsT l) t=.z:=by
 induction l with
 | nil=>rfl
 | cons j l ih =>
   unfold zsT at ih ⊢
   rw [List.map_cons,Ay]
   cases Nat.beq t j with
   | true=>rfl
   | false=>exact ih
theorem Y4 (l:List Nat) (t:Nat):Lm (zsT l) t=Bb l t:=by
 induction l with
 | nil=>rfl
 | cons j l ih =>
   unfold zsT at ih ⊢
   rw [List.map_cons,Lm,Bb,ih]
theorem Rc {T:List (Nat × V)} {t:Nat} (h:Lm T t=true):(t,Ay T t) ∈ T:=by
 induction T with
 | nil=>cases h
 | cons p T ih =>
   obtain ⟨j,x⟩:=p
   rw [Lm] at h
   rw [Ay]
   cases hb:Nat.beq t j with
   | true=>rw [Nat.eq_of_beq_eq_true hb]; simp
   | false=>rw [hb] at h; exact List.mem_cons_of_mem _ (ih h)
theorem Atx {T:List (Nat × V)} {t:Nat} (h:Lm T t=false):Ay T t=.z:=by
 induction T with
 | nil=>rfl
 | cons p T ih =>
   obtain ⟨j,x⟩:=p
   rw [Lm] at h
   rw [Ay]
   cases hb:Nat.beq t j with
   | true=>rw [hb] at h; cases h
   | false=>rw [hb] at h; exact ih h
theorem A1c {σ:List (Nat × Vw)} {g:Nat} (h:W7 σ g=false):sgA σ g=.id g:=by
 induction σ with
 | nil=>rfl
 | cons p σ ih =>
   obtain ⟨j,v⟩:=p
   rw [W7] at h
   rw [sgA]
   cases hb:Nat.beq j g with
   | true=>rw [hb] at h; cases h
   | false=>rw [hb] at h; exact ih h
theorem A6p {σ:List (Nat × Vw)} {g:Nat} (h:W7 σ g=true):(g,sgA σ g) ∈ σ:=by
 induction σ with
 | nil=>cases h
 | cons p σ ih =>
   obtain ⟨j,v⟩:=p
   rw [W7] at h
   rw [sgA]
   cases hb:Nat.beq j g with
   | true=>rw [Nat.eq_of_beq_eq_true hb]; simp
   | false=>rw [hb] at h; exact List.mem_cons_of_mem _ (ih h)
theorem Agq {σ:List (Nat × Vw)} {i j:Nat} (h:Ajh j σ=false):(i,Vw.id j) ∉ σ:=by
 induction σ with
 | nil=>simp
 | cons p σ ih =>
   obtain ⟨q,v⟩:=p
   intro hm
   rcases List.mem_cons.1 hm with e | m2
   ·cases e
    rw [Ajh,Nat.beq_refl] at h; cases h
   ·clear hm
    cases v with
    | id k =>
      rw [Ajh] at h
      cases hb:Nat.beq k j with
      | true=>rw [hb] at h; cases h
      | false=>rw [hb] at h; exact ih h m2
    | _=>exact ih h m2
theorem Acx {σ:List (Nat × Vw)} (h:A9n σ=true) {i i' j:Nat} (h1:(i,Vw.id j) ∈ σ) (h2:(i',Vw.id j) ∈ σ):i=i':=by
 induction σ with
 | nil=>cases h1
 | cons p σ ih =>
   obtain ⟨q,v⟩:=p
   cases v with
   | id k =>
     rw [A9n,bq,Bool.not_eq_true'] at h
     rcases List.mem_cons.1 h1 with e1 | m1
     ·cases e1
      rcases List.mem_cons.1 h2 with e2 | m2
      ·cases e2; rfl
      ·exact absurd m2 (Agq h.1)
     ·rcases List.mem_cons.1 h2 with e2 | m2
      ·cases e2; exact absurd m1 (Agq h.1)
      ·exact ih h.2 m1 m2
   | _ =>
     rcases List.mem_cons.1 h1 with e1 | m1
     ·cases e1
     ·rcases List.mem_cons.1 h2 with e2 | m2
      ·cases e2
      ·exact ih h m1 m2
theorem Wk {σ:List (Nat × Vw)} {W:List (Nat × B)}:∀ {H:List B} {i q:Nat} {b:B},A9s σ W H i=true->H[q]?=some b->look (i + q) W=none->b.lt (Wp (sgA σ))=true
 | [],i,q,b,h,hb,hl=>by simp at hb
 | c :: H,i,0,b,h,hb,hl=>by
   rw [A9s,bq,Bool.or_eq_true] at h
   cases hb
   rw [Nat.add_zero] at hl
   rcases h.1 with h1 | h1
   ·rw [hl] at h1; cases h1
   ·exact h1
 | c :: H,i,q + 1,b,h,hb,hl=>by
   rw [A9s,bq] at h
   exact Wk (q:=q) h.2 (by simpa using hb) (by rwa [show i + 1 + q=i + (q + 1) by omega])
theorem Ayw {σ:List (Nat × Vw)} {H1:List B} {W:List (Nat × B)} (h:Ad5 σ H1 W=A1i σ W) {p:Nat × B} (hp:p ∈ W):Ayi σ H1 p=Apx σ p:=by
 unfold Ad5 A1i at h
 exact List.map_inj_left.1 h p hp
theorem A68 {base s1 : St} {Gz : List Nat} {σ : List (Nat × Vw)} {Tx : List (Nat × V)} {W : List (Nat × B)} {log : List Nat} {n : Nat} {I : List It} {l : List Nat} (hB : Base X base) (hA : At X ds nT s1 a w)
   (ft:∀ t,Bb Gz t=false->Lm Tx t=false->Ay s1.T t=Ay base.T t ∨ Ay s1.T t=.z) (fh:∀ g,Bb log g=false->look g W=none->s1.H[g]?=base.H[g]?)
   (ok:A3i base Gz σ Tx W s1.T log (Em base.H W)=true) (eT:Aix Tx s1.T=A3u σ Tx) (eH:Ad5 σ s1.H W=A1i σ W):At X ds nT ⟨Tx ++ (zsT Gz ++ base.T),Em base.H W,n,I,l⟩ a w:=by
 obtain ⟨ρ,hE,ha,ht⟩:=hA
 simp only [A3i,bq] at ok
 obtain ⟨⟨⟨⟨⟨⟨c1,c2⟩,c3⟩,c4⟩,c5⟩,c6⟩,c7⟩:=ok
 have hW:∀ {i:Nat} {b:B},look i W=some b->b.alive (sgA σ)=true/\b.lt (liv (Em base.H W))=true/\b ≠ .free/\(match sgA σ i with | .id _=>true | .nil=>b.isNil && !b.isRo | .sg _ _ _ _ | .ss _ _ _ _=>false)=true:=fun {i b} hl=>by
  have:=(List.all_eq_true.1 c3) _ (Mq hl)
  simp only [bq,Bool.not_eq_true'] at this
  exact ⟨this.1.1.1,this.1.1.2,(fun e=>by rw [e] at this; cases this.1.2),this.2⟩
 have hmono:∀ i,liv base.H i=true->liv (Em base.H W) i=true:=fun i hi=>by
  obtain ⟨b,hb,hf⟩:=Bq.1 hi
  refine Bq.2 ⟨(look i W).getD b,by rw [Eu,hb]; rfl,?_⟩
  cases hl:look i W with
  | none=>exact hf
  | some b'=>exact (hW hl).2.2.1
 have hS:∀ {i:Nat} {b:B},(Em base.H W)[i]?=some b->look i W=some b ∨ (look i W=none/\base.H[i]?=some b):=fun {i b} hb=>by
  rw [Eu] at hb
  cases hq:base.H[i]? with
  | none=>rw [hq] at hb; cases hb
  | some b0 =>
    rw [hq] at hb
    simp only [Option.map_some,Option.some.injEq] at hb
    cases hl:look i W with
    | none=>rw [hl] at hb; exact .inr ⟨rfl,by rw [← hb]; rfl⟩
    | some b'=>rw [hl] at hb; exact .inl (by rw [← hb]; rfl)
 have hkey:∀ {i:Nat},W7 σ i=true->(look i W).isSome=true/\(∀ b,base.H[i]?=some b->b.isRow=true ∨ b=.free)/\(∀ j,sgA σ i=.id j->W7 σ j=true ∨ ∀ b,(Em base.H W)[j]?=some b->b.own=false):=fun {i} hi=>by
  have:=(List.all_eq_true.1 c4) _ (A6p hi)
  simp only [bq] at this
  refine ⟨this.1.1,fun b hb=>?_,fun j hj=>?_⟩
  ·have h2:=this.1.2
   rw [hb] at h2
   cases b <;> first | exact .inl rfl | exact .inr rfl | cases h2
  ·have h2:=this.2
   rw [hj] at h2
   simp only [Bool.or_eq_true] at h2
   rcases h2 with h2 | h2
   ·exact .inl h2
   ·refine .inr fun b hb=>?_
    rw [hb] at h2
    simpa using h2
 have hnk:∀ {i:Nat},look i W=none->sgA σ i=.id i:=fun {i} hl=>A1c (by
  cases hk:W7 σ i with
  | false=>rfl
  | true=>have:=(hkey hk).1; rw [hl] at this; cases this)
 have hE' : Emb X (ρ.via (sgA σ)) (Em base.H W) w := by
  refine hE.rei (fun i b hb=>?_) (fun i b hb=>?_) (fun i i' j b b' hb hb' ho ho' hi hi'=>?_) (fun i b hb=>?_) (fun i hi hf=>?_) (fun i hi=>hmono i (hB.kl i hi))
  ·rcases hS hb with hl | ⟨hl,hb0⟩
   ·have hp:=Ayw eH (Mq hl)
    have h4:=(hW hl).2.2.2
    unfold Ayi Apx at hp
    simp only at hp
    cases hq:sgA σ i with
    | id j =>
      rw [hq] at hp
      simp only at hp
      cases hj:s1.H[j]? with
      | none=>rw [hj] at hp; cases hp
      | some b1 =>
        rw [hj] at hp
        simp only [Fd.b.injEq] at hp
        exact .inr (.inr ⟨j,rfl,by rw [← hp]; exact hj⟩)
    | nil =>
      rw [hq] at h4
      simp only [bq,Bool.not_eq_true'] at h4
      exact .inr (.inl ⟨h4.1,h4.2,rfl⟩)
    | sg g o s n=>rw [hq] at h4; cases h4
    | ss g o s n=>rw [hq] at h4; cases h4
   ·cases hg:Bb log i with
    | true =>
      have hmem:∀ {l:List Nat} {i:Nat},Bb l i=true->i ∈ l:=fun {l i} h=>by
       induction l with
       | nil=>cases h
       | cons q l ih =>
         rw [Bb] at h
         cases hb:Nat.beq i q with
         | true=>rw [Nat.eq_of_beq_eq_true hb]; simp
         | false=>rw [hb] at h; exact List.mem_cons_of_mem _ (ih h)
      have:=(List.all_eq_true.1 c7) i (hmem hg)
      rw [hl,hb0] at this
      simp only [Option.isSome_none,Bool.false_or] at this
      cases b <;> first | exact .inl rfl | cases this
    | false =>
      refine .inr (.inr ⟨i,hnk hl,?_⟩)
      rw [fh i hg hl,hb0,B.rn_id (Wk (q:=i) c6 hb0 (by rwa [Nat.zero_add]))]
  ·rcases hS hb with hl | ⟨hl,hb0⟩
   ·exact (hW hl).1
   ·exact B.alive_id (Wk (q:=i) c6 hb0 (by rwa [Nat.zero_add]))
  ·cases hk:W7 σ i with
   | true =>
     have m1:=A6p hk
     rw [hi] at m1
     cases hk':W7 σ i' with
     | true =>
       have m2:=A6p hk'
       rw [hi'] at m2
       exact Acx c5 m1 m2
     | false =>
       have e:=A1c hk'
       rw [e] at hi'; cases hi'
       rcases (hkey hk).2.2 i' hi with h1 | h1
       ·rw [hk'] at h1; cases h1
       ·rw [h1 b' hb'] at ho'; cases ho'
   | false =>
     have e:=A1c hk
     rw [e] at hi; cases hi
     cases hk':W7 σ i' with
     | true =>
       rcases (hkey hk').2.2 i hi' with h1 | h1
       ·rw [hk] at h1; cases h1
       ·rw [h1 b hb] at ho; cases ho
     | false =>
       rw [A1c hk'] at hi'
       cases hi'; rfl
  ·rcases hS hb with hl | ⟨hl,hb0⟩
   ·exact (hW hl).2.1
   ·exact B.lt_mono hmono (hB.cl i b hb0)
  ·refine A1c ?_
   cases hk:W7 σ i with
   | false=>rfl
   | true =>
     obtain ⟨b,hb,hfr⟩:=Bq.1 (hB.kl i hi)
     rcases (hkey hk).2.1 b hb with h1 | h1
     ·rw [hB.nr i b hi hf hb] at h1; cases h1
     ·exact absurd h1 hfr
 have hTx:∀ {t:Nat},Lm Tx t=true->((Ay Tx t).nz=true->Ay s1.T t=V.rn (sgA σ) (Ay Tx t))/\V.alive (sgA σ) (Ay Tx t)=true/\V.lt (liv (Em base.H W)) (Ay Tx t)=true:=fun {t} h=>by
  have hm:=Rc h
  have:=(List.all_eq_true.1 c1) _ hm
  simp only [bq] at this
  unfold Aix A3u at eT
  exact ⟨fun hz=>by have:=List.map_inj_left.1 eT _ hm; simp only [hz,cond_true] at this; exact this,this.1,this.2⟩
 have hbT:∀ {t:Nat},Bb Gz t=false->Lm Tx t=false->Ay base.T t=.z ∨ (Ay s1.T t=Ay base.T t/\V.lt (Wp (sgA σ)) (Ay base.T t)=true):=fun {t} h1 h2=>by
  cases hh:Lm base.T t with
  | false=>exact .inl (Atx hh)
  | true =>
    have:=(List.all_eq_true.1 c2) _ (Rc hh)
    simp only [h1,h2,Bool.false_or,Bool.or_eq_true,bq,Bool.not_eq_true'] at this
    rcases this with h3 | ⟨h3,h4⟩
    ·refine .inl ?_
     generalize Ay base.T t=y at h3
     cases y <;> first | rfl | cases h3
    ·refine .inr ⟨?_,h4⟩
     rcases ft t h1 h2 with e | e
     ·exact e
     ·rw [e] at h3; cases h3
 have nz_or:∀ x:V,x=.z ∨ x.nz=true:=fun x=>by cases x <;> first | exact .inl rfl | exact .inr rfl
 refine ⟨ρ.via (sgA σ),hE',⟨ha.sz,ha.df,fun t=>?_⟩,fun t=>?_⟩
 ·show Ay (Tx ++ (zsT Gz ++ base.T)) t = .z ∨ a.tmps[t]? = some (V.den (ρ.via (sgA σ)) (Ay (Tx ++ (zsT Gz ++ base.T)) t))
  rw [Jw,Jw,Y4,Agp]
  cases h2:Lm Tx t with
  | true =>
    simp only [cond_true]
    obtain ⟨e1,e2,e3⟩:=hTx h2
    rcases nz_or (Ay Tx t) with e | e
    ·exact .inl e
    ·refine .inr ?_
     rcases ha.t t with e4 | e4
     ·rw [e1 e] at e4
      have:=Ave e2 e
      rw [e4] at this; cases this
     ·rw [e4,e1 e,V.den_rn _ e2]
  | false =>
    simp only [cond_false]
    cases h1:Bb Gz t with
    | true=>exact .inl rfl
    | false =>
      simp only [cond_false]
      rcases hbT h1 h2 with e | ⟨e,e'⟩
      ·exact .inl e
      ·rcases ha.t t with e4 | e4
       ·rw [e] at e4; exact .inl e4
       ·refine .inr ?_
        rw [e4,e]
        exact congrArg some (V.den_ext (ρ':=ρ.via (sgA σ)) (ρ:=ρ) (n:=Wp (sgA σ)) (fun i hi=>by unfold Env.via; rw [A6q hi]) _ e').symm
 ·show V.lt (liv (Em base.H W)) (Ay (Tx ++ (zsT Gz ++ base.T)) t)=true
  rw [Jw,Jw,Y4,Agp]
  cases h2:Lm Tx t with
  | true=>exact (hTx h2).2.2
  | false =>
    simp only [cond_false]
    cases Bb Gz t with
    | true=>simp [V.lt]
    | false=>exact V.lt_mono hmono _ (hB.tl t)
end
