import Derived.Test.YtfhiggfmkjmeiaaGreatFxE
set_option linter.all false
namespace Go.Proofs.YtfhiggfmkjmeiaaGreat
open Go Go.RowKit
def fd1 (H:List B) (x:Vw):Fd:=match x with
 | .id j=>(match H[j]? with | some b=>.b b.bare | none=>.no)
 | .sg g o s n=>(match (H[g]?).bind Py with | some l=>(match V.part l o (n * s) with | some r=>bif V.lts L0 r then .v (V.flat ρN r) n else .no | none=>.no) | none=>.no)
 | .ss g i s n=>(match H[g]? with | some b=>(match b.bare with | .row e l=>bif Nat.beq s e.sz then .v (((e.cs l).drop (i * s)).take (n * s)) n else .no | _=>.no) | none=>.no)
 | .nil=>.no
def Nc (H:List B) (σ:List Vw):List B->Nat->List Fd
 | [],_=>[]
 | b :: bs,i=>(bif b.isAny then .no else fd1 H (sg0 σ i)) :: Nc H σ bs (i + 1)
def Pe (H:List B) (σ:List Vw):List B->Nat->Bool
 | [],_=>true
 | b :: bs,i=>((b.isRo && !b.isAny) || (match sg0 σ i with | .id j=>(match H[j]? with | some b'=>bif b.isRo then !b'.isFree else !b'.isRo | none=>false) | _=>!b.isRo)) && Pe H σ bs (i + 1)
def Vw.has (j:Nat):Vw->Bool
 | .id i=>Nat.beq j i
 | .sg i _ _ _=>Nat.beq j i
 | .ss i _ _ _=>Nat.beq j i
 | .nil=>false
def We (σ:List Vw):List B->Nat->Bool
 | [],_=>true
 | b :: bs,i=>(b.isRo || (match sg0 σ i with | .id j=>Nat.beq (σ.filter (Vw.has j)).length 1 | _=>true)) && We σ bs (i + 1)
def inH (n:Nat) (σ:List Vw):Bool:=σ.all fun | .id j=>Nat.blt j n | .sg j _ _ _=>Nat.blt j n | .ss j _ _ _=>Nat.blt j n | .nil=>true
def look (j:Nat):List (Nat × B)->Option B
 | []=>none
 | (g,b) :: W=>bif Nat.beq g j then some b else look j W
def Em (H:List B):List (Nat × B)->List B
 | []=>H
 | (g,b) :: W=>(Em H W).set g b
def Um (σ':Nat->Vw) (σ:List Vw):List B->List B->Nat->List (Nat × B)
 | b :: bs,p :: ps,i=>bif b.isRo then Um σ' σ bs ps (i + 1) else match sg0 σ i with
   | .id j=>(j,p.rn σ') :: Um σ' σ bs ps (i + 1)
   | _=>Um σ' σ bs ps (i + 1)
 | _,_,_=>[]
def Ao4 (σ':Nat->Vw):List B->Nat->List (Nat × B)
 | [],_=>[]
 | p :: ps,n=>(n,p.rn σ') :: Ao4 σ' ps (n + 1)
def Tp (n:Nat) (σ:List Vw) (pre post:List B):List (Nat × B) :=
 Um (sgm σ pre.length n) σ pre post 0 ++ Ao4 (sgm σ pre.length n) (post.drop pre.length) n
def Gw:List B->Nat->Bool
 | _,0=>true
 | .free :: H,c + 1=>Gw H c
 | _,_=>false
def Mv (σ:List Vw):List B->Nat->Nat->Option Nat
 | [],_,_=>none
 | b :: bs,i,j=>bif b.isRow && (match sg0 σ i with | .id q=>Nat.beq q j | _=>false) then some i else Mv σ bs (i + 1) j
def W6 (σ:List Vw) (pre:List B) (j:Nat):Bool:=(Mv σ pre 0 j).isNone
def A0t (σ:List Vw):List B->Nat->Nat->Bool
 | [],_,_=>false
 | b :: bs,i,j=>(!b.isRo && (match sg0 σ i with | .id q=>Nat.beq q j | _=>false)) || A0t σ bs (i + 1) j
def Mt (σ:List Vw) (pre:List B):List B->Nat->Bool
 | [],_=>true
 | b :: H,j=>(A0t σ pre 0 j || b.lt (W6 σ pre)) && Mt σ pre H (j + 1)
def Pz (H:List B) (n:Nat) (σ:List Vw) (args:List V) (pre:List B) (res:V) (post:List B):Bool :=
 Nat.beq σ.length pre.length && inH H.length σ && Pe H σ pre 0 && We σ pre 0 && Ao5 σ pre 0 && pre.all (B.alive (sg0 σ)) && V.alives (sg0 σ) args &&
 post.all (B.alive (sgm σ pre.length n)) && V.alive (sgm σ pre.length n) res && Gw (H.drop n) (post.length - pre.length) &&
 bif pre.any B.isRow then Mt σ pre H 0 else true
theorem V2:∀ (W:List (Nat × B)) (H:List B),(Em H W).length=H.length
 | [],_=>rfl
 | (g,b) :: W,H=>by rw [Em,List.length_set,V2 W H]
theorem Eu (j:Nat):∀ (W:List (Nat × B)) (H:List B),(Em H W)[j]?=H[j]?.map fun b=>(look j W).getD b
 | [],H=>by rw [Em]; cases H[j]? <;> rfl
 | (g,b) :: W,H=>by
   rw [Em,look]
   cases hb:Nat.beq g j with
   | true =>
     have e:=Nat.eq_of_beq_eq_true hb
     subst e
     simp only [cond_true]
     rcases Nat.lt_or_ge g H.length with h1 | h1
     ·rw [List.getElem?_set_self (by rw [V2]; exact h1),List.getElem?_eq_getElem h1]; rfl
     ·rw [List.getElem?_eq_none (by rw [List.length_set,V2]; exact h1),List.getElem?_eq_none h1]; rfl
   | false =>
     simp only [cond_false]
     rw [List.getElem?_set_ne (fun e=>by subst e; rw [Nat.beq_refl] at hb; cases hb),Eu j W H]
theorem Ud (j:Nat):∀ (A W:List (Nat × B)),look j (A ++ W)=(look j A).or (look j W)
 | [],W=>by simp [look]
 | (g,b) :: A,W=>by
   rw [List.cons_append,look,look]
   cases Nat.beq g j
   ·simp only [cond_false]; exact Ud j A W
   ·rfl
theorem Wf {σ' : Nat -> Vw} {σ : List Vw} {j : Nat} {c : B} : ∀ {bs ps : List B} {i : Nat}, look j (Um σ' σ bs ps i) = some c ->
   ∃ q b p,bs[q]?=some b/\b.isRo=false/\ps[q]?=some p/\sg0 σ (i + q)=.id j/\c=p.rn σ'
 | [],ps,i,h=>by simp [Um,look] at h
 | b :: bs,[],i,h=>by simp [Um,look] at h
 | b :: bs, p :: ps, i, h => by
   have next:look j (Um σ' σ bs ps (i + 1))=some c->∃ q b' p',(b :: bs)[q]?=some b'/\b'.isRo=false/\(p :: ps)[q]?=some p'/\sg0 σ (i + q)=.id j/\c=p'.rn σ':=fun h=>by
    obtain ⟨q,b',p',h1,h2,h3,h4,h5⟩:=Wf h
    exact ⟨q + 1,b',p',by simpa using h1,h2,by simpa using h3,by rw [← h4]; congr 1; omega,h5⟩
   rw [Um] at h
   cases hb:b.isRo with
   | true=>rw [hb] at h; exact next h
   | false =>
     rw [hb] at h
     simp only [cond_false] at h
     split at h
     ·rename_i j' hj
      rw [look] at h
      cases hq:Nat.beq j' j with
      | true =>
        rw [hq] at h
        cases h
        have e:=Nat.eq_of_beq_eq_true hq
        subst e
        exact ⟨0,b,p,rfl,hb,rfl,hj,rfl⟩
      | false=>rw [hq] at h; exact next h
     ·exact next h
theorem A3g {σ' : Nat -> Vw} {σ : List Vw} {j : Nat} : ∀ {bs ps : List B} {i : Nat}, bs.length <= ps.length -> look j (Um σ' σ bs ps i) = none -> ∀ q b, bs[q]? = some b -> b.isRo = false -> sg0 σ (i + q) ≠ .id j
 | [],ps,i,_,_,q,b,h,_=>by simp at h
 | b :: bs,[],i,hl,_,_,_,_,_=>by simp at hl
 | b :: bs, p :: ps, i, hl, h, q, b', hq, hro => by
   have next:look j (Um σ' σ bs ps (i + 1))=none->∀ q b',bs[q]?=some b'->b'.isRo=false->sg0 σ (i + (q + 1)) ≠ .id j:=fun h q b' h1 h2=>by
    have:=A3g (by simpa using hl) h q b' h1 h2
    rwa [show i + 1 + q=i + (q + 1) by omega] at this
   rw [Um] at h
   cases hb:b.isRo with
   | true =>
     rw [hb] at h
     cases q with
     | zero=>simp at hq; subst hq; rw [hro] at hb; cases hb
     | succ q=>exact next h q b' (by simpa using hq) hro
   | false =>
     rw [hb] at h
     simp only [cond_false] at h
     split at h
     ·rename_i j' hj
      rw [look] at h
      cases hq':Nat.beq j' j with
      | true=>rw [hq'] at h; cases h
      | false =>
        rw [hq'] at h
        cases q with
        | zero =>
          rw [Nat.add_zero,hj]
          intro e
          have e2:j'=j:=by simpa using e
          rw [e2,Nat.beq_refl] at hq'; cases hq'
        | succ q=>exact next h q b' (by simpa using hq) hro
     ·rename_i hj
      cases q with
      | zero=>rw [Nat.add_zero]; exact fun e=>hj j e
      | succ q=>exact next h q b' (by simpa using hq) hro
theorem Wc {σ':Nat->Vw} {j:Nat}:∀ (ps:List B) (n:Nat),look j (Ao4 σ' ps n)=if n<=j then (ps[j - n]?).map (B.rn σ') else none
 | [],n=>by simp [Ao4,look]
 | p :: ps, n => by
   rw [Ao4,look]
   cases hq:Nat.beq n j with
   | true =>
     have e:=Nat.eq_of_beq_eq_true hq
     subst e
     simp
   | false =>
     have hne:n ≠ j:=fun e=>by subst e; rw [Nat.beq_refl] at hq; cases hq
     simp only [cond_false]
     rw [Wc ps (n + 1)]
     by_cases h:n + 1<=j
     ·rw [if_pos h,if_pos (by omega),show j - n=(j - (n + 1)) + 1 by omega,List.getElem?_cons_succ]
     ·rw [if_neg h,if_neg (by omega)]
theorem Pf {σ:List Vw} {j q:Nat}:∀ {bs:List B} {i:Nat},Mv σ bs i j=some q->∃ m b,q=i + m/\bs[m]?=some b/\b.isRow=true/\sg0 σ q=.id j
 | [],i,h=>by cases h
 | b :: bs, i, h => by
   rw [Mv] at h
   cases hb:(b.isRow && (match sg0 σ i with | .id q=>Nat.beq q j | _=>false)) with
   | true =>
     rw [hb] at h; cases h
     simp only [bq] at hb
     refine ⟨0,b,rfl,rfl,hb.1,?_⟩
     have h2:=hb.2
     split at h2
     ·rename_i q hq; rw [hq,Nat.eq_of_beq_eq_true h2]
     ·cases h2
   | false =>
     rw [hb] at h
     obtain ⟨m,b',h1,h2,h3,h4⟩:=Pf (bs:=bs) h
     exact ⟨m + 1,b',by omega,by simpa using h2,h3,h4⟩
theorem A10 {σ:List Vw} {j:Nat}:∀ {bs:List B} {i:Nat},Mv σ bs i j=none->∀ m b,bs[m]?=some b->b.isRow=true->sg0 σ (i + m) ≠ .id j
 | [],i,_,m,b,h,_=>by simp at h
 | b :: bs, i, h, m, b', hm, hr => by
   rw [Mv] at h
   cases hb:(b.isRow && (match sg0 σ i with | .id q=>Nat.beq q j | _=>false)) with
   | true=>rw [hb] at h; cases h
   | false =>
     rw [hb] at h
     cases m with
     | zero =>
       simp at hm; subst hm
       intro e
       rw [Nat.add_zero] at e
       rw [hr,e] at hb
       simp at hb
     | succ m =>
       have:=A10 (bs:=bs) h m b' (by simpa using hm) hr
       rwa [show i + 1 + m=i + (m + 1) by omega] at this
theorem Xh {σ:List Vw} {j:Nat}:∀ {bs:List B} {i:Nat},(∀ (m:Nat) (b:B),bs[m]?=some b->b.isRo=false->sg0 σ (i + m) ≠ .id j)->A0t σ bs i j=false
 | [],i,_=>rfl
 | b :: bs, i, h => by
   rw [A0t,Bool.or_eq_false_iff]
   refine ⟨?_,Xh (bs:=bs) fun m b' hm hr=>by have:=h (m + 1) b' (by simpa using hm) hr; rwa [show i + (m + 1)=i + 1 + m by omega] at this⟩
   cases hb:b.isRo with
   | true=>rfl
   | false =>
     have:=h 0 b rfl hb
     rw [Nat.add_zero] at this
     simp only [Bool.not_false,Bool.true_and]
     split
     ·rename_i q hq
      cases hq':Nat.beq q j with
      | false=>rfl
      | true=>rw [Nat.eq_of_beq_eq_true hq'] at hq; exact absurd hq this
     ·rfl
theorem Pd {σ:List Vw} {pre:List B}:∀ {H:List B} {i q:Nat} {b:B},Mt σ pre H i=true->H[q]?=some b->A0t σ pre 0 (i + q)=false->b.lt (W6 σ pre)=true
 | b :: H,i,0,b',h,hq,ho=>by
   simp at hq; subst hq
   simp only [Mt,bq,Bool.or_eq_true] at h
   rcases h.1 with h1 | h1
   ·rw [Nat.add_zero,h1] at ho; cases ho
   ·exact h1
 | b :: H,i,q + 1,b',h,hq,ho=>by
   simp only [Mt,bq] at h
   exact Pd h.2 (by simpa using hq) (by rwa [show i + 1 + q=i + (q + 1) by omega])
theorem A02 {σ:List Vw}:∀ {pre:List B} {i:Nat},pre.any B.isRow=false->∀ j,Mv σ pre i j=none
 | [],i,_,j=>rfl
 | b :: bs,i,h,j=>by
   simp only [List.any_cons,Bool.or_eq_false_iff] at h
   rw [Mv,h.1]
   exact A02 h.2 j
theorem P2:∀ {H:List B} {c i:Nat},Gw H c=true->i < c->H[i]?=some .free
 | H,0,i,_,hi=>by omega
 | [],c + 1,i,h,_=>by cases h
 | b :: H, c + 1, i, h, hi => by
   cases b with
   | free =>
     cases i with
     | zero=>rfl
     | succ i=>rw [List.getElem?_cons_succ]; exact P2 (H:=H) h (by omega)
   | _=>cases h
theorem O5 (H:List B) (σ:List Vw):∀ (bs:List B) (i q:Nat) (b:B),bs[q]?=some b->(Nc H σ bs i)[q]?=some (bif b.isAny then .no else fd1 H (sg0 σ (i + q)))
 | b :: bs,i,0,b',h=>by simp at h; subst h; rfl
 | b :: bs,i,q + 1,b',h=>by rw [Nc,List.getElem?_cons_succ,O5 H σ bs (i + 1) q b' (by simpa using h),show i + 1 + q=i + (q + 1) by omega]
def wt1 (σ:List Vw) (b:B) (x:Vw):Fd:=match x with | .id _=>.b (b.bare.rn (sg0 σ)) | .sg _ _ _ _ | .ss _ _ _ _=>Atl b | .nil=>.no
theorem Rh (σ:List Vw):∀ (bs:List B) (i q:Nat) (b:B),bs[q]?=some b->(want σ bs i)[q]?=some (bif b.isAny then .no else wt1 σ b (sg0 σ (i + q)))
 | b :: bs,i,0,b',h=>by simp at h; subst h; rfl
 | b :: bs,i,q + 1,b',h=>by rw [want,List.getElem?_cons_succ,Rh σ bs (i + 1) q b' (by simpa using h),show i + 1 + q=i + (q + 1) by omega]
def nl1 (b:B) (x:Vw):Bool:=match x with | .id _=>true | .nil=>b.isNil && b.isRo | .sg _ _ s _=>b.isView s | .ss _ _ s _=>b.isView s && Nat.blt 0 s
theorem A9m (σ:List Vw):∀ (bs:List B) (i q:Nat) (b:B),Ao5 σ bs i=true->bs[q]?=some b->nl1 b (sg0 σ (i + q))=true
 | b :: bs,i,0,b',h,hq=>by
   simp at hq; subst hq
   simp only [Ao5,bq] at h
   exact h.1
 | b :: bs,i,q + 1,b',h,hq=>by
   simp only [Ao5,bq] at h
   have:=A9m σ bs (i + 1) q b' h.2 (by simpa using hq)
   rwa [show i + 1 + q=i + (q + 1) by omega] at this
theorem A9p (H:List B) (σ:List Vw):∀ (bs:List B) (i q:Nat) (b:B),Pe H σ bs i=true->bs[q]?=some b ->
   (b.isRo=false->∀ j,sg0 σ (i + q)=.id j->∃ b',H[j]?=some b'/\b'.isRo=false)/\(b.isAny=true->∃ j b',sg0 σ (i + q)=.id j/\H[j]?=some b'/\b' ≠ .free)
 | b :: bs, i, 0, b', h, hq => by
   simp at hq; subst hq
   simp only [Pe,bq] at h
   have h1:=h.1
   rw [Nat.add_zero]
   refine ⟨fun hro j hs=>?_,fun ha=>?_⟩
   ·rw [hro,hs] at h1
    simp only [Bool.false_and,Bool.false_or,cond_false] at h1
    split at h1
    ·rename_i b' hb; exact ⟨b',hb,by simpa using h1⟩
    ·cases h1
   ·have hr:b.isRo=true:=by cases b <;> first | rfl | cases ha
    rw [ha,hr] at h1
    simp only [Bool.not_true,Bool.and_false,Bool.false_or,cond_true] at h1
    split at h1
    ·rename_i j hj
     split at h1
     ·rename_i b' hb
      refine ⟨j,b',hj,hb,fun e=>?_⟩
      subst e
      simp [B.isFree] at h1
     ·cases h1
    ·cases h1
 | b :: bs,i,q + 1,b',h,hq=>by
   simp only [Pe,bq] at h
   have:=A9p H σ bs (i + 1) q b' h.2 (by simpa using hq)
   rwa [show i + 1 + q=i + (q + 1) by omega] at this
theorem Qs (σ:List Vw):∀ (bs:List B) (i q:Nat) (b:B) (j:Nat),We σ bs i=true->bs[q]?=some b->b.isRo=false->sg0 σ (i + q)=.id j->(σ.filter (Vw.has j)).length=1
 | b :: bs,i,0,b',j,h,hq,hro,hs=>by
   simp at hq; subst hq
   simp only [We,bq,hro,Bool.false_or] at h
   have h1:=h.1
   rw [Nat.add_zero] at hs
   rw [hs] at h1
   exact Nat.eq_of_beq_eq_true h1
 | b :: bs,i,q + 1,b',j,h,hq,hro,hs=>by
   simp only [We,bq] at h
   exact Qs σ bs (i + 1) q b' j h.2 (by simpa using hq) hro (by rwa [show i + 1 + q=i + (q + 1) by omega])
theorem Og {p:Vw->Bool} {y z:Vw}:∀ {σ:List Vw} {i i':Nat},(σ.filter p).length=1->σ[i]?=some y->p y=true->σ[i']?=some z->p z=true->i=i'
 | [],i,i',_,h,_,_,_=>by simp at h
 | x :: σ,0,0,_,_,_,_,_=>rfl
 | x :: σ,0,i' + 1,h,h1,hy,h2,hz=>by
   simp at h1; subst h1
   rw [List.filter_cons_of_pos hy,List.length_cons] at h
   have h3:σ.filter p=[]:=List.length_eq_zero_iff.1 (by omega)
   have h4:z ∈ σ.filter p:=List.mem_filter.2 ⟨List.mem_of_getElem? (by simpa using h2),hz⟩
   rw [h3] at h4; cases h4
 | x :: σ,i + 1,0,h,h1,hy,h2,hz=>by
   simp at h2; subst h2
   rw [List.filter_cons_of_pos hz,List.length_cons] at h
   have h3:σ.filter p=[]:=List.length_eq_zero_iff.1 (by omega)
   have h4:y ∈ σ.filter p:=List.mem_filter.2 ⟨List.mem_of_getElem? (by simpa using h1),hy⟩
   rw [h3] at h4; cases h4
 | x :: σ,i + 1,i' + 1,h,h1,hy,h2,hz=>by
   congr 1
   by_cases e:p x=true
   ·rw [List.filter_cons_of_pos e,List.length_cons] at h
    have h3:σ.filter p=[]:=List.length_eq_zero_iff.1 (by omega)
    have h4:z ∈ σ.filter p:=List.mem_filter.2 ⟨List.mem_of_getElem? (by simpa using h2),hz⟩
    rw [h3] at h4; cases h4
   ·rw [List.filter_cons_of_neg e] at h
    exact Og h (by simpa using h1) hy (by simpa using h2) hz
theorem Pn {σ:List Vw} {i:Nat} {x:Vw} (h:sg0 σ i=x) (hx:x ≠ .nil):σ[i]?=some x:=by
 unfold sg0 at h
 rcases hs:σ[i]? with _ | y
 ·rw [hs] at h; exact absurd h.symm hx
 ·rw [hs] at h; exact congrArg some h
theorem V.cell_rn {σ:Nat->Vw} {x:V} (h:V.alive σ x=true):(V.rn σ x).cell=x.cell:=by
 cases x <;> simp only [V.rn,V.cell,V.alive] at h ⊢ <;> first | rfl | skip
 all_goals (first | (obtain ⟨j,hj⟩:=Vw.of_isId h; rw [hj]) | (rename_i g; cases σ g <;> rfl))
theorem V.wf_rn {σ:Nat->Vw}:∀ {l:List V},V.alives σ l=true->V.wf (V.rns σ l)=V.wf l
 | [],_=>by rw [V.rns]
 | x :: l,h=>by
   simp only [V.alives,bq] at h
   rw [V.rns]
   simp only [V.wf,List.all_cons]
   rw [V.cell_rn h.1]
   have:=V.wf_rn h.2
   simp only [V.wf] at this
   rw [this]
def Vw.to (m:Nat->Bool):Vw->Bool
 | .id j=>m j
 | .sg g _ _ _=>m g
 | .ss g _ _ _=>m g
 | .nil=>true
mutual
theorem V.lt_rn {σ:Nat->Vw} {n m:Nat->Bool} (hσ:∀ i,n i=true->(σ i).to m=true):∀ x:V,V.lt n x=true->V.lt m (V.rn σ x)=true
 | .z,h | .v _,h | .ar _ _ _,h=>by rw [V.rn]; simp [V.lt]
 | .pt g _,h | .pe g _ _ _,h | .ps g _ _,h | .sl g,h | .ss g _ _ _,h | .sg g _ _ _,h | .mp g,h | .yl g,h | .sk g _ _ _ _,h=>by
   simp only [V.lt] at h
   rw [V.rn]
   have hg:=hσ g h
   cases hj:σ g with
   | nil=>simp [V.lt]
   | id j=>rw [hj] at hg; simp only [V.lt]; exact hg
   | sg q o s n=>first | (simp [V.lt]; done) | (rw [hj] at hg; simp only [V.lt]; exact hg)
   | ss q o s n=>first | (simp [V.lt]; done) | (rw [hj] at hg; simp only [V.lt]; exact hg)
 | .ag l,h | .tu l,h=>by simp only [V.lt] at h; rw [V.rn]; simp only [V.lt]; exact V.lts_rn hσ l h
 | .fn _ b c,h=>by simp only [V.lt,bq] at h; rw [V.rn]; simp only [V.lt,bq]; exact ⟨V.lts_rn hσ b h.1,V.lts_rn hσ c h.2⟩
theorem V.lts_rn {σ:Nat->Vw} {n m:Nat->Bool} (hσ:∀ i,n i=true->(σ i).to m=true):∀ l:List V,V.lts n l=true->V.lts m (V.rns σ l)=true
 | [],_=>by rw [V.rns]; rfl
 | x :: l,h=>by simp only [V.lts,bq] at h; rw [V.rns]; simp only [V.lts,bq]; exact ⟨V.lt_rn hσ x h.1,V.lts_rn hσ l h.2⟩
end
theorem B.lt_rn {σ:Nat->Vw} {n m:Nat->Bool} (hσ:∀ i,n i=true->(σ i).to m=true):∀ {b:B},b.lt n=true->(b.rn σ).lt m=true
 | .blk l _,h=>V.lts_rn hσ l h
 | .ro b,h=>B.lt_rn (b:=b) hσ h
 | .gone,_ | .free,_ | .row _ _,_ | .mp _ _,_ | .lo _ _,_ | .dfs,_=>rfl
theorem B.bare_own {b:B} (h:b.isRo=false):b.bare=b:=by cases b <;> first | rfl | cases h
theorem B.res_rn {ρ:Env} {σ:Nat->Vw} {c:Loc} {b:B} (h:b.alive σ=true):(b.rn σ).res ρ c=b.res (ρ.via σ) c:=by
 cases b with
 | blk l ty=>simp only [B.rn,B.res]; rw [V.flat_rn l h]
 | _=>rfl
theorem B.side_rn {ρ:Env} {σ:Nat->Vw} {c:Loc} {w0:World} {M:List Nat} {b:B} (h:b.alive σ=true) (hr:b.isRo=false):(b.rn σ).side w0 M ρ c ↔ b.side w0 M (ρ.via σ) c:=by
 cases b with
 | blk l ty=>simp only [B.rn,B.side]; rw [V.wf_rn h]
 | ro b=>cases hr
 | _=>exact Iff.rfl
theorem B.roOk_rn {ρ:Env} {σ:Nat->Vw} {c:Loc} {w0:World} {M:List Nat} {b:B} (h:b.alive σ=true):(b.rn σ).roOk w0 M ρ c ↔ b.roOk w0 M (ρ.via σ) c:=by
 cases b with
 | blk l ty=>simp only [B.rn,B.roOk]; rw [V.wf_rn h,V.flat_rn l h]
 | _=>exact Iff.rfl
def B.ats (c:Loc):B->List Nat
 | .blk _ _ | .mp _ _ | .lo _ _=>[c.g]
 | .row _ _=>c.a.toList
 | .gone | .free=>[]
 | .dfs=>c.l
 | .ro b=>b.ats c
theorem B.fp_own {ρ:Env} {c:Loc} {b:B} (h:b.isRo=false):(b.res ρ c).fp=b.ats c:=by
 cases b with
 | ro b=>cases h
 | row e l =>
   simp only [B.res,Res.fp,B.ats]
   unfold Loc.slw
   cases c.a <;> rfl
 | _=>rfl
section
variable {X:Ctx} {ρ:Env} {H:List B} {w:World} {P:Program}
theorem Emb.atRo (h:Emb X ρ H w) {j x:Nat} {b:B} (hj:H[j]?=some b) (hr:b.isRo=true) (hx:x ∈ b.ats (ρ j)):x ∉ X.M/\x < X.w.heap.size:=by
 have hs:=h.sd j b hj
 cases b with
 | ro b =>
   simp only [B.ats] at hx
   cases b with
   | blk l ty=>simp only [B.ats,List.mem_singleton] at hx; subst hx; exact ⟨hs.2.2.1,Gx hs.2.2.2⟩
   | row e l=>exact hs.2.2.2.1 x (Option.mem_toList.1 hx)
   | mp y F=>simp only [B.ats,List.mem_singleton] at hx; subst hx; obtain ⟨h1,es,cl,h2,_⟩:=hs; exact ⟨h1,Gx h2⟩
   | gone=>cases hx
   | free=>cases hx
   | lo _ _=>simp only [B.ats,List.mem_singleton] at hx; subst hx; exact hs
   | dfs=>exact hs x hx
   | ro b=>exact hs.elim
 | _=>cases hr
theorem Emb.atApart (h:Emb X ρ H w) {j j' x:Nat} {b b':B} (hne:j ≠ j') (hj:H[j]?=some b) (hx:x ∈ b.ats (ρ j)) (hj':H[j']?=some b') (hr':b'.isRo=false):x ∉ (b'.res ρ (ρ j')).fp:=by
 cases hr:b.isRo with
 | true =>
   obtain ⟨h1,h2⟩:=h.atRo hj hr hx
   intro hm
   rcases h.hs.my j' _ (Bd hj') x hm with h3 | h3
   ·exact h1 h3
   ·omega
 | false =>
   refine h.hs.ap j j' _ _ hne (Bd hj) (Bd hj') x ?_
   rw [B.fp_own hr]; exact hx
end
section
variable {X:Ctx} {ρ:Env} {H:List B} {w:World} {P:Program}
theorem S4 (w:World):Sf.ok w:=World.ownsRow_nil w 0 0 0
theorem G8 {g:Nat}:g ∉ Sf.fp:=by simp [Sf,Res.fp,Value.ownBlock]
theorem J8 {b:B} (h:b.isNil=true):∃ (α:Type) (e:Enc α),b=.row e [] ∨ b=.ro (.row e []):=by
 unfold B.isNil at h
 split at h
 ·exact ⟨_,_,.inl rfl⟩
 ·exact ⟨_,_,.inr rfl⟩
 ·cases h
mutual
theorem V.lt_and {n m:Nat->Bool}:∀ x:V,V.lt n x=true->V.lt m x=true->V.lt (fun i=>n i && m i) x=true
 | .z,_,_ | .v _,_,_ | .ar _ _ _,_,_=>by simp [V.lt]
 | .pt g _,h,k | .pe g _ _ _,h,k | .ps g _ _,h,k | .sl g,h,k | .ss g _ _ _,h,k | .sg g _ _ _,h,k | .mp g,h,k | .yl g,h,k | .sk g _ _ _ _,h,k=>by simp only [V.lt] at h k ⊢; simp [h,k]
 | .ag l,h,k | .tu l,h,k=>by simp only [V.lt] at h k ⊢; exact V.lts_and l h k
 | .fn _ b c,h,k=>by simp only [V.lt,bq] at h k ⊢; exact ⟨V.lts_and b h.1 k.1,V.lts_and c h.2 k.2⟩
theorem V.lts_and {n m:Nat->Bool}:∀ l:List V,V.lts n l=true->V.lts m l=true->V.lts (fun i=>n i && m i) l=true
 | [],_,_=>by simp [V.lts]
 | x :: l,h,k=>by simp only [V.lts,bq] at h k ⊢; exact ⟨V.lt_and x h.1 k.1,V.lts_and l h.2 k.2⟩
end
theorem B.lt_and {n m:Nat->Bool}:∀ {b:B},b.lt n=true->b.lt m=true->b.lt (fun i=>n i && m i)=true
 | .blk l _,h,k=>V.lts_and l h k
 | .ro b,h,k=>B.lt_and (b:=b) h k
 | .gone,_,_ | .free,_,_ | .row _ _,_,_ | .mp _ _,_,_ | .lo _ _,_,_ | .dfs,_,_=>rfl
theorem Bq {H:List B} {j:Nat}:liv H j=true ↔ ∃ b,H[j]?=some b/\b ≠ .free:=by
 unfold liv
 rcases H[j]? with _ | b
 ·simp
 ·cases b <;> simp
theorem Emb.call (h : Emb X ρ H w) {f : FuncId} {args : List V} {pre post : List B} {res : V} {σ : List Vw} {n : Nat} (hs : Sp P f args pre res post) (hok : Pz H n σ args pre res post = true)
   (hf:Nc H σ pre 0=want σ pre 0) :
   Calls P f (V.dens ρ (V.rns (sg0 σ) args)).toArray w fun e w'=>∃ ρ',(∀ i,liv H i=true->W6 σ pre i=true->ρ' i=ρ i)/\e=.returned (V.den ρ' (V.rn (sgm σ pre.length n) res))/\Emb X ρ' (Em H (Tp n σ pre post)) w' /\
    V.lt (liv (Em H (Tp n σ pre post))) (V.rn (sgm σ pre.length n) res)=true/\∀ i,liv H i=true->liv (Em H (Tp n σ pre post)) i=true:=by
 simp only [Pz,bq] at hok
 obtain ⟨⟨⟨⟨⟨⟨⟨⟨⟨⟨c1,c2⟩,c3⟩,c4⟩,c5⟩,c6⟩,c7⟩,c8⟩,c9⟩,c10⟩,c11⟩:=hok
 have c1':=Nat.eq_of_beq_eq_true c1
 obtain ⟨ρc,hρc⟩:∃ ρc,ρc=ρ.via (sg0 σ):=⟨_,rfl⟩
 have hin:∀ {i j:Nat},sg0 σ i=.id j->j < H.length:=fun {i j} hij=>by
  have:=(List.all_eq_true.1 c2) _ (List.mem_of_getElem? (Pn hij (by intro e; cases e)))
  simpa using this
 -- what is Nc
 have F1 : ∀ {i : Nat} {b : B}, pre[i]? = some b -> (b.isAny = true /\ ∃ j b', sg0 σ i = .id j /\ H[j]? = some b' /\ b' ≠ .free /\ ρc i = ρ j) ∨ (∃ j b', sg0 σ i = .id j /\ H[j]? = some b' /\ b'.bare = b.bare.rn (sg0 σ) /\ (b.isRo = false -> b'.isRo = false) /\ ρc i = ρ j) ∨ ((b.isNil = true /\ b.isRo = true) /\ ρc i = Loc.nil /\ sg0 σ i = .nil) ∨
  (∃ (g o s m:Nat) (α:Type) (e:Enc α) (xs:List α) (l r:List V),sg0 σ i=.sg g o s m/\b=.ro (.row e xs)/\(H[g]?).bind Py=some l/\V.part l o (m * s)=some r/\V.lts L0 r=true/\V.flat ρN r=e.cs xs/\m=xs.length/\ρc i=Loc.of (some (ρ g).g) ((ρ g).o + o) m m) ∨
  (∃ (g q s m:Nat) (α β:Type) (e:Enc α) (e2:Enc β) (xs:List α) (l:List β) (b2:B),sg0 σ i=.ss g q s m/\b=.ro (.row e xs)/\H[g]?=some b2/\b2.bare=.row e2 l/\s=e2.sz/\s=e.sz/\0 < s/\((e2.cs l).drop (q * s)).take (m * s)=e.cs xs/\m=xs.length/\ρc i=(ρ g).vw q s m):=fun {i b} hb=>by
  have e1:=O5 H σ pre 0 i b hb
  have e2:=Rh σ pre 0 i b hb
  have e3:=A9m σ pre 0 i b c5 hb
  have e4:=A9p H σ pre 0 i b c3 hb
  rw [Nat.zero_add] at e3 e4
  cases hany:b.isAny with
  | true =>
    obtain ⟨j,b',q1,q2,q3⟩:=e4.2 hany
    exact .inl ⟨rfl,j,b',q1,q2,q3,by rw [hρc]; unfold Env.via; rw [q1]⟩
  | false =>
  refine .inr ?_
  rw [hf,e2,Nat.zero_add,hany,Option.some.injEq] at e1
  simp only [cond_false] at e1
  rcases hsi:sg0 σ i with _ | j | ⟨g,o,s,m⟩ | ⟨g,q,s,m⟩
  ·rw [hsi] at e3
   simp only [nl1,bq] at e3
   exact .inr (.inl ⟨e3,(by rw [hρc]; unfold Env.via; rw [hsi]),rfl⟩)
  ·rw [hsi] at e1
   have hjl:=hin hsi
   obtain ⟨b',hb'⟩:∃ b',H[j]?=some b':=⟨H[j],List.getElem?_eq_getElem hjl⟩
   simp only [wt1,fd1] at e1
   rw [hb'] at e1
   simp only [Fd.b.injEq] at e1
   refine .inl ⟨j,b',rfl,hb',e1.symm,fun hro=>?_,by rw [hρc]; unfold Env.via; rw [hsi]⟩
   obtain ⟨b2,h2,h3⟩:=e4.1 hro j hsi
   rw [hb'] at h2; cases h2; exact h3
  ·rw [hsi] at e1 e3
   simp only [wt1,fd1] at e1
   simp only [nl1,B.isView] at e3
   split at e3
   ·rename_i α e xs
    simp only [Atl] at e1
    split at e1
    ·rename_i l hl
     split at e1
     ·rename_i r hr
      cases hlt:V.lts L0 r with
      | false=>rw [hlt] at e1; cases e1
      | true =>
        rw [hlt] at e1
        simp only [cond_true,Fd.v.injEq] at e1
        exact .inr (.inr (.inl ⟨g,o,s,m,α,e,xs,l,r,rfl,rfl,hl,hr,hlt,e1.1.symm,e1.2.symm,by rw [hρc]; unfold Env.via; rw [hsi]⟩))
     ·cases e1
    ·cases e1
   ·cases e3
  ·rw [hsi] at e1 e3
   simp only [wt1,fd1] at e1
   simp only [nl1,bq] at e3
   have e30:0 < s:=by have:=e3.2; rwa [Nat.blt_eq] at this
   have e31:=e3.1
   unfold B.isView at e31
   split at e31
   ·rename_i α e xs
    simp only [Atl] at e1
    split at e1
    ·rename_i b2 hb2
     split at e1
     ·rename_i β e2 l hbare
      cases hsz:Nat.beq s e2.sz with
      | false=>rw [hsz] at e1; cases e1
      | true =>
        rw [hsz] at e1
        simp only [cond_true,Fd.v.injEq] at e1
        exact .inr (.inr (.inr ⟨g,q,s,m,α,β,e,e2,xs,l,b2,rfl,rfl,hb2,hbare,Nat.eq_of_beq_eq_true hsz,(Nat.eq_of_beq_eq_true e31).symm,e30,e1.1.symm,e1.2.symm,by rw [hρc]; unfold Env.via; rw [hsi]⟩))
     ·cases e1
    ·cases e1
   ·cases e31
 have FL:∀ {i j:Nat} {b b':B},pre[i]?=some b->H[j]?=some b'->b'.bare=b.bare.rn (sg0 σ)->liv H j=true:=fun {i j b b'} hb hj he=>by
  have hnf:b.isFree=false:=by have:=(List.all_eq_true.1 hs.fr.1) _ (List.mem_of_getElem? hb); simpa using this
  unfold liv; rw [hj]
  cases b' with
  | free =>
    simp only [B.bare] at he
    cases b with
    | ro b=>simp only [B.bare] at he; cases b <;> first | (cases hnf; done) | (cases he; done)
    | _=>first | (cases hnf; done) | (cases he; done)
  | _=>rfl
 have F2:∀ {i i' j:Nat} {b:B},pre[i]?=some b->b.isRo=false->sg0 σ i=.id j->sg0 σ i'=.id j->i=i':=fun hb hro h1 h2 =>
  Og (Qs σ pre 0 _ _ _ c4 hb hro (by rw [Nat.zero_add]; exact h1)) (Pn h1 (by intro e; cases e)) (by simp [Vw.has]) (Pn h2 (by intro e; cases e)) (by simp [Vw.has])
 have F2v:∀ {i i' g o s m:Nat} {b:B},pre[i]?=some b->b.isRo=false->sg0 σ i=.id g->sg0 σ i'=.sg g o s m->i=i':=fun hb hro h1 h2 =>
  Og (Qs σ pre 0 _ _ _ c4 hb hro (by rw [Nat.zero_add]; exact h1)) (Pn h1 (by intro e; cases e)) (by simp [Vw.has]) (Pn h2 (by intro e; cases e)) (by simp [Vw.has])
 have F2s:∀ {i i' g q s m:Nat} {b:B},pre[i]?=some b->b.isRo=false->sg0 σ i=.id g->sg0 σ i'=.ss g q s m->i=i':=fun hb hro h1 h2 =>
  Og (Qs σ pre 0 _ _ _ c4 hb hro (by rw [Nat.zero_add]; exact h1)) (Pn h1 (by intro e; cases e)) (by simp [Vw.has]) (Pn h2 (by intro e; cases e)) (by simp [Vw.has])
 have alv:∀ {i:Nat} {b:B},pre[i]?=some b->b.alive (sg0 σ)=true:=fun hb=>(List.all_eq_true.1 c6) _ (List.mem_of_getElem? hb)
 -- an own block's resource
 have F3:∀ {i:Nat} {b:B},pre[i]?=some b->b.isRo=false->∃ j b',sg0 σ i=.id j/\H[j]?=some b'/\b'.isRo=false/\b.res ρc (ρc i)=b'.res ρ (ρ j)/\ρc i=ρ j/\b'=b.rn (sg0 σ):=fun {i b} hb hro=>by
  rcases F1 hb with ⟨h0,_⟩ | ⟨j,b',h1,h2,h3,h4,h5⟩ | ⟨⟨_,h1⟩,_⟩ | ⟨_,_,_,_,_,_,_,_,_,_,rfl,_⟩ | ⟨_,_,_,_,_,_,_,_,_,_,_,_,rfl,_⟩
  ·cases b <;> first | (cases hro; done) | (cases h0; done)
  ·have h6:=h4 hro
   rw [B.bare_own h6,B.bare_own hro] at h3
   refine ⟨j,b',h1,h2,h6,?_,h5,h3⟩
   rw [h3,B.res_rn (alv hb),← hρc,h5]
  ·rw [hro] at h1; cases h1
  ·cases hro
  ·cases hro
 obtain ⟨Mc,hMc⟩:∃ Mc,Mc=fps (rsF ρc pre 0):=⟨_,rfl⟩
 -- the blocks that the call may write are the caller's
 have F4:∀ {g:Nat},g ∈ Mc->∃ (i:Nat) (b:B) (j:Nat) (b':B),pre[i]?=some b/\b.isRo=false/\sg0 σ i=.id j/\H[j]?=some b'/\b'.isRo=false/\g ∈ (b'.res ρ (ρ j)).fp:=fun {g} hg=>by
  rw [hMc] at hg
  obtain ⟨i,r,hi,hgr⟩:=Y9 hg
  obtain ⟨b,hb,rfl⟩:=H4 hi
  cases hro:b.isRo with
  | true=>cases b <;> first | exact absurd hgr G8 | cases hro
  | false =>
    obtain ⟨j,b',h1,h2,h3,h4,_⟩:=F3 hb hro
    rw [h4] at hgr; exact ⟨i,b,j,b',hb,hro,h1,h2,h3,hgr⟩
 have F5:∀ {g:Nat},g ∈ Mc->g ∈ X.M ∨ X.w.heap.size<=g:=fun {g} hg=>by
  obtain ⟨i,b,j,b',_,_,_,h2,_,h3⟩:=F4 hg
  exact h.hs.my j _ (Bd h2) g h3
 -- what A2d elsewhere
 have F6:∀ {j x:Nat} {b:B},H[j]?=some b->x ∈ b.ats (ρ j)->(∀ (i:Nat) (b':B),pre[i]?=some b'->b'.isRo=false->sg0 σ i ≠ .id j)->x ∉ Mc:=fun {j x b} hj hx hno hm=>by
  obtain ⟨i,b1,j1,b2,h1,h2,h3,h4,h5,h6⟩:=F4 hm
  have hne:j ≠ j1:=fun e=>hno i b1 h1 h2 (by rw [e]; exact h3)
  exact h.atApart hne hj hx h4 h5 h6
 have E0 : Emb ⟨pre.length, Gc pre, ρc, Mc, w⟩ ρc pre w := by
  refine ⟨Hs.init ?_ ?_ ?_,?_,fun i b hb=>(List.all_eq_true.1 hs.cl.1) _ (List.mem_of_getElem? hb),fun _ _ _=>rfl,fun i hi=>?_,fun i b _ hfx hb=>?_⟩
  ·intro i r hi
   obtain ⟨b,hb,rfl⟩:=H4 hi
   cases hro:b.isRo with
   | true=>cases b <;> first | exact S4 w | cases hro
   | false =>
     obtain ⟨j,b',h1,h2,h3,h4,_⟩:=F3 hb hro
     rw [h4]; exact h.hs.ok j _ (Bd h2)
  ·intro i i' r r' hne hi hi' g hg hg'
   obtain ⟨b,hb,rfl⟩:=H4 hi
   obtain ⟨b',hb',rfl⟩:=H4 hi'
   have key:∀ {i:Nat} {b:B},pre[i]?=some b->g ∈ (b.res ρc (ρc i)).fp->∃ j b',b.isRo=false/\sg0 σ i=.id j/\H[j]?=some b'/\g ∈ (b'.res ρ (ρ j)).fp:=fun {i b} hb hg=>by
    cases hro:b.isRo with
    | true=>cases b <;> first | exact absurd hg G8 | cases hro
    | false =>
      obtain ⟨j,b',h1,h2,h3,h4,_⟩:=F3 hb hro
      rw [h4] at hg; exact ⟨j,b',rfl,h1,h2,hg⟩
   obtain ⟨j,c,hro,h1,h2,h3⟩:=key hb hg
   obtain ⟨j',c',hro',h1',h2',h3'⟩:=key hb' hg'
   have hjj:j ≠ j':=fun e=>hne (F2 hb hro h1 (by rw [e]; exact h1'))
   exact h.hs.ap j j' _ _ hjj (Bd h2) (Bd h2') g h3 h3'
  ·intro i r hi g hg
   exact by rw [hMc]; exact A59 i r hi g hg
  ·intro i b hb
   cases hro:b.isRo with
   | false =>
     obtain ⟨j,b',h1,h2,h3,h4,h5,h6⟩:=F3 hb hro
     have:=h.sd j b' h2
     rw [h6,B.side_rn (alv hb) hro,← hρc] at this
     rw [h5]
     cases b with
     | ro b=>cases hro
     | _=>exact this
   | true =>
     cases b with
     | ro b =>
       show b.roOk w Mc ρc (ρc i)
       rcases F1 hb with ⟨h0,_⟩ | ⟨j,b',h1,h2,h3,_,h5⟩ | ⟨⟨h1,_⟩,h2,_⟩ | ⟨g,o,s,m,α,e,xs,l,r,h1,h2,h3,h4,h5,h6,h7,h8⟩ | ⟨g,q,s,m,α,β,e,e2,xs,l,b2,h1,h2,h3,h4,h5,h6,h7,h8,h9,h10⟩
       ·cases b <;> first | trivial | cases h0
       ·have hno : ∀ (i' : Nat) (b2 : B), pre[i']? = some b2 -> b2.isRo = false -> sg0 σ i' ≠ .id j := fun i' b2 h6 h7 h8 => by
         have e:=F2 h6 h7 h8 h1
         subst e
         rw [hb] at h6; cases h6; cases h7
        have hat:∀ {x:Nat},x ∈ b'.ats (ρ j)->x ∉ Mc:=fun hx=>F6 h2 hx hno
        have hal:b.alive (sg0 σ)=true:=by have:=alv hb; simpa [B.alive] using this
        rw [h5,hρc,← B.roOk_rn (b:=b) hal]
        have h3':b'.bare=b.rn (sg0 σ):=h3
        have hba:b'.ats (ρ j)=b'.bare.ats (ρ j):=by cases b' <;> rfl
        cases b with
        | blk l ty =>
          obtain ⟨r1,r2,ty',r3⟩:=h.blk h2 (l:=V.rns (sg0 σ) l) (by
           cases b' with
           | blk l' t'=>cases h3'; rfl
           | ro b'=>simp only [B.bare] at h3'; subst h3'; rfl
           | _=>cases h3')
          refine ⟨r1,r2,hat (by rw [hba,h3']; exact List.mem_singleton.2 rfl),?_⟩
          have:w.heap[(ρ j).g]?=some (.cells (V.flat ρ (V.rns (sg0 σ) l)).toArray ty (0,0)):=by
           cases b' with
           | blk l' t'=>cases h3'; exact h.hs.ok j _ (Bd h2)
           | ro b' =>
             simp only [B.bare] at h3'; subst h3'
             obtain ⟨q1,q2,q3,q4⟩:=h.sd j _ h2
             exact (W5 h q3 (Gx q4)).trans q4
           | _=>cases h3'
          exact this
        | row e l =>
          obtain ⟨r1,r2,r3,r4⟩:=h.row h2 h3'
          refine ⟨r1,r2,fun ha=>⟨r3 ha,?_⟩,fun x hx=>⟨hat (by rw [hba,h3']; exact Option.mem_toList.2 hx),?_⟩,r4⟩
          ·cases b' with
           | row e' l' =>
             cases h3'
             exact ((h.sd j _ h2).2.2 ha).1
           | ro b'=>simp only [B.bare] at h3'; subst h3'; exact ((h.sd j _ h2).2.2.1 ha).2
           | _=>cases h3'
          ·have hx':x ∈ b'.ats (ρ j):=by rw [hba,h3']; exact Option.mem_toList.2 hx
           cases hr':b'.isRo with
           | true=>exact Nat.lt_of_lt_of_le (h.atRo h2 hr' hx').2 h.hs.size
           | false=>exact h.hs.lt j (Bd h2) x (by rw [B.fp_own hr']; exact hx')
        | mp y F =>
          obtain ⟨es,cl,r1,r2⟩:=h.map h2 h3'
          exact ⟨hat (by rw [hba,h3']; exact List.mem_singleton.2 rfl),es,cl,r1,r2⟩
        | lo _ _ =>
          have hx':(ρ j).g ∈ b'.ats (ρ j):=by rw [hba,h3']; exact List.mem_singleton.2 rfl
          refine ⟨hat hx',?_⟩
          cases hr':b'.isRo with
          | true=>exact Nat.lt_of_lt_of_le (h.atRo h2 hr' hx').2 h.hs.size
          | false=>exact h.hs.lt j (Bd h2) _ (by rw [B.fp_own hr']; exact hx')
        | dfs =>
          intro x hx
          have hx':x ∈ b'.ats (ρ j):=by rw [hba,h3']; exact hx
          refine ⟨hat hx',?_⟩
          cases hr':b'.isRo with
          | true=>exact Nat.lt_of_lt_of_le (h.atRo h2 hr' hx').2 h.hs.size
          | false=>exact h.hs.lt j (Bd h2) _ (by rw [B.fp_own hr']; exact hx')
        | gone=>trivial
        | free=>trivial
        | ro b =>
          cases b' with
          | ro b' =>
            simp only [B.bare,B.rn] at h3'
            subst h3'
            exact (h.sd j _ h2).elim
          | _=>cases h3'
       ·obtain ⟨α,e,e1 | e1⟩:=J8 h1
        ·cases e1
        ·cases e1
         rw [h2]
         refine ⟨rfl,Nat.le_refl _,fun _=>⟨rfl,rfl⟩,?_,?_⟩
         ·intro a ha; cases ha
         ·intro j v hj; cases hj
       ·cases h2
        rw [h8]
        obtain ⟨b',hg,hb'⟩:=bindSome h3
        obtain ⟨q1,q2,ty,q3⟩:=h.blk hg hb'
        have hat:(ρ g).g ∈ b'.ats (ρ g):=by
         cases b' with
         | blk l' ty'=>exact List.mem_singleton.2 rfl
         | ro b'=>cases b' with
           | blk l' ty'=>exact List.mem_singleton.2 rfl
           | _=>cases hb'
         | _=>cases hb'
        have hno:∀ (i':Nat) (b2:B),pre[i']?=some b2->b2.isRo=false->sg0 σ i' ≠ .id g:=fun i' b2 h9 h10 h11=>by
         have e':=F2v h9 h10 h11 h1
         subst e'
         rw [hb] at h9; cases h9; cases h10
        refine ⟨h7,Nat.le_refl _,?_,?_,?_⟩
        ·intro ha; cases ha
        ·intro x hx
         cases hx
         exact ⟨F6 hg hat hno,Gx q3⟩
        ·intro j v hj
         obtain ⟨r1,r2,r3⟩:=V.part_ok (ρ:=ρ) q2 h4
         rw [← h6,← V.flat_ext (n:=L0) (ρ:=ρN) (ρ':=ρ) (fun i hi=>by cases hi) r h5,r2,List.getElem?_take] at hj
         split at hj
         ·rw [List.getElem?_drop] at hj
          show w.cell? ⟨(ρ g).g,(ρ g).o + o + j,none⟩=some v
          rw [q1,Nat.zero_add]
          exact Akb q3 (by simpa using hj)
         ·cases hj
       ·cases h2
        rw [h10]
        obtain ⟨q1,q2,q3,q4⟩:=h.row h3 h4
        have hlen:m * s<=(l.length - q) * s/\q * s + m * s<=l.length * s ∨ m=0:=by
         rcases Nat.eq_zero_or_pos m with h0 | h0
         ·exact .inr h0
         ·refine .inl ?_
          have h11:=congrArg List.length h8
          rw [List.length_take,List.length_drop,e2.csLen,e.csLen,← h9,← h6,← h5] at h11
          have h12:0 < m * s:=Nat.mul_pos h0 h7
          have h13:q * s + m * s<=l.length * s:=by omega
          exact ⟨by rw [Nat.sub_mul]; omega,h13⟩
        have hqm:q + m<=l.length ∨ m=0:=by
         rcases hlen with ⟨_,h11⟩ | h11
         ·rw [← Nat.add_mul] at h11
          exact .inl (Nat.le_of_mul_le_mul_right h11 h7)
         ·exact .inr h11
        have hcap0:(ρ g).a=none->(ρ g).cap=0:=fun ha=>by
         have hsd:=h.sd g b2 h3
         cases b2 with
         | row e l=>exact (hsd.2.2 ha).1
         | ro b=>simp only [B.bare] at h4; subst h4; exact (hsd.2.2.1 ha).2
         | _=>cases h4
        have hba:b2.ats (ρ g)=(ρ g).a.toList:=by
         have:b2.ats (ρ g)=b2.bare.ats (ρ g):=by cases b2 <;> rfl
         rw [this,h4]; rfl
        have hno:∀ (i':Nat) (b3:B),pre[i']?=some b3->b3.isRo=false->sg0 σ i' ≠ .id g:=fun i' b3 h11 h12 h13=>by
         have e':=F2s h11 h12 h13 h1
         subst e'
         rw [hb] at h11; cases h11; cases h12
        refine ⟨h9,?_,?_,?_,?_⟩
        ·show m<=(ρ g).cap - q
         rcases hqm with h11 | h11
         ·omega
         ·omega
        ·intro ha
         have ha':(ρ g).a=none:=ha
         have hl:=q3 ha'
         have hc:=hcap0 ha'
         refine ⟨?_,?_⟩
         ·subst hl
          rcases hqm with h11 | h11
          ·simp only [List.length_nil] at h11
           exact List.length_eq_zero_iff.1 (by omega)
          ·exact List.length_eq_zero_iff.1 (by omega)
         ·show (ρ g).cap - q=0
          omega
        ·intro x hx
         have hx':x ∈ b2.ats (ρ g):=by rw [hba]; exact Option.mem_toList.2 hx
         refine ⟨F6 h3 hx' hno,?_⟩
         cases hr':b2.isRo with
         | true=>exact Nat.lt_of_lt_of_le (h.atRo h3 hr' hx').2 h.hs.size
         | false=>exact h.hs.lt g (Bd h3) x (by rw [B.fp_own hr']; exact hx')
        ·intro j v hj
         rw [← h8,List.getElem?_take] at hj
         split at hj
         ·rename_i hjm
          rw [List.getElem?_drop] at hj
          have:=q4 _ v hj
          show w.cell? ⟨(ρ g).g,(if (ρ g).cap=q then (ρ g).o else (ρ g).o + q * s) + j,none⟩=some v
          have hne:¬ (ρ g).cap=q:=fun e0=>by
           rcases hqm with h11 | h11
           ·have:m=0:=by omega
            rw [this,Nat.zero_mul] at hjm; omega
           ·rw [h11,Nat.zero_mul] at hjm; omega
          rw [if_neg hne,Nat.add_assoc]
          exact this
         ·cases hj
     | _=>cases hro
  ·have hb:=(List.all_eq_true.1 hs.fr.1) _ (List.getElem_mem (l:=pre) hi)
   unfold liv
   rw [List.getElem?_eq_getElem hi]
   generalize pre[i]=b at hb
   cases b <;> first | rfl | cases hb
  ·have hfx':Gc pre i=true:=hfx
   unfold Gc at hfx'
   rw [hb] at hfx'
   simpa using hfx'
 obtain ⟨σ',hσ'⟩:∃ σ',σ'=sgm σ pre.length n:=⟨_,rfl⟩
 obtain ⟨H',hH'⟩:∃ H',H'=Em H (Tp n σ pre post):=⟨_,rfl⟩
 have hargs:V.dens ρ (V.rns (sg0 σ) args)=V.dens ρc args:=by rw [V.dens_rn args c7,hρc]
 rw [hargs,← hσ',← hH']
 rw [← hσ'] at c8 c9
 refine (hs.out ρc Mc w E0).mono fun e w' ⟨ρq,he,Ec⟩=>?_
 obtain ⟨ρ',hρ'⟩:∃ ρ':Env,ρ'=fun j=>if n<=j/\j < n + (post.length - pre.length) then ρq (pre.length + (j - n)) else match Mv σ pre 0 j with | some q=>ρq q | none=>ρ j:=⟨_,rfl⟩
 have isFr:∀ {j:Nat},n<=j->j < n + (post.length - pre.length)->H[j]?=some .free:=fun {j} h1 h2=>by
  have:=P2 (i:=j - n) c10 (by omega)
  rwa [List.getElem?_drop,show n + (j - n)=j by omega] at this
 have offN:∀ {i:Nat},liv H i=true->¬ (n<=i/\i < n + (post.length - pre.length)):=fun {i} hi hc=>by
  unfold liv at hi; rw [isFr hc.1 hc.2] at hi; cases hi
 have old:∀ i,liv H i=true->Mv σ pre 0 i=none->ρ' i=ρ i:=fun i hi hk=>by
  rw [hρ']; simp only [if_neg (offN hi),hk]
 have reb:∀ {i q:Nat},liv H i=true->Mv σ pre 0 i=some q->ρ' i=ρq q:=fun {i q} hi hk=>by
  rw [hρ']; simp only [if_neg (offN hi),hk]
 have noReb:∀ {j:Nat},(∀ (i:Nat) (b:B),pre[i]?=some b->b.isRo=false->sg0 σ i ≠ .id j)->Mv σ pre 0 j=none:=fun {j} hno=>by
  rcases hr:Mv σ pre 0 j with _ | q
  ·rfl
  ·obtain ⟨m,b,rfl,h2,h3,h4⟩:=Pf hr
   rw [Nat.zero_add] at h4
   exact absurd h4 (hno m b h2 (by cases b <;> first | rfl | cases h3))
 -- where a block A2d behind the call
 have locAt:∀ {g j:Nat} {b:B},pre[g]?=some b->sg0 σ g=.id j->liv H j=true->ρ' j=ρq g:=fun {g j b} hb hj hl=>by
  have hgl:=(List.getElem?_eq_some_iff.1 hb).1
  rcases hr:Mv σ pre 0 j with _ | q
  ·rw [old j hl hr,Ec.ag g hgl (by
    show Gc pre g=true
    unfold Gc
    rw [hb]
    cases hbr:b.isRow with
    | false=>simp only [hbr]; rfl
    | true=>have:=A10 hr g b hb hbr; rw [Nat.zero_add] at this; exact absurd hj this)]
   show ρ j=ρc g
   rw [hρc]; unfold Env.via
   rw [hj]
  ·rw [reb hl hr]
   obtain ⟨m,b',rfl,h2,h3,h4⟩:=Pf hr
   rw [Nat.zero_add] at h4 ⊢
   rw [F2 h2 (by cases b' <;> first | rfl | cases h3) h4 hj]
 have new:∀ m,m < post.length - pre.length->ρ' (n + m)=ρq (pre.length + m):=fun m hm=>by rw [hρ']; simp only [if_pos (show n<=n + m/\n + m < n + (post.length - pre.length) by omega)]; congr 1; omega
 have s1:∀ {g:Nat},g < pre.length->σ' g=sg0 σ g:=fun {g} hlt=>by
  rw [hσ']; unfold sgm
  rw [show Nat.blt g pre.length=true from by rw [Nat.blt_eq]; exact hlt]; rfl
 have s3:∀ {g:Nat},pre.length<=g->σ' g=.id (n + (g - pre.length)):=fun {g} hg=>by
  rw [hσ']; unfold sgm
  have:Nat.blt g pre.length=false:=by
   cases hb:Nat.blt g pre.length with
   | false=>rfl
   | true=>rw [Nat.blt_eq] at hb; omega
  rw [this]; rfl
 have s2:∀ {g j:Nat},σ' g=.id j->(g < pre.length/\sg0 σ g=.id j) ∨ (pre.length<=g/\j=n + (g - pre.length)):=fun {g j} hg=>by
  rcases Nat.lt_or_ge g pre.length with h1 | h1
  ·rw [s1 h1] at hg; exact .inl ⟨h1,hg⟩
  ·rw [s3 h1] at hg; cases hg; exact .inr ⟨h1,rfl⟩
 have foundAt:∀ {g j:Nat},g < pre.length->sg0 σ g=.id j->∃ b',H[j]?=some b'/\liv H j=true:=fun {g j} hg hj=>by
  rcases F1 (List.getElem?_eq_getElem hg) with ⟨_,j',b',h1,h2,h3,_⟩ | ⟨j',b',h1,h2,h3,_,_⟩ | ⟨h1,h1b⟩ | ⟨_,_,_,_,_,_,_,_,_,h1,_⟩ | ⟨_,_,_,_,_,_,_,_,_,_,_,h1,_⟩
  ·rw [hj] at h1; cases h1
   exact ⟨b',h2,Bq.2 ⟨b',h2,h3⟩⟩
  ·rw [hj] at h1; cases h1
   exact ⟨b',h2,FL (List.getElem?_eq_getElem hg) h2 h3⟩
  ·have e1:=O5 H σ pre 0 g _ (List.getElem?_eq_getElem hg)
   have e2:=Rh σ pre 0 g _ (List.getElem?_eq_getElem hg)
   have hany:(pre[g]).isAny=false:=by
    obtain ⟨α,e,e' | e'⟩:=J8 h1.1 <;> rw [e'] <;> rfl
   rw [hf,e2,Nat.zero_add,hj,hany,Option.some.injEq] at e1
   simp only [cond_false,wt1,fd1] at e1
   rw [List.getElem?_eq_getElem (hin hj)] at e1
   simp only [Fd.b.injEq] at e1
   exact ⟨H[j]'(hin hj),List.getElem?_eq_getElem (hin hj),FL (List.getElem?_eq_getElem hg) (List.getElem?_eq_getElem (hin hj)) e1.symm⟩
  ·rw [hj] at h1; cases h1
  ·rw [hj] at h1; cases h1
 have hvia : ∀ g, liv post g = true -> ρq g = (ρ'.via σ') g := fun g hgl => by
  have hg:g < post.length:=by
   rcases Nat.lt_or_ge g post.length with h1 | h1
   ·exact h1
   ·unfold liv at hgl; rw [List.getElem?_eq_none h1] at hgl; cases hgl
  rcases Nat.lt_or_ge g pre.length with h1 | h1
  ·unfold Env.via
   rw [s1 h1]
   have hfx:∀ {x:Vw},sg0 σ g=x->x.isId=false->ρq g=ρc g:=fun {x} hx hxi=>Ec.ag g h1 (by
    show Gc pre g=true
    unfold Gc
    rw [List.getElem?_eq_getElem h1]
    cases hbr:(pre[g]).isRow with
    | false=>simp only [hbr]; rfl
    | true =>
      obtain ⟨j,b',h2,_⟩:=F3 (List.getElem?_eq_getElem h1) (by generalize pre[g]=b at hbr ⊢; cases b <;> first | rfl | cases hbr)
      rw [hx] at h2; subst h2; cases hxi)
   rcases hσg:sg0 σ g with _ | j | ⟨q,o,s,m⟩ | ⟨q,o,s,m⟩
   ·rw [hfx hσg rfl,hρc]; unfold Env.via; rw [hσg]
   ·simp only
    exact (locAt (List.getElem?_eq_getElem h1) hσg (foundAt h1 hσg).choose_spec.2).symm
   ·rw [hfx hσg rfl,hρc]; unfold Env.via; rw [hσg]
    simp only
    rcases F1 (List.getElem?_eq_getElem h1) with ⟨_,j',b',h2,_⟩ | ⟨j',b',h2,_⟩ | ⟨h2,h3,_⟩ | ⟨_,_,_,_,_,_,_,l,_,h2,h2b,h3,_⟩ | ⟨_,_,_,_,_,_,_,_,_,l,_,h2,h2b,h3,h4,_⟩
    ·rw [hσg] at h2; cases h2
    ·rw [hσg] at h2; cases h2
    ·rw [hρc] at h3; unfold Env.via at h3; rw [hσg] at h3; cases h3
    ·rw [hσg] at h2; cases h2
     have hl:liv H q=true:=by
      obtain ⟨b',hg',hb'⟩:=bindSome h3
      refine Bq.2 ⟨b',hg',?_⟩
      intro e; subst e; cases hb'
     rw [old q hl (noReb fun i b hb hro hi=>by
      have e:=F2v hb hro hi hσg
      subst e
      rw [List.getElem?_eq_getElem h1] at hb
      rw [← Option.some.inj hb,h2b] at hro; cases hro)]
    ·rw [hσg] at h2; cases h2
   ·rw [hfx hσg rfl,hρc]; unfold Env.via; rw [hσg]
    simp only
    rcases F1 (List.getElem?_eq_getElem h1) with ⟨_,j',b',h2,_⟩ | ⟨j',b',h2,_⟩ | ⟨h2,h3,h5⟩ | ⟨_,_,_,_,_,_,_,l,_,h2,h2b,h3,_⟩ | ⟨_,_,_,_,_,_,_,_,_,l,_,h2,h2b,h3,h4,_⟩
    ·rw [hσg] at h2; cases h2
    ·rw [hσg] at h2; cases h2
    ·rw [hσg] at h5; cases h5
    ·rw [hσg] at h2; cases h2
    ·rw [hσg] at h2; cases h2
     have hl:liv H q=true:=by
      refine Bq.2 ⟨_,h3,?_⟩
      intro e; subst e; cases h4
     rw [old q hl (noReb fun i b hb hro hi=>by
      have e:=F2s hb hro hi hσg
      subst e
      rw [List.getElem?_eq_getElem h1] at hb
      rw [← Option.some.inj hb,h2b] at hro; cases hro)]
  ·unfold Env.via
   rw [s3 h1]
   simp only
   rw [new _ (by omega),show pre.length + (g - pre.length)=g by omega]
 have alP:∀ {i:Nat} {p:B},post[i]?=some p->p.alive σ'=true:=fun hp=>(List.all_eq_true.1 c8) _ (List.mem_of_getElem? hp)
 have ownPost:∀ {i:Nat} {b p:B},pre[i]?=some b->b.isRo=false->post[i]?=some p->p.isRo=false:=fun {i b p} hb hro hp=>by
  cases hq:p.isRo with
  | false=>rfl
  | true=>obtain ⟨b',h1,h2⟩:=hs.ro i p hp hq; rw [hb] at h1; cases h1; rw [hro] at h2; cases h2
 have newPost:∀ {i:Nat} {p:B},pre.length<=i->post[i]?=some p->p.isRo=false:=fun {i p} hi hp=>by
  cases hq:p.isRo with
  | false=>rfl
  | true=>obtain ⟨b',h1,h2⟩:=hs.ro i p hp hq; have:=(List.getElem?_eq_some_iff.1 h1).1; omega
 have notFree:∀ {i:Nat} {p:B},post[i]?=some p->∀ b,(p.rn σ')=b->b ≠ .free:=fun {i p} hp b he hb=>by
  have:=(List.all_eq_true.1 hs.fr.2) _ (List.mem_of_getElem? hp)
  subst he
  cases p <;> first | (cases this; done) | (cases hb; done)
 -- each block behind the call: the callee's,or one that stayed
 have G : ∀ {j : Nat} {c : B}, H'[j]? = some c ->
    (∃ i p,post[i]?=some p/\p.isRo=false/\c=p.rn σ'/\ρ' j=ρq i/\σ' i=.id j) ∨
    (H[j]?=some c/\(∀ (i:Nat) (b:B),pre[i]?=some b->b.isRo=false->sg0 σ i ≠ .id j)/\ρ' j=ρ j):=fun {j c} hc=>by
  rw [hH',Eu] at hc
  unfold Tp at hc
  rw [← hσ',Ud,Wc] at hc
  rcases ho:look j (Um σ' σ pre post 0) with _ | c'
  ·rw [ho] at hc
   have hno:=A3g hs.ln ho
   simp only [Option.none_or] at hc
   by_cases hnj:n<=j
   ·rw [if_pos hnj] at hc
    rcases hp:(post.drop pre.length)[j - n]? with _ | p
    ·rw [hp] at hc
     simp only [Option.map_none,Option.getD_none] at hc
     have hc':H[j]?=some c:=by simpa using hc
     refine .inr ⟨hc',fun i b hb hro=>by have:=hno i b hb hro; rwa [Nat.zero_add] at this,?_⟩
     have hge:post.length - pre.length<=j - n:=by
      rcases Nat.lt_or_ge (j - n) (post.length - pre.length) with h1 | h1
      ·rw [List.getElem?_eq_getElem (by rw [List.length_drop]; exact h1)] at hp; cases hp
      ·exact h1
     rw [hρ']; simp only [if_neg (show ¬ (n<=j/\j < n + (post.length - pre.length)) by omega)]
     rw [noReb fun i b hb hro=>by have:=hno i b hb hro; rwa [Nat.zero_add] at this]
    ·rw [hp] at hc
     have hlt:=(List.getElem?_eq_some_iff.1 hp).1
     rw [List.length_drop] at hlt
     rw [isFr hnj (by omega)] at hc
     simp only [Option.map_some,Option.getD_some,Option.some.injEq] at hc
     rw [List.getElem?_drop] at hp
     refine .inl ⟨_,p,hp,newPost (Nat.le_add_right _ _) hp,hc.symm,?_,?_⟩
     ·rw [← new _ hlt,show n + (j - n)=j by omega]
     ·rw [s3 (Nat.le_add_right _ _)]; congr 1; omega
   ·rw [if_neg hnj] at hc
    simp only [Option.getD_none] at hc
    have hc':H[j]?=some c:=by simpa using hc
    refine .inr ⟨hc',fun i b hb hro=>by have:=hno i b hb hro; rwa [Nat.zero_add] at this,?_⟩
    rw [hρ']; simp only [if_neg (show ¬ (n<=j/\j < n + (post.length - pre.length)) by omega)]
    rw [noReb fun i b hb hro=>by have:=hno i b hb hro; rwa [Nat.zero_add] at this]
  ·rw [ho] at hc
   obtain ⟨q,b,p,r1,r2,r3,r4,r5⟩:=Wf ho
   rw [Nat.zero_add] at r4
   have hql:=(List.getElem?_eq_some_iff.1 r1).1
   obtain ⟨b',hb',hlv⟩:=foundAt hql r4
   rw [hb'] at hc
   simp only [Option.some_or,Option.map_some,Option.getD_some,Option.some.injEq] at hc
   refine .inl ⟨q,p,r3,ownPost r1 r2 r3,by rw [← hc]; exact r5,locAt r1 r4 hlv,(s1 hql).trans r4⟩
 have livH:∀ j,liv H j=true->liv H' j=true:=fun j hj=>by
  obtain ⟨b,hb,hbf⟩:=Bq.1 hj
  have hc:H'[j]?=some ((look j (Tp n σ pre post)).getD b):=by rw [hH',Eu,hb]; rfl
  refine Bq.2 ⟨_,hc,?_⟩
  rcases G hc with ⟨i,p,h1,_,h3,_,_⟩ | ⟨h1,_⟩
  ·exact notFree h1 _ h3.symm
  ·rw [hb] at h1; rw [← Option.some.inj h1]; exact hbf
 have livN:∀ {i j:Nat},liv post i=true->σ' i=.id j->liv H' j=true:=fun {i j} hi hj=>by
  rcases s2 hj with ⟨h1,h2⟩ | ⟨h1,h2⟩
  ·exact livH j (foundAt h1 h2).choose_spec.2
  ·obtain ⟨p,hp,_⟩:=Bq.1 hi
   have hil:=(List.getElem?_eq_some_iff.1 hp).1
   have hb:=isFr (j:=j) (by omega) (by omega)
   have hl:look j (Tp n σ pre post)=some (p.rn σ'):=by
    unfold Tp
    rw [← hσ',Ud,Wc,if_pos (show n<=j by omega),List.getElem?_drop,show pre.length + (j - n)=i by omega,hp]
    rcases ho:look j (Um σ' σ pre post 0) with _ | c'
    ·rfl
    ·obtain ⟨q,b,p',r1,r2,r3,r4,r5⟩:=Wf ho
     rw [Nat.zero_add] at r4
     obtain ⟨b',hb',hlv⟩:=foundAt (List.getElem?_eq_some_iff.1 r1).1 r4
     obtain ⟨b2,h5,h6⟩:=Bq.1 hlv
     rw [hb] at h5; cases h5; exact absurd rfl h6
   exact Bq.2 ⟨p.rn σ',by rw [hH',Eu,hb,hl]; rfl,notFree hp _ rfl⟩
 have livT:∀ g,liv post g=true->(σ' g).to (liv H')=true:=fun g hg=>by
  rcases hs':σ' g with _ | j | ⟨q,o,s,m⟩ | ⟨q,o,s,m⟩
  ·rfl
  ·exact livN hg hs'
  ·rcases Nat.lt_or_ge g pre.length with h1 | h1
   ·rw [s1 h1] at hs'
    rcases F1 (List.getElem?_eq_getElem h1) with ⟨_,j',b',h2,_⟩ | ⟨j',b',h2,_⟩ | ⟨h2,h3,h5⟩ | ⟨_,_,_,_,_,_,_,l,_,h2,_,h3,_⟩ | ⟨_,_,_,_,_,_,_,_,_,l,_,h2,h2b,h3,h4,_⟩
    ·rw [hs'] at h2; cases h2
    ·rw [hs'] at h2; cases h2
    ·rw [hs'] at h5; cases h5
    ·rw [hs'] at h2; cases h2
     obtain ⟨b',hg',hb'⟩:=bindSome h3
     exact livH q (Bq.2 ⟨b',hg',by intro e; subst e; cases hb'⟩)
    ·rw [hs'] at h2; cases h2
   ·rw [s3 h1] at hs'; cases hs'
  ·rcases Nat.lt_or_ge g pre.length with h1 | h1
   ·rw [s1 h1] at hs'
    rcases F1 (List.getElem?_eq_getElem h1) with ⟨_,j',b',h2,_⟩ | ⟨j',b',h2,_⟩ | ⟨h2,h3,h5⟩ | ⟨_,_,_,_,_,_,_,l,_,h2,_,h3,_⟩ | ⟨_,_,_,_,_,_,_,_,_,l,_,h2,h2b,h3,h4,_⟩
    ·rw [hs'] at h2; cases h2
    ·rw [hs'] at h2; cases h2
    ·rw [hs'] at h5; cases h5
    ·rw [hs'] at h2; cases h2
    ·rw [hs'] at h2; cases h2
     exact livH q (Bq.2 ⟨_,h3,by intro e; subst e; cases h4⟩)
   ·rw [s3 h1] at hs'; cases hs'
 refine ⟨ρ',fun i hi hk=>old i hi (by unfold W6 at hk; exact Option.isNone_iff_eq_none.1 hk),?_,?_,?_⟩
 ·rw [he,V.den_rn res c9,V.den_ext (n:=liv post) (ρ':=ρq) (ρ:=ρ'.via σ') hvia res hs.rs.1]
 have resNew:∀ {i j:Nat} {p:B},post[i]?=some p->ρ' j=ρq i->(p.rn σ').res ρ' (ρ' j)=p.res ρq (ρq i):=fun {i j p} hp hj=>by
  rw [B.res_rn (alP hp),hj]
  exact (B.res_ext (n:=liv post) (ρ:=ρ'.via σ') (ρ':=ρq) hvia (Ec.cl i p hp)).symm
 have oldLt:∀ {j:Nat} {c:B},H[j]?=some c->(∀ (i:Nat) (b:B),pre[i]?=some b->b.isRo=false->sg0 σ i ≠ .id j)->c.lt (fun i=>liv H i && W6 σ pre i)=true:=fun {j c} hc hno=>by
  have h1:=h.cl j c hc
  have h2:c.lt (W6 σ pre)=true:=by
   cases hany:pre.any B.isRow with
   | false=>exact B.lt_mono (fun i _=>by unfold W6; rw [A02 hany]; rfl) h1
   | true =>
     rw [hany] at c11
     refine Pd c11 hc ?_
     rw [Nat.zero_add]
     exact Xh fun m b hb hro=>by rw [Nat.zero_add]; exact hno m b hb hro
  exact B.lt_and h1 h2
 have old':∀ i,(liv H i && W6 σ pre i)=true->ρ' i=ρ i:=fun i hi=>by
  simp only [bq] at hi
  exact old i hi.1 (by have:=hi.2; unfold W6 at this; exact Option.isNone_iff_eq_none.1 this)
 have resOld:∀ {j:Nat} {c:B},H[j]?=some c->(∀ (i:Nat) (b:B),pre[i]?=some b->b.isRo=false->sg0 σ i ≠ .id j)->ρ' j=ρ j->c.res ρ' (ρ' j)=c.res ρ (ρ j):=fun {j c} hc hno hj=>by
  rw [hj]
  exact B.res_ext old' (oldLt hc hno)
 have fpOld:∀ {j:Nat} {c:B} {g:Nat},H[j]?=some c->(∀ (i:Nat) (b:B),pre[i]?=some b->b.isRo=false->sg0 σ i ≠ .id j)->g ∈ (c.res ρ (ρ j)).fp->g ∉ Mc/\g < w.heap.size:=fun {j c g} hc hno hg=>by
  cases hro:c.isRo with
  | true=>cases c <;> first | exact absurd hg G8 | cases hro
  | false =>
    refine ⟨?_,h.hs.lt j (Bd hc) g hg⟩
    rw [B.fp_own hro] at hg
    exact F6 hc hg hno
 ·refine ⟨⟨?_,?_,?_,h.hs.fr.trans' Ec.hs.fr fun g hg=>F5 hg⟩,?_,?_,?_,fun i hi=>livH i (h.kl i hi),fun j c hj hfx hc=>?_⟩
  ·intro j r hj
   obtain ⟨c,hc,rfl⟩:=H4 hj
   rcases G hc with ⟨i,p,h1,h2,rfl,h4,_⟩ | ⟨h1,h2,h3⟩
   ·rw [resNew h1 h4]; exact Ec.hs.ok i _ (Bd h1)
   ·rw [resOld h1 h2 h3]
    exact Res.keep (h.hs.ok j _ (Bd h1)) fun g hg=>Ec.hs.fr.block g (fpOld h1 h2 hg).2 (fpOld h1 h2 hg).1
  ·intro j j' r r' hne hj hj' g hg hg'
   obtain ⟨c,hc,rfl⟩:=H4 hj
   obtain ⟨c',hc',rfl⟩:=H4 hj'
   have cross:∀ {i j:Nat} {p c:B},post[i]?=some p->g ∈ (p.res ρq (ρq i)).fp->H[j]?=some c->(∀ (i:Nat) (b:B),pre[i]?=some b->b.isRo=false->sg0 σ i ≠ .id j)->g ∈ (c.res ρ (ρ j)).fp->False:=fun {i j p c} hp hg1 hc hno hg2=>by
    obtain ⟨q1,q2⟩:=fpOld hc hno hg2
    rcases Ec.hs.my i _ (Bd hp) g hg1 with h1 | h1
    ·exact q1 h1
    ·exact absurd q2 (Nat.not_lt.2 h1)
   rcases G hc with ⟨i,p,h1,h2,rfl,h4,h5⟩ | ⟨h1,h2,h3⟩ <;> rcases G hc' with ⟨i',p',h1',h2',rfl,h4',h5'⟩ | ⟨h1',h2',h3'⟩
   ·rw [resNew h1 h4] at hg; rw [resNew h1' h4'] at hg'
    have hii:i ≠ i':=fun e=>by subst e; rw [h5] at h5'; cases h5'; exact hne rfl
    exact Ec.hs.ap i i' _ _ hii (Bd h1) (Bd h1') g hg hg'
   ·rw [resNew h1 h4] at hg; rw [resOld h1' h2' h3'] at hg'
    exact cross h1 hg h1' h2' hg'
   ·rw [resOld h1 h2 h3] at hg; rw [resNew h1' h4'] at hg'
    exact cross h1' hg' h1 h2 hg
   ·rw [resOld h1 h2 h3] at hg; rw [resOld h1' h2' h3'] at hg'
    exact h.hs.ap j j' _ _ hne (Bd h1) (Bd h1') g hg hg'
  ·intro j r hj g hg
   obtain ⟨c,hc,rfl⟩:=H4 hj
   rcases G hc with ⟨i,p,h1,h2,rfl,h4,h5⟩ | ⟨h1,h2,h3⟩
   ·rw [resNew h1 h4] at hg
    rcases Ec.hs.my i _ (Bd h1) g hg with h6 | h6
    ·exact F5 h6
    ·exact .inr (Nat.le_trans h.hs.size h6)
   ·rw [resOld h1 h2 h3] at hg; exact h.hs.my j _ (Bd h1) g hg
  ·intro j c hc
   rcases G hc with ⟨i,p,h1,h2,rfl,h4,h5⟩ | ⟨h1,h2,h3⟩
   ·rw [B.side_rn (alP h1) h2,h4]
    have:=Ec.sd i p h1
    rw [B.side_ext (n:=liv post) (ρ:=ρ'.via σ') (ρ':=ρq) hvia (Ec.cl i p h1)] at this
    cases p with
    | ro p=>cases h2
    | _=>exact this
   ·rw [h3]
    exact (B.side_ext old' (oldLt h1 h2)).2 (h.sd j c h1)
  ·intro j c hc
   rcases G hc with ⟨i,p,h1,h2,rfl,h4,h5⟩ | ⟨h1,h2,h3⟩
   ·exact B.lt_rn livT (Ec.cl i p h1)
   ·exact B.lt_mono livH (h.cl j c h1)
  ·intro i hi hfx
   rw [old i (h.kl i hi) ?_]
   ·exact h.ag i hi hfx
   ·rcases hr:Mv σ pre 0 i with _ | q
    ·rfl
    ·obtain ⟨m,b,rfl,h2,h3,h4⟩:=Pf hr
     rw [Nat.zero_add] at h4
     obtain ⟨j,b',r1,r2,_,_,_,r6⟩:=F3 h2 (by cases b <;> first | rfl | cases h3)
     rw [h4] at r1; cases r1
     have:=h.nr i b' hi hfx r2
     rw [r6] at this
     cases b <;> first | (cases h3; done) | (cases this; done)
  ·rcases G hc with ⟨q,p,h1,h2,rfl,h4,h5⟩ | ⟨h1,_,_⟩
   ·rcases s2 h5 with ⟨h6,h7⟩ | ⟨h6,h7⟩
    ·obtain ⟨b',hb',_⟩:=foundAt h6 h7
     have hnr:=h.nr j b' hj hfx hb'
     have hq:Gc pre q=true:=by
      unfold Gc
      rw [List.getElem?_eq_getElem h6]
      cases hbr:(pre[q]).isRow with
      | false=>simp only [hbr]; rfl
      | true =>
        obtain ⟨j',b2,r1,r2,_,_,_,r6⟩:=F3 (List.getElem?_eq_getElem h6) (by generalize pre[q]=b at hbr ⊢; cases b <;> first | rfl | cases hbr)
        rw [h7] at r1; cases r1
        rw [hb'] at r2; cases r2
        rw [r6] at hnr
        generalize pre[q]=b at hbr hnr
        cases b <;> first | (cases hbr; done) | (cases hnr; done)
     have:=Ec.nr q p h6 hq h1
     cases p <;> first | rfl | cases this
    ·have:=h.kl j hj
     unfold liv at this
     have hil:=(List.getElem?_eq_some_iff.1 h1).1
     rw [isFr (j:=j) (by omega) (by omega)] at this; cases this
   ·exact h.nr j c hj hfx h1
 ·exact ⟨V.lt_rn livT res hs.rs.1,livH⟩
end
