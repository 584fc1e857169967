import Derived.Test.YtfhiggfmkjmeiaaGreatFxW
set_option linter.all false
namespace Go.Proofs.YtfhiggfmkjmeiaaGreat
open Go Go.RowKit
def frz (F:List Nat):List B->Nat->List B
 | [],_=>[]
 | b :: H,i=>(bif Bb F i then .ro b else b) :: frz F H (i + 1)
def thw (F:List Nat):List B->List B->Nat->List B
 | b :: H,c :: H',i=>(bif Bb F i then b else c) :: thw F H H' (i + 1)
 | _,_,_=>[]
theorem P5 (F:List Nat):∀ (H:List B) (i j:Nat),(frz F H i)[j]?=H[j]?.map fun b=>bif Bb F (i + j) then .ro b else b
 | [],_,_=>rfl
 | b :: H,i,0=>rfl
 | b :: H,i,j + 1=>by rw [frz,List.getElem?_cons_succ,P5 F H (i + 1) j,List.getElem?_cons_succ,show i + 1 + j=i + (j + 1) by omega]
theorem Yl (F:List Nat):∀ (H H':List B) (i j:Nat),H.length=H'.length->(thw F H H' i)[j]?=bif Bb F (i + j) then H[j]? else H'[j]?
 | [],[],_,_,_=>by cases Bb F _ <;> rfl
 | b :: H,c :: H',i,0,_=>by
   show some (bif Bb F i then b else c)=bif Bb F i then some b else some c
   cases Bb F i <;> rfl
 | b :: H,c :: H',i,j + 1,h=>by
   rw [thw,List.getElem?_cons_succ,Yl F H H' (i + 1) j (by simpa using h),List.getElem?_cons_succ,List.getElem?_cons_succ,show i + 1 + j=i + (j + 1) by omega]
def Sn (H:List B) (g:Nat):Bool:=match H[g]? with | some (.row _ _)=>true | _=>false
theorem Kh {H:List B} {g:Nat} (h:Sn H g=true):∃ (α:Type) (e:Enc α) (l:List α),H[g]?=some (.row e l):=by
 unfold Sn at h
 split at h
 ·rename_i α e l hb; exact ⟨α,e,l,hb⟩
 ·cases h
def Aiy (H:List B) (i:Nat):Bool:=match H[i]? with | some b=>b.isRo | none=>false
def A13 (n:Nat):List B->Nat->Bool
 | [],_=>true
 | b :: H,i=>(!b.isRo || Nat.blt i n) && A13 n H (i + 1)
theorem A3k {n:Nat}:∀ {H:List B} {i j:Nat} {b:B},A13 n H i=true->H[j]?=some b->b.isRo=true->i + j < n
 | [],_,_,_,_,h,_=>by simp at h
 | b :: H,i,0,c,h,hj,hc=>by
   cases hj
   simp only [A13,bq,hc,Bool.not_true,Bool.false_or] at h
   have:=h.1; rw [Nat.blt_eq] at this; omega
 | b :: H,i,j + 1,c,h,hj,hc=>by
   simp only [A13,bq] at h
   have:=A3k h.2 (by simpa using hj) hc
   omega
theorem A0e {p:Nat->Bool}:∀ {F:List Nat} {g:Nat},F.all p=true->Bb F g=true->p g=true
 | [],_,_,h=>by cases h
 | j :: F,g,h,hg=>by
   simp only [List.all_cons,bq] at h
   rw [Bb] at hg
   cases hb:Nat.beq g j with
   | true=>rw [Nat.eq_of_beq_eq_true hb]; exact h.1
   | false=>rw [hb] at hg; exact A0e h.2 hg
section
variable {X:Ctx} {ρ ρ':Env} {H H':List B} {w w':World} {F:List Nat} {n:Nat}
theorem Qh {i:Nat} {b:B} (hb:(frz F H 0)[i]?=some b):(Bb F i=true/\∃ b',H[i]?=some b'/\b=.ro b') ∨ (Bb F i=false/\H[i]?=some b):=by
 rw [P5,Nat.zero_add] at hb
 cases h:H[i]? with
 | none=>rw [h] at hb; cases hb
 | some c =>
   rw [h] at hb
   cases hm:Bb F i with
   | true=>rw [hm] at hb; cases hb; exact .inl ⟨rfl,c,rfl,rfl⟩
   | false=>rw [hm] at hb; cases hb; exact .inr ⟨rfl,rfl⟩
theorem Af8 (i:Nat):liv (frz F H 0) i=liv H i ∨ Bb F i=true:=by
 cases hm:Bb F i with
 | true=>exact .inr rfl
 | false =>
   refine .inl ?_
   unfold liv
   rw [P5,Nat.zero_add,hm]
   cases H[i]? with
   | none=>rfl
   | some b=>cases b <;> rfl
theorem Yi (ρ:Env) {i:Nat} {r:Res} (h:(rsF ρ (frz F H 0) 0)[i]?=some r):r=Sf ∨ (Bb F i=false/\(rsF ρ H 0)[i]?=some r):=by
 obtain ⟨b,hb,rfl⟩:=H4 h
 rcases Qh hb with ⟨_,b',_,rfl⟩ | ⟨h1,h2⟩
 ·exact .inl rfl
 ·exact .inr ⟨h1,Bd h2⟩
theorem Axf (hF:∀ g,Bb F g=true->Sn H g=true) (i:Nat) (hi:liv H i=true):liv (frz F H 0) i=true:=by
 rcases Af8 (F:=F) (H:=H) i with h1 | h1
 ·rw [h1]; exact hi
 ·obtain ⟨α,e,l,h2⟩:=Kh (hF i h1)
  unfold liv
  rw [P5,Nat.zero_add,h1,h2]; rfl
theorem Ays (hF:∀ g,Bb F g=true->Sn H g=true) (hl:H.length=H'.length) (i:Nat) (hi:liv H' i=true):liv (thw F H H' 0) i=true:=by
 unfold liv
 rw [Yl F H H' 0 i hl,Nat.zero_add]
 cases hm:Bb F i with
 | true=>obtain ⟨α,e,l,h2⟩:=Kh (hF i hm); rw [h2]; rfl
 | false=>exact hi
def A3l (L:List Nat):List B->List B->Nat->Bool
 | a :: A,b :: C,i=>(!a.isRo || !Bb L i) && (!b.isRo || a.isRo) && A3l L A C (i + 1)
 | [],[],_=>true
 | _,_,_=>false
theorem Oi {L:List Nat}:∀ {A C:List B} {i:Nat},A3l L A C i=true->A.length=C.length/\∀ (j:Nat),(∀ b,A[j]?=some b->b.isRo=true->Bb L (i + j)=false)/\(∀ b,C[j]?=some b->b.isRo=true->∃ a,A[j]?=some a/\a.isRo=true)
 | [],[],_,_=>⟨rfl,fun j=>⟨fun b h=>by simp at h,fun b h=>by simp at h⟩⟩
 | a :: A, b :: C, i, h => by
   simp only [A3l,bq] at h
   obtain ⟨⟨h1,h2⟩,h3⟩:=h
   obtain ⟨k1,k2⟩:=Oi h3
   refine ⟨by simp [k1],fun j=>?_⟩
   cases j with
   | zero =>
     refine ⟨fun c hc hr=>?_,fun c hc hr=>?_⟩
     ·cases hc; rw [hr] at h1; simpa using h1
     ·cases hc; rw [hr] at h2; exact ⟨a,rfl,by simpa using h2⟩
   | succ j =>
     have:=k2 j
     rw [show i + 1 + j=i + (j + 1) by omega] at this
     exact this
theorem Emb.freeze (h:Emb X ρ H w) (hF:∀ g,Bb F g=true->Sn H g=true) {k:Nat} (hk:∀ i,i < k->liv H i=true) (hX:∀ i,i < X.k->i < k) :
   Emb ⟨k,fun i=>(Nat.blt i X.k && X.fx i) || Aiy (frz F H 0) i,ρ,fps (rsF ρ (frz F H 0) 0),w⟩ ρ (frz F H 0) w:=by
 have hlv:∀ i,liv H i=true->liv (frz F H 0) i=true:=fun i hi=>by
  rcases Af8 (F:=F) (H:=H) i with h1 | h1
  ·rw [h1]; exact hi
  ·obtain ⟨α,e,l,h2⟩:=Kh (hF i h1)
   unfold liv
   rw [P5,Nat.zero_add,h1,h2]; rfl
 refine ⟨Hs.init (fun i r hi=>?_) (fun i j r s hne hi hj g hg=>?_) (fun i r hi g hg=>A59 i r hi g hg),fun i b hb=>?_,fun i b hb=>?_,fun _ _ _=>rfl,fun i hi=>hlv i (hk i hi),fun i b hi hfx hb=>?_⟩
 ·rcases Yi ρ hi with rfl | ⟨_,h1⟩
  ·exact S4 w
  ·exact h.hs.ok i r h1
 ·rcases Yi ρ hi with rfl | ⟨_,h1⟩
  ·exact absurd hg G8
  ·rcases Yi ρ hj with rfl | ⟨_,h2⟩
   ·exact G8
   ·exact h.hs.ap i j r s hne h1 h2 g hg
 ·-- what A2d elsewhere
  have hno:∀ {j x:Nat} {b:B},H[j]?=some b->x ∈ b.ats (ρ j)->(Bb F j=true ∨ b.isRo=true)->x ∉ fps (rsF ρ (frz F H 0) 0):=fun {j x b} hj hx hor hm=>by
   obtain ⟨i,r,hi,hg⟩:=Y9 hm
   obtain ⟨b1,hb1,rfl⟩:=H4 hi
   rcases Qh hb1 with ⟨_,b',_,rfl⟩ | ⟨h1,h2⟩
   ·exact G8 hg
   ·by_cases hij:j=i
    ·subst hij
     rcases hor with h3 | h3
     ·rw [h1] at h3; cases h3
     ·rw [hj] at h2; cases h2
      cases b <;> first | exact G8 hg | cases h3
    ·cases hro:b1.isRo with
     | true=>cases b1 <;> first | exact G8 hg | cases hro
     | false=>exact h.atApart hij hj hx h2 hro hg
  rcases Qh hb with ⟨hm,b',hb',rfl⟩ | ⟨hm,hb'⟩
  ·obtain ⟨α,e,l,h2⟩:=Kh (hF i hm)
   rw [hb'] at h2; cases h2
   show (B.row e l).roOk w _ ρ (ρ i)
   obtain ⟨r1,r2,r3,r4⟩:=h.row hb' rfl
   refine ⟨r1,r2,fun ha=>⟨r3 ha,((h.sd i _ hb').2.2 ha).1⟩,fun x hx=>⟨hno hb' (Option.mem_toList.2 hx) (.inl hm),?_⟩,r4⟩
   exact h.hs.lt i (Bd hb') x (by rw [B.fp_own rfl]; exact Option.mem_toList.2 hx)
  ·cases hro : b.isRo with
   | false =>
     have:=h.sd i b hb'
     cases b <;> first | exact this | cases hro
   | true =>
     have hat:∀ {x:Nat},x ∈ b.ats (ρ i)->x ∉ fps (rsF ρ (frz F H 0) 0):=fun hx=>hno hb' hx (.inr hro)
     have hlt:∀ {x:Nat},x ∈ b.ats (ρ i)->x < w.heap.size:=fun hx=>Nat.lt_of_lt_of_le (h.atRo hb' hro hx).2 h.hs.size
     cases b with
     | ro b =>
       show b.roOk w _ ρ (ρ i)
       have hs:=h.sd i _ hb'
       cases b with
       | blk l ty =>
         obtain ⟨q1,q2,q3,q4⟩:=hs
         exact ⟨q1,q2,hat (List.mem_singleton.2 rfl),(W5 h q3 (Gx q4)).trans q4⟩
       | row e l =>
         obtain ⟨r1,r2,r3,r4⟩:=h.row hb' rfl
         exact ⟨r1,r2,hs.2.2.1,fun x hx=>⟨hat (Option.mem_toList.2 hx),hlt (Option.mem_toList.2 hx)⟩,r4⟩
       | mp y f =>
         obtain ⟨es,cl,r1,r2⟩:=h.map hb' rfl
         exact ⟨hat (List.mem_singleton.2 rfl),es,cl,r1,r2⟩
       | lo _ _=>exact ⟨hat (List.mem_singleton.2 rfl),hlt (List.mem_singleton.2 rfl)⟩
       | dfs=>exact fun x hx=>⟨hat hx,hlt hx⟩
       | gone=>trivial
       | free=>trivial
       | ro b=>exact hs.elim
     | _=>cases hro
 ·rcases Qh hb with ⟨hm,b',hb',rfl⟩ | ⟨hm,hb'⟩
  ·obtain ⟨α,e,l,h2⟩:=Kh (hF i hm)
   rw [hb'] at h2; cases h2; rfl
  ·exact B.lt_mono hlv (h.cl i b hb')
 ·simp only [Bool.or_eq_true,bq,Nat.blt_eq] at hfx
  rcases hfx with ⟨h1,h2⟩ | h1
  ·rcases Qh hb with ⟨hm,b',hb',rfl⟩ | ⟨hm,hb'⟩
   ·rfl
   ·exact h.nr i b h1 h2 hb'
  ·unfold Aiy at h1
   rw [hb] at h1
   cases b <;> first | rfl | cases h1
theorem Emb.thaw {X2 X3 : Ctx} (h : Emb X ρ H w) (hF : ∀ g, Bb F g = true -> Sn H g = true) (h2 : Emb X2 ρ' H' w') (e1 : X2.M = fps (rsF ρ (frz F H 0) 0)) (e2 : X2.w = w)
   (e3:∀ i,i < X.k->i < X2.k) (e4:∀ i,i < X.k->X.fx i=true->X2.fx i=true) (f1:X3.M=X.M) (f2:X3.w=X.w) (f3:X3.k=X.k) (f4:X3.fx=X.fx)
   (hag:∀ i,i < X.k->X.fx i=true->ρ' i=X3.ρ i) (hst:∀ (i:Nat) (b:B),(frz F H 0)[i]?=some b->b.isRo=true->ρ' i=ρ i/\H'[i]?=some b) (hr:∀ (i:Nat) (b:B),H'[i]?=some b->b.isRo=true->(frz F H 0)[i]?=some b)
   (hl:H.length=H'.length):Emb X3 ρ' (thw F H H' 0) w':=by
 have tg:∀ i,(thw F H H' 0)[i]?=bif Bb F i then H[i]? else H'[i]?:=fun i=>by rw [Yl F H H' 0 i hl,Nat.zero_add]
 -- a row that was only read
 have fz:∀ {i:Nat},Bb F i=true->∃ (α:Type) (e:Enc α) (l:List α),H[i]?=some (.row e l)/\ρ' i=ρ i/\H'[i]?=some (.ro (.row e l)):=fun {i} hi=>by
  obtain ⟨α,e,l,h3⟩:=Kh (hF i hi)
  obtain ⟨h4,h5⟩:=hst i (.ro (.row e l)) (by rw [P5,Nat.zero_add,hi,h3]; rfl) rfl
  exact ⟨α,e,l,h3,h4,h5⟩
 have hM:∀ g,g ∈ X2.M->∃ (i:Nat) (r:Res),Bb F i=false/\(rsF ρ H 0)[i]?=some r/\g ∈ r.fp:=fun g hg=>by
  rw [e1] at hg
  obtain ⟨i,r,hi,hg'⟩:=Y9 hg
  rcases Yi ρ hi with rfl | ⟨h3,h4⟩
  ·exact absurd hg' G8
  ·exact ⟨i,r,h3,h4,hg'⟩
 have hM2:∀ g,g ∈ X2.M->g ∈ X.M ∨ X.w.heap.size<=g:=fun g hg=>by
  obtain ⟨i,r,_,h4,h5⟩:=hM g hg
  exact h.hs.my i r h4 g h5
 -- where a frozen row A2d
 have fzp:∀ {i:Nat} {α:Type} {e:Enc α} {l:List α} {g:Nat},Bb F i=true->H[i]?=some (.row e l)->g ∈ ((B.row e l).res ρ (ρ i)).fp->g ∉ X2.M/\g < w.heap.size:=fun {i α e l g} hi hb hg=>by
  refine ⟨fun hm=>?_,h.hs.lt i (Bd hb) g hg⟩
  obtain ⟨j,r,h3,h4,h5⟩:=hM g hm
  have hne:i ≠ j:=fun e=>by subst e; rw [hi] at h3; cases h3
  exact h.hs.ap i j _ _ hne (Bd hb) h4 g hg h5
 have kp:∀ {g:Nat},g ∉ X2.M->g < w.heap.size->w'.heap[g]?=w.heap[g]?:=fun h3 h4=>by
  have:=h2.hs.fr.block _ (by rw [e2]; exact h4) h3
  rw [e2] at this; exact this
 have rs:∀ {i:Nat} {r:Res},(rsF ρ' (thw F H H' 0) 0)[i]?=some r->(Bb F i=true/\∃ (α:Type) (e:Enc α) (l:List α),H[i]?=some (.row e l)/\r=(B.row e l).res ρ (ρ i)) ∨ (Bb F i=false/\(rsF ρ' H' 0)[i]?=some r):=fun {i r} hi=>by
  obtain ⟨b,hb,rfl⟩:=H4 hi
  rw [tg] at hb
  cases hm:Bb F i with
  | true =>
    rw [hm] at hb
    obtain ⟨α,e,l,h3,h4,_⟩:=fz hm
    have hb:H[i]?=some b:=hb
    rw [h3] at hb; cases hb
    exact .inl ⟨rfl,α,e,l,h3,by rw [h4]; rfl⟩
  | false=>rw [hm] at hb; exact .inr ⟨rfl,Bd hb⟩
 have hlv:∀ i,liv H' i=true->liv (thw F H H' 0) i=true:=fun i hi=>by
  unfold liv
  rw [tg]
  cases hm:Bb F i with
  | true=>obtain ⟨α,e,l,h3,_⟩:=fz hm; rw [h3]; rfl
  | false=>exact hi
 refine ⟨⟨fun i r hi=>?_,fun i j r s hne hi hj g hg=>?_,fun i r hi g hg=>?_,?_⟩,fun i b hb=>?_,fun i b hb=>?_,fun i hi hfi=>?_,fun i hi=>?_,fun i b hi hfi hb=>?_⟩
 ·rcases rs hi with ⟨hm,α,e,l,h3,rfl⟩ | ⟨_,h3⟩
  ·exact Res.keep (h.hs.ok i _ (Bd h3)) fun g hg=>kp (fzp hm h3 hg).1 (fzp hm h3 hg).2
  ·exact h2.hs.ok i r h3
 ·rcases rs hi with ⟨hm,α,e,l,h3,rfl⟩ | ⟨hm,h3⟩
  ·rcases rs hj with ⟨hm',α',e',l',h4,rfl⟩ | ⟨hm',h4⟩
   ·exact h.hs.ap i j _ _ hne (Bd h3) (Bd h4) g hg
   ·intro hs
    obtain ⟨p1,p2⟩:=fzp hm h3 hg
    rcases h2.hs.my j s h4 g hs with h5 | h5
    ·exact p1 h5
    ·rw [e2] at h5; omega
  ·rcases rs hj with ⟨hm',α',e',l',h4,rfl⟩ | ⟨hm',h4⟩
   ·intro hs
    obtain ⟨p1,p2⟩:=fzp hm' h4 hs
    rcases h2.hs.my i r h3 g hg with h5 | h5
    ·exact p1 h5
    ·rw [e2] at h5; omega
   ·exact h2.hs.ap i j r s hne h3 h4 g hg
 ·rw [f1,f2]
  rcases rs hi with ⟨hm,α,e,l,h3,rfl⟩ | ⟨hm,h3⟩
  ·exact h.hs.my i _ (Bd h3) g hg
  ·rcases h2.hs.my i r h3 g hg with h4 | h4
   ·exact hM2 g h4
   ·rw [e2] at h4; exact .inr (Nat.le_trans h.hs.size h4)
 ·rw [f1,f2]
  have:=h2.hs.fr
  rw [e2] at this
  exact h.hs.fr.trans' this hM2
 ·rw [f1, f2]
  rw [tg] at hb
  cases hm:Bb F i with
  | true =>
    rw [hm] at hb
    have hb:H[i]?=some b:=hb
    obtain ⟨α,e,l,h3,h4,_⟩:=fz hm
    rw [h3] at hb; cases hb
    rw [h4]; exact h.sd i _ h3
  | false =>
    rw [hm] at hb
    have hb:H'[i]?=some b:=hb
    cases hro:b.isRo with
    | false =>
      have:=h2.sd i b hb
      cases b <;> first | exact this | cases hro
    | true =>
      have h3:=hr i b hb hro
      have h4:=(hst i b h3 hro).1
      have h5:H[i]?=some b:=by
       rcases Qh h3 with ⟨k1,_⟩ | ⟨_,k2⟩
       ·rw [hm] at k1; cases k1
       ·exact k2
      have s1:=h.sd i b h5
      have s2:=h2.sd i b hb
      cases b with
      | ro b =>
        have s1:b.roOk X.w X.M ρ (ρ i):=s1
        have s2:b.roOk X2.w X2.M ρ' (ρ' i):=s2
        show b.roOk X.w X.M ρ' (ρ' i)
        rw [h4] at s2 ⊢
        cases b with
        | blk l ty =>
          obtain ⟨q1,q2,q3,q4⟩:=s1
          obtain ⟨_,_,_,p4⟩:=s2
          exact ⟨q1,q2,q3,by rw [e2,W5 h q3 (Gx q4)] at p4; exact p4⟩
        | _=>exact s1
      | _=>cases hro
 ·rw [tg] at hb
  cases hm:Bb F i with
  | true =>
    rw [hm] at hb
    have hb:H[i]?=some b:=hb
    obtain ⟨α,e,l,h3,_⟩:=fz hm
    rw [h3] at hb; cases hb; rfl
  | false =>
    rw [hm] at hb
    exact B.lt_mono hlv (h2.cl i b hb)
 ·rw [f3] at hi; rw [f4] at hfi
  exact hag i hi hfi
 ·rw [f3] at hi
  exact hlv i (h2.kl i (e3 i hi))
 ·rw [f3] at hi; rw [f4] at hfi
  rw [tg] at hb
  cases hm:Bb F i with
  | true =>
    rw [hm] at hb
    exact h.nr i b hi hfi hb
  | false =>
    rw [hm] at hb
    exact h2.nr i b (e3 i hi) (e4 i hi hfi) hb
end
