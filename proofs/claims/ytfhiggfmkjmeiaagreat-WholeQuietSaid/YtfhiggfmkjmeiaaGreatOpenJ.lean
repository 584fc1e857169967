import Derived.Test.YtfhiggfmkjmeiaaGreatRows
import Derived.WalkKit
import Derived.ProofKit
import Derived.OpenShut
import Derived.Test.YtfhiggfmkjmeiaaGreatFMch
set_option linter.all false
namespace Go.Proofs.YtfhiggfmkjmeiaaGreat
open Go Go.ChangeShapes Go.WideShapes Go.ChangeAt Go.RowKit
abbrev Lf:=IntKind ⊕ Bool
def T3:Lf->Value->Prop
 | .inl k,v=>∃ n,v=.int k n/\(Lit.int k n).wf=true
 | .inr false,v=>∃ b,v=.bool b
 | .inr true,v=>∃ s:ByteArray,v=.string s/\s.size<=maxLen
def C4:List Lf->List Value->Prop
 | [],[]=>True
 | l :: ls,v :: vs=>T3 l v/\C4 ls vs
 | _,_=>False
theorem Nb {cs:List Value}:C4 [] cs ↔ cs=[]:=by cases cs <;> simp [C4]
theorem I7 {l:Lf} {ls:List Lf} {cs:List Value}:C4 (l :: ls) cs ↔ ∃ v vs,cs=v :: vs/\T3 l v/\C4 ls vs:=by
 cases cs with
 | nil=>simp [C4]
 | cons v vs => constructor
                ·intro h; exact ⟨v,vs,rfl,h.1,h.2⟩
                ·rintro ⟨_,_,e,h⟩; cases e; exact h
theorem Qg:∀ {ls:List Lf} {cs:List Value},C4 ls cs->cs.length=ls.length
 | [],cs,h=>by rw [Nb.1 h]; rfl
 | l :: ls,cs,h=>by obtain ⟨v,vs,rfl,_,h2⟩:=I7.1 h; simp [Qg h2]
theorem Mm:∀ {ls ms:List Lf} {cs ds:List Value},C4 ls cs->C4 ms ds->C4 (ls ++ ms) (cs ++ ds)
 | [],ms,cs,ds,h,h2=>by rw [Nb.1 h]; exact h2
 | l :: ls,ms,cs,ds,h,h2=>by
   obtain ⟨v,vs,rfl,h0,h1⟩:=I7.1 h
   exact ⟨h0,Mm h1 h2⟩
def Ie (rec : TypeId -> Option (List Lf)) (P : Program) : Nat -> List Field -> Option (List Lf)
 | _,[]=>some []
 | off,f :: fs=>match rec f.type with
   | some ls=>if f.offset=off/\ls.length=P.cellsOf f.type then
    match Ie rec P (off + ls.length) fs with
    | some r=>some (ls ++ r)
    | none=>none
     else none
   | none=>none
def Sm (P:Program):Nat->TypeId->Option (List Lf)
 | 0,_=>none
 | n + 1, t => match P.underlying t with
   | some .bool=>some [.inr false]
   | some (.int k)=>some [.inl k]
   | some .string=>some [.inr true]
   | some (.struct fs)=>match Ie (Sm P n) P 0 fs.toList with
     | some ls=>if ls.length=P.cellsOf t then some ls else none
     | none=>none
   | _=>none
section
variable {H:Type} {enc:TypeId × Value->H} {P:Program} {w:World} {base:Nat} {spare:Nat->Bool} {held:Bool}
theorem X4 {n fuel : Nat} {cs : List Value} (ih : ∀ t ls fuel cs x, Sm P n t = some ls -> DataW.trod enc P w base spare held fuel t cs = some x -> C4 ls cs) :
   ∀ (fs:List Field) (off:Nat) (ls:List Lf) (xs),Ie (Sm P n) P off fs=some ls ->
     (fs.mapM fun f=>DataW.trod enc P w base spare held fuel f.type ((cs.drop f.offset).take (P.cellsOf f.type)))=some xs ->
     off + ls.length=cs.length->C4 ls (cs.drop off)
 | [],off,ls,xs,h1,h2,h3=>by
   simp only [Ie,Option.some.injEq] at h1
   subst h1
   rw [List.drop_eq_nil_of_le (by simp at h3; omega)]
   exact True.intro
 | f :: fs, off, ls, xs, h1, h2, h3 => by
   unfold Ie at h1
   cases hr:Sm P n f.type with
   | none=>rw [hr] at h1; cases h1
   | some l0 =>
     rw [hr] at h1
     simp only at h1
     by_cases hc:f.offset=off/\l0.length=P.cellsOf f.type
     ·rw [if_pos hc] at h1
      cases hs:Ie (Sm P n) P (off + l0.length) fs with
      | none=>rw [hs] at h1; cases h1
      | some r =>
        rw [hs] at h1
        simp only [Option.some.injEq] at h1
        subst h1
        rw [List.mapM_cons] at h2
        cases hx:DataW.trod enc P w base spare held fuel f.type ((cs.drop f.offset).take (P.cellsOf f.type)) with
        | none=>rw [hx] at h2; cases h2
        | some x0 =>
          rw [hx] at h2
          cases hy:(fs.mapM fun f=>DataW.trod enc P w base spare held fuel f.type ((cs.drop f.offset).take (P.cellsOf f.type))) with
          | none=>simp [hy] at h2
          | some ys =>
            have a:=ih _ _ _ _ _ hr hx
            have b:=X4 ih fs (off + l0.length) r ys hs hy (by simp at h3; omega)
            rw [hc.1,← hc.2] at a
            have e:cs.drop off=(cs.drop off).take l0.length ++ cs.drop (off + l0.length):=by
             rw [← List.drop_drop]; exact (List.take_append_drop _ _).symm
            rw [e]
            exact Mm a b
     ·rw [if_neg hc] at h1; cases h1
theorem A1j : ∀ (n : Nat) (t : TypeId) (ls : List Lf) (fuel : Nat) (cs : List Value) (x), Sm P n t = some ls -> DataW.trod enc P w base spare held fuel t cs = some x -> C4 ls cs
 | 0,_,_,_,_,_,h,_=>by cases h
 | n + 1,t,ls,0,cs,x,_,h=>by simp [DataW.trod] at h
 | n + 1, t, ls, fuel + 1, cs, x, h1, h2 => by
   unfold Sm at h1
   unfold DataW.trod at h2
   split at h1
   ·rename_i hu
    simp only [Option.some.injEq] at h1; subst h1
    rw [hu] at h2
    split at h2 <;> simp_all [C4,T3]
   ·rename_i k hu
    simp only [Option.some.injEq] at h1; subst h1
    rw [hu] at h2
    split at h2 <;> simp_all [C4,T3]
   ·rename_i hu
    simp only [Option.some.injEq] at h1; subst h1
    rw [hu] at h2
    split at h2 <;> simp_all [C4,T3]
   ·rename_i fs hu
    cases hp:Ie (Sm P n) P 0 fs.toList with
    | none=>rw [hp] at h1; cases h1
    | some l0 =>
      rw [hp] at h1
      simp only at h1
      by_cases hc:l0.length=P.cellsOf t
      ·rw [if_pos hc] at h1
       simp only [Option.some.injEq] at h1
       subst h1
       rw [hu] at h2
       simp only at h2
       by_cases hl:cs.length=P.cellsOf t
       ·rw [if_pos hl] at h2
        cases hm:(fs.toList.mapM fun f=>DataW.trod enc P w base spare held fuel f.type ((cs.drop f.offset).take (P.cellsOf f.type))) with
        | none=>rw [hm] at h2; cases h2
        | some xs=>simpa using X4 (fun t ls fuel cs x=>A1j n t ls fuel cs x) fs.toList 0 l0 xs hp hm (by omega)
       ·rw [if_neg hl] at h2; cases h2
      ·rw [if_neg hc] at h1; cases h1
   ·cases h1
theorem Qt {r:Reach} {b0:Nat} {t:TypeId} {fs:Array Field} {ls:List Lf} {v:Value} {d:DataW H} {p:List MemPlace} (n:Nat) (hp:Sm P n t=some ls) (hs:P.underlying t=some (.struct fs))
   (hv:Value.okWide P w r b0 t v) (h:DataW.Trod enc P w base spare held t v d p):∃ cs:List Value,v=.agg cs.toArray/\C4 ls cs:=by
 obtain ⟨cs,rfl,_⟩:=okWide_struct hs hv
 obtain ⟨fuel,hf⟩:=h
 exact ⟨cs.toList,by simp,A1j n t ls fuel _ _ hp hf⟩
def A6i (w:World) (ls:List Lf) (a:Option Addr) (len:Nat) (rows:List (List Value)):Prop :=
 rows.length=len/\(∀ r ∈ rows,C4 ls r)/\(a=none->len=0) /\
 ∀ b,a=some b->∀ i j v,(rows[i]?.getD [])[j]?=some v->w.cell? ((b.add (i * ls.length)).add j)=some v
theorem Ahh {b:Addr} {n:Nat} {cs:List Value} (h:w.cells? base b n=some cs):cs.length=n/\∀ j v,cs[j]?=some v->w.cell? (b.add j)=some v:=by
 unfold World.cells? at h
 split at h
 ·have key : ∀ (l : List Nat) (cs : List Value), l.mapM (fun i => w.cell? (b.add i)) = some cs -> cs.length = l.length /\ ∀ (j : Nat) (v : Value), cs[j]? = some v -> ∃ i, l[j]? = some i /\ w.cell? (b.add i) = some v := by
   intro l
   induction l with
   | nil=>intro cs h; simp at h; subst h; simp
   | cons i l ih =>
     intro cs h
     rw [List.mapM_cons] at h
     cases h1:w.cell? (b.add i) with
     | none=>rw [h1] at h; cases h
     | some v0 =>
       rw [h1] at h
       cases h2:l.mapM (fun i=>w.cell? (b.add i)) with
       | none=>simp [h2] at h
       | some vs =>
         simp [h2] at h
         subst h
         obtain ⟨e1,e2⟩:=ih vs h2
         refine ⟨by simp [e1],fun j v hj=>?_⟩
         cases j with
         | zero=>simp at hj; subst hj; exact ⟨i,rfl,h1⟩
         | succ j=>simp at hj; obtain ⟨i',g1,g2⟩:=e2 j v hj; exact ⟨i',by simpa using g1,g2⟩
  obtain ⟨e1,e2⟩:=key _ _ h
  refine ⟨by simpa using e1,fun j v hj=>?_⟩
  obtain ⟨i,g1,g2⟩:=e2 j v hj
  rw [List.getElem?_range] at g1
  ·cases g1; exact g2
  ·have:=(List.getElem?_eq_some_iff.1 hj).1
   simp at e1
   omega
 ·cases h
theorem Ada {ls:List Lf} {a:Option Addr} {len:Nat} {rows:List (List Value)} (h:A6i w ls a len rows) (hlen:0 < len) (hls:ls ≠ []) :
   ∃ b off,a=some ⟨b,off,none⟩/\b < w.heap.size/\∀ i j v,(rows[i]?.getD [])[j]?=some v->w.cell? ⟨b,off + i * ls.length + j,none⟩=some v:=by
 obtain ⟨h1,h2,h3,h4⟩:=h
 cases a with
 | none=>have:=h3 rfl; omega
 | some ad =>
   have hr0:rows[0]?.getD [] ∈ rows:=by
    rw [List.getElem?_eq_getElem (by omega)]; exact List.getElem_mem _
   have hl0:=Qg (h2 _ hr0)
   have hp:0 < ls.length:=by cases ls with
    | nil=>exact absurd rfl hls
    | cons=>simp
   have hc0:∃ v,(rows[0]?.getD [])[0]?=some v:=⟨_,List.getElem?_eq_getElem (by omega)⟩
   obtain ⟨v0,hv0⟩:=hc0
   have g:=h4 ad rfl 0 0 v0 hv0
   have g':w.cell? ad=some v0:=by simpa [Addr.add] using g
   obtain ⟨b,off,spot⟩:=ad
   have hsp:spot=none:=World.cell?_spot g'
   subst hsp
   refine ⟨b,off,rfl,World.block_lt_of_cell? w _ g',fun i j v hv=>?_⟩
   have:=h4 _ rfl i j v hv
   unfold Addr.add at this
   by_cases hi:i * ls.length=0 <;> by_cases hj:j=0
   all_goals simp [hi,hj] at this ⊢
   all_goals exact this
end
end Go.Proofs.YtfhiggfmkjmeiaaGreat
namespace Go.Proofs.YtfhiggfmkjmeiaaGreat
open Go Go.RowKit Go.ChangeShapes Go.WideShapes
def Wh (P:Program):Nat->TypeId->Option (List Lf)
 | 0,_=>none
 | n + 1, t => match P.underlying t with
   | some (.int k)=>some [.inl k]
   | some (.array k e)=>match P.underlying e with
     | some (.int q)=>if P.cellsOf e=1/\P.cellsOf t=k then some (List.replicate k (.inl q)) else none
     | _=>none
   | some (.struct fs)=>match Ie (Wh P n) P 0 fs.toList with
     | some ls=>if ls.length=P.cellsOf t then some ls else none
     | none=>none
   | _=>none
theorem X1 (q:IntKind):∀ (n:Nat) (cs:List Value),cs.length=n->(∀ i,i < n->∃ z,cs[i]?=some (.int q z)/\(Lit.int q z).wf=true)->C4 (List.replicate n (.inl q)) cs
 | 0,cs,h,_=>by rw [List.length_eq_zero_iff.1 h]; exact True.intro
 | n + 1,[],h,_=>by simp at h
 | n + 1,v :: vs,h,hv=>by
   obtain ⟨z,hz,hw⟩:=hv 0 (by omega)
   simp only [List.getElem?_cons_zero,Option.some.injEq] at hz
   exact ⟨⟨z,hz,hw⟩,X1 q n vs (by simpa using h) fun i hi=>by simpa using hv (i + 1) (by omega)⟩
section
variable {H:Type} {enc:TypeId × Value->H} {P:Program} {w:World} {base:Nat} {spare:Nat->Bool} {held:Bool}
theorem U4 {rec : TypeId -> Option (List Lf)} {fuel : Nat} {cs : List Value} (ih : ∀ t ls fuel cs x, rec t = some ls -> DataW.trod enc P w base spare held fuel t cs = some x -> C4 ls cs) :
   ∀ (fs:List Field) (off:Nat) (ls:List Lf) (xs),Ie rec P off fs=some ls ->
     (fs.mapM fun f=>DataW.trod enc P w base spare held fuel f.type ((cs.drop f.offset).take (P.cellsOf f.type)))=some xs ->
     off + ls.length=cs.length->C4 ls (cs.drop off)
 | [],off,ls,xs,h1,h2,h3=>by
   simp only [Ie,Option.some.injEq] at h1
   subst h1
   rw [List.drop_eq_nil_of_le (by simp at h3; omega)]
   exact True.intro
 | f :: fs, off, ls, xs, h1, h2, h3 => by
   unfold Ie at h1
   cases hr:rec f.type with
   | none=>rw [hr] at h1; cases h1
   | some l0 =>
     rw [hr] at h1
     simp only at h1
     by_cases hc:f.offset=off/\l0.length=P.cellsOf f.type
     ·rw [if_pos hc] at h1
      cases hs:Ie rec P (off + l0.length) fs with
      | none=>rw [hs] at h1; cases h1
      | some r =>
        rw [hs] at h1
        simp only [Option.some.injEq] at h1
        subst h1
        rw [List.mapM_cons] at h2
        cases hx:DataW.trod enc P w base spare held fuel f.type ((cs.drop f.offset).take (P.cellsOf f.type)) with
        | none=>rw [hx] at h2; cases h2
        | some x0 =>
          rw [hx] at h2
          cases hy:(fs.mapM fun f=>DataW.trod enc P w base spare held fuel f.type ((cs.drop f.offset).take (P.cellsOf f.type))) with
          | none=>simp [hy] at h2
          | some ys =>
            have a:=ih _ _ _ _ _ hr hx
            have b:=U4 ih fs (off + l0.length) r ys hs hy (by simp at h3; omega)
            rw [hc.1,← hc.2] at a
            have e:cs.drop off=(cs.drop off).take l0.length ++ cs.drop (off + l0.length):=by
             rw [← List.drop_drop]; exact (List.take_append_drop _ _).symm
            rw [e]
            exact Mm a b
     ·rw [if_neg hc] at h1; cases h1
theorem Xn:∀ (n:Nat) (t:TypeId) (ls:List Lf) (fuel:Nat) (cs:List Value) (x),Wh P n t=some ls->DataW.trod enc P w base spare held fuel t cs=some x->C4 ls cs
 | 0,_,_,_,_,_,h,_=>by cases h
 | n + 1, t, ls, fuel, cs, x, h1, h2 => by
   unfold Wh at h1
   split at h1
   ·rename_i k hu
    simp only [Option.some.injEq] at h1; subst h1
    obtain ⟨z,hc,_,hw⟩:=DataW.trod_int hu h2
    rw [hc]; exact ⟨⟨z,rfl,hw⟩,True.intro⟩
   ·rename_i k e hu
    split at h1
    ·rename_i q he
     split at h1
     ·rename_i hc
      simp only [Option.some.injEq] at h1; subst h1
      obtain ⟨xs,m,_,_,hl,hn,hel⟩:=DataW.trod_array hu h2
      refine X1 q k cs (by rw [hl,hc.2]) fun i hi=>?_
      have h3:=hel i hi
      rw [hc.1,Nat.mul_one] at h3
      obtain ⟨b,hb⟩:∃ b,xs[i]?=some b:=⟨_,List.getElem?_eq_getElem (by omega)⟩
      rw [hb] at h3
      obtain ⟨z,hz,_,hw⟩:=DataW.trod_int he h3
      refine ⟨z,?_,hw⟩
      have:=congrArg (·[0]?) hz
      simpa [List.getElem?_take,List.getElem?_drop] using this
     ·cases h1
    ·cases h1
   ·rename_i fs hu
    cases hp:Ie (Wh P n) P 0 fs.toList with
    | none=>rw [hp] at h1; cases h1
    | some l0 =>
      rw [hp] at h1
      simp only at h1
      by_cases hc:l0.length=P.cellsOf t
      ·rw [if_pos hc] at h1
       simp only [Option.some.injEq] at h1
       subst h1
       cases fuel with
       | zero=>simp [DataW.trod] at h2
       | succ fuel =>
         unfold DataW.trod at h2
         rw [hu] at h2
         simp only at h2
         by_cases hl:cs.length=P.cellsOf t
         ·rw [if_pos hl] at h2
          cases hm:(fs.toList.mapM fun f=>DataW.trod enc P w base spare held fuel f.type ((cs.drop f.offset).take (P.cellsOf f.type))) with
          | none=>rw [hm] at h2; cases h2
          | some xs=>simpa using U4 (fun t ls fuel cs x=>Xn n t ls fuel cs x) fs.toList 0 l0 xs hp hm (by omega)
         ·rw [if_neg hl] at h2; cases h2
      ·rw [if_neg hc] at h1; cases h1
   ·cases h1
theorem Jt {r:Reach} {b0:Nat} {t e:TypeId} {ls:List Lf} {v:Value} {d:DataW H} {p:List MemPlace} (n:Nat) (ht:P.underlying t=some (.slice e)) (hp:Wh P n e=some ls) (hc:P.cellsOf e=ls.length)
   (hv:Value.okWide P w r b0 t v) (h:DataW.Trod enc P w base spare held t v d p) :
   ∃ (a:Option Addr) (len cap:Nat) (rows:List (List Value)),v=.slice a len cap/\len<=cap/\cap<=maxLen/\(a=none->cap=0)/\A6i w ls a len rows:=by
 obtain ⟨a,len,cap,rfl⟩:=okWide_slice ht hv
 obtain ⟨fuel,hf⟩:=h
 rcases DataW.trod_slice ht hf with ⟨h0,_⟩ | ⟨a',len',cap',elems,rest,m,_,h1,_,hb,hl,hm,hlen,hel,hsp,hns⟩
 ·simp [Value.cells] at h0
  obtain ⟨rfl,rfl,rfl⟩:=h0
  exact ⟨none,0,0,[],rfl,Nat.le_refl _,Nat.zero_le _,fun _=>rfl,rfl,by simp,fun _=>rfl,fun b hb=>by cases hb⟩
 ·simp [Value.cells] at h1
  obtain ⟨rfl,rfl,rfl⟩:=h1
  have each:∀ i,i < len->∃ cs,w.cells? base (a'.add (i * P.cellsOf e)) (P.cellsOf e)=some cs/\C4 ls cs:=by
   intro i hi
   have hx:i < elems.length:=by omega
   have h2:=hel i hi
   rw [List.getElem?_eq_getElem hx] at h2
   cases h3:w.cells? base (a'.add (i * P.cellsOf e)) (P.cellsOf e) with
   | none=>rw [h3] at h2; cases h2
   | some cs =>
     rw [h3] at h2
     exact ⟨cs,rfl,Xn n e ls _ _ _ hp h2⟩
  let row (i:Nat):List Value:=(w.cells? base (a'.add (i * P.cellsOf e)) (P.cellsOf e)).getD []
  refine ⟨some a',len,cap,(List.range len).map row,rfl,hl,hm,(fun hn=>nomatch hn),by simp,?_,(fun hn=>nomatch hn),?_⟩
  ·intro r hr
   obtain ⟨i,hi,rfl⟩:=List.mem_map.1 hr
   obtain ⟨cs,g1,g2⟩:=each i (List.mem_range.1 hi)
   show C4 ls ((w.cells? base (a'.add (i * P.cellsOf e)) (P.cellsOf e)).getD [])
   rw [g1]; exact g2
  ·intro b hb i j v hv
   cases hb
   by_cases hi:i < len
   ·obtain ⟨cs,g1,g2⟩:=each i hi
    have:((List.range len).map row)[i]?.getD []=cs:=by
     simp [hi,row,g1]
    rw [this] at hv
    rw [← hc]
    exact (Ahh g1).2 j v hv
   ·have:((List.range len).map row)[i]?.getD []=[]:=by simp [hi]
    rw [this] at hv
    cases hv
end
theorem A79 (q:IntKind) {f g:Nat->Int}:∀ (n i:Nat),(∀ j,i<=j->f j=g j)->arV q f n i=arV q g n i
 | 0,_,_=>rfl
 | n + 1,i,h=>by rw [arV,arV,h i (Nat.le_refl _),A79 q n (i + 1) fun j hj=>h j (by omega)]
theorem Zm:∀ (n i:Nat) (ls:List Lf) (cs:List Value),C4 (List.replicate n (.inl .u8) ++ ls) cs->∃ (D:Nat->Nat) (r:List Value),cs=arV .u8 (nf D) n i ++ r/\(∀ j,D j < 256)/\C4 ls r
 | 0,i,ls,cs,h=>⟨fun _=>0,cs,rfl,fun _=>(by decide:(0:Nat) < 256),h⟩
 | n + 1,i,ls,[],h=>by simp [List.replicate_succ,C4] at h
 | n + 1, i, ls, v :: vs, h => by
   rw [List.replicate_succ,List.cons_append] at h
   obtain ⟨⟨z,rfl,hz⟩,h2⟩:=h
   obtain ⟨D,r,e,hD,hr⟩:=Zm n (i + 1) ls vs h2
   have hz':0<=z/\z<=255:=by
    have e1:IntKind.u8.min=0:=rfl
    have e2:IntKind.u8.max=255:=rfl
    simp [Lit.wf,e1,e2] at hz; omega
   refine ⟨fun j=>if j=i then z.toNat else D j,r,?_,fun j=>?_,hr⟩
   ·rw [e,arV,List.cons_append]
    rw [A79 .u8 (f:=nf D) (g:=nf fun j=>if j=i then z.toNat else D j) n (i + 1) fun j h1=>by show ((D j:Nat):Int)=((if j=i then _ else _:Nat):Int); rw [if_neg (by omega)]]
    have:nf (fun j=>if j=i then z.toNat else D j) i=z:=by
     show ((if i=i then z.toNat else D i:Nat):Int)=z
     rw [if_pos rfl]; omega
    rw [this]
   ·dsimp only
    split
    ·omega
    ·exact hD j
def Ra:List Lf:=.inl .i64 :: .inl .i64 :: (List.replicate 64 (.inl .u8) ++ [.inl .u64,.inl .i64,.inl .i64,.inl .i64,.inl .i64,.inl .i64,.inl .i64,.inl .i64,.inl .i64])
theorem A6v {cs:List Value} (h:C4 Ra cs):∃ x:Stp,Sy.c x=cs/\StpOk x:=by
 unfold Ra at h
 obtain ⟨v1,vs1,e1,⟨k,e1',wk⟩,h1⟩:=I7.1 h
 obtain ⟨v2,vs2,e2,⟨l,e2',wl⟩,h2⟩:=I7.1 h1
 obtain ⟨D,r,e3,hD,h3⟩:=Zm 64 0 _ _ h2
 subst e1' e2' e3 e2 e1
 clear h h1 h2
 simp only [I7,Nb,T3] at h3
 obtain ⟨_,_,rfl,⟨m,rfl,wm⟩,_,_,rfl,⟨fk,rfl,w1⟩,_,_,rfl,⟨rk,rfl,w2⟩,_,_,rfl,⟨bk,rfl,w3⟩,_,_,rfl,⟨ro,rfl,w4⟩,_,_,rfl,⟨co,rfl,w5⟩,_,_,rfl,⟨ch,rfl,w6⟩,_,_,rfl,⟨bi,rfl,w7⟩,_,_,rfl,⟨va,rfl,w8⟩,rfl⟩:=h3
 have hm:0<=m/\m<=18446744073709551615:=by
  have e1:IntKind.u64.min=0:=rfl
  have e2:IntKind.u64.max=18446744073709551615:=rfl
  simp [Lit.wf,e1,e2] at wm; omega
 obtain ⟨m,rfl⟩:=Int.eq_ofNat_of_zero_le hm.1
 exact ⟨⟨k,l,D,m,⟨fk,rk,bk,ro,co,ch,bi,va⟩⟩,rfl,hD,by dsimp only; omega⟩
theorem Ad0:Wh Tryz.prog 6 50=some Ra:=by kernel_rfl
def Ah8 {α:Type} (e:Enc α) (l:List α) (w:World) (v:Value):Prop:=∃ c:Loc,c.slv=v/\B.roOk w [] ρN c (.row e l)
theorem A6h {α:Type} {e:Enc α} {w:World} {ls:List Lf} {a:Option Addr} {len cap:Nat} {rows:List (List Value)} {q:α->Prop} (hf:∀ r,C4 ls r->∃ x,e.c x=r/\q x) (hs:e.sz=ls.length) (hls:ls ≠ [])
    (h:A6i w ls a len rows) (hc:len<=cap) (hn:a=none->cap=0):∃ l:List α,l.length=len/\(∀ x ∈ l,q x)/\Ah8 e l w (.slice a len cap):=by
 have hx:∀ rows:List (List Value),(∀ r ∈ rows,C4 ls r)->∃ l:List α,l.map e.c=rows/\∀ x ∈ l,q x:=fun rows=>by
  induction rows with
  | nil=>exact fun _=>⟨[],rfl,fun x hx=>by cases hx⟩
  | cons r rows ih =>
    intro hr
    obtain ⟨l,h1,h2⟩:=ih fun r hr'=>hr r (List.mem_cons_of_mem _ hr')
    obtain ⟨x,h3,h4⟩:=hf r (hr r (by simp))
    refine ⟨x :: l,by rw [List.map_cons,h1,h3],fun y hy=>?_⟩
    rcases List.mem_cons.1 hy with hy | hy
    ·rw [hy]; exact h4
    ·exact h2 y hy
 obtain ⟨l,rfl,hq⟩:=hx rows h.2.1
 have hlen:l.length=len:=by simpa using h.1
 refine ⟨l,hlen,hq,?_⟩
 rcases Nat.eq_zero_or_pos len with h0 | h0
 ·have e0:l=[]:=List.length_eq_zero_iff.1 (by omega)
  subst e0
  cases a with
  | none=>rw [hn rfl,h0]; exact ⟨Loc.nil,rfl,rfl,Nat.le_refl _,fun _=>⟨rfl,rfl⟩,fun a h=>by (cases h),fun j v h=>by cases h⟩
  | some A=>rw [h0]; exact ⟨⟨none,0,0,0,fun _ _=>.deferred none,[],some A,cap⟩,rfl,rfl,Nat.le_refl _,fun _=>⟨rfl,rfl⟩,fun a h=>by (cases h),fun j v h=>by cases h⟩
 ·obtain ⟨b,off,rfl,hb,hcell⟩:=Ada h h0 hls
  refine ⟨.of (some b) off len cap,rfl,hlen.symm,hc,fun h=>by (cases h),fun a h=>by cases h; exact ⟨by simp,hb⟩,fun j v hj=>?_⟩
  have hjl:j < (e.cs l).length:=(List.getElem?_eq_some_iff.1 hj).1
  rw [e.csLen] at hjl
  have hsz:0 < e.sz:=Nat.pos_of_ne_zero fun e0=>by rw [e0] at hjl; simp at hjl
  have hi:j / e.sz < l.length:=Nat.div_lt_of_lt_mul (by rw [Nat.mul_comm]; exact hjl)
  have hm:j % e.sz < (e.c l[j / e.sz]).length:=by rw [e.len]; exact Nat.mod_lt _ hsz
  have h1:(e.cs l)[j / e.sz * e.sz + j % e.sz]?=some (e.c l[j / e.sz])[j % e.sz]:=e.at (List.getElem?_eq_getElem hi) _ (List.getElem?_eq_getElem hm)
  rw [Nat.div_add_mod'] at h1
  rw [h1] at hj
  cases hj
  have h2:=hcell (j / e.sz) (j % e.sz) _ (by rw [List.getElem?_map,List.getElem?_eq_getElem hi]; exact List.getElem?_eq_getElem hm)
  rw [← hs] at h2
  show w.cell? ⟨b,off + j,none⟩=_
  rw [← h2,Nat.add_assoc,Nat.div_add_mod']
theorem T7 {w:World} {a:Option Addr} {len cap:Nat} {rows:List (List Value)} (h:A6i w Ra a len rows) (hc:len<=cap) (hn:a=none->cap=0):∃ l:List Stp,l.length=len/\(∀ x ∈ l,StpOk x)/\Ah8 Sy l w (.slice a len cap) :=
 A6h (fun r hr=>A6v hr) rfl (by unfold Ra; simp) h hc hn
theorem Awp {w:World} (ρ:Env) (L:List B) (h:∀ (i:Nat) b,L[i]?=some b->∃ (α:Type) (e:Enc α) (l:List α),b=.ro (.row e l)/\B.roOk w [] ρ (ρ i) (.row e l)):Emb ⟨L.length,Gc L,ρ,[],w⟩ ρ L w:=by
 have hr:∀ (i:Nat) r,(rsF ρ L 0)[i]?=some r->r=Sf:=fun i r hi=>by
  rw [Ng] at hi
  cases hb:L[i]? with
  | none=>rw [hb] at hi; cases hi
  | some b =>
    rw [hb] at hi
    obtain ⟨α,e,l,rfl,_⟩:=h i b hb
    cases hi; rfl
 refine ⟨⟨fun i r hi=>?_,fun i j r s _ hi _ g hg=>?_,fun i r hi g hg=>?_,Fr.refl _ _⟩,fun i b hb=>?_,fun i b hb=>?_,fun _ _ _=>rfl,fun i hi=>?_,fun i b _ _ hb=>?_⟩
 ·rw [hr i r hi]; exact World.ownsRow_nil w 0 0 0
 ·rw [hr i r hi] at hg; simp [Sf,Res.fp,Value.ownBlock] at hg
 ·rw [hr i r hi] at hg; simp [Sf,Res.fp,Value.ownBlock] at hg
 ·obtain ⟨α,e,l,rfl,h2⟩:=h i b hb; exact h2
 ·obtain ⟨α,e,l,rfl,h2⟩:=h i b hb; rfl
 ·have hb:L[i]?=some L[i]:=List.getElem?_eq_getElem hi
  obtain ⟨α,e,l,h1,h2⟩:=h i _ hb
  unfold liv
  rw [hb,h1]
 ·obtain ⟨α,e,l,rfl,h2⟩:=h i b hb; rfl
theorem Emb.belowM {X:Ctx} {ρ:Env} {H:List B} {w:World} (h:Emb X ρ H w) (hM:X.M=[]):Below X.w.heap.size X.w w:=by
 have:=h.hs
 rw [hM] at this
 exact this.below
theorem Sp.one {P:Program} {f:FuncId} {α:Type} {e:Enc α} {l:List α} {args:List V} {res:Value} {post:List B} (h:Sp P f args [.ro (.row e l)] (.v res) post) {w:World} {v:Value} (hv:Ah8 e l w v) :
    ∃ ρ:Env,(ρ 0).slv=v/\Calls P f (V.dens ρ args).toArray w fun e w'=>e=.returned res/\Below w.heap.size w w':=by
 obtain ⟨c,h1,h2⟩:=hv
 refine ⟨fun _=>c,h1,(h.out (fun _=>c) [] w (Awp _ _ fun i b hb=>?_)).mono fun e w' ⟨ρ',he,hE⟩=>⟨?_,hE.belowM rfl⟩⟩
 ·match i,hb with
  | 0,hb=>cases hb; exact ⟨α,e,l,rfl,h2⟩
  | i + 1,hb=>simp at hb
 ·rw [he,V.den]
def Akc:List Lf:=[.inl .i64,.inl .i64,.inl .i64,.inl .i64,.inl .i64,.inl .i64,.inl .i64,.inl .i64,.inl .i64,.inl .i64,.inl .i64,.inl .i64,.inl .i64,.inl .i64,.inl .i64,.inr false]
theorem Aoe:Sm Tryz.prog 6 31=some Akc:=by kernel_rfl
def Xq (c:Cfg):List V:=[vi c.ly.g.ranks,vi c.ly.g.spares,vi c.ly.g.banks,vi c.ly.g.rows,vi c.ly.g.cols,vi c.ly.way,vi c.ly.res,vi c.mode,vi c.rules.rank.limit,vi c.rules.rank.every,vi c.rules.page.limit,vi c.rules.page.every,vi c.rules.room,vi c.rules.heavy,vi c.log,vt c.back]
theorem Q3 {cs:List Value} (h:C4 Akc cs):∃ c:Cfg,cs=V.flat ρN (Xq c):=by
 unfold Akc at h
 simp only [I7,Nb,T3] at h
 obtain ⟨_,_,rfl,⟨a0,rfl,_⟩,_,_,rfl,⟨a1,rfl,_⟩,_,_,rfl,⟨a2,rfl,_⟩,_,_,rfl,⟨a3,rfl,_⟩,_,_,rfl,⟨a4,rfl,_⟩,_,_,rfl,⟨a5,rfl,_⟩,_,_,rfl,⟨a6,rfl,_⟩,_,_,rfl,⟨a7,rfl,_⟩,_,_,rfl,⟨a8,rfl,_⟩,_,_,rfl,⟨a9,rfl,_⟩,_,_,rfl,⟨b0,rfl,_⟩,_,_,rfl,⟨b1,rfl,_⟩,_,_,rfl,⟨b2,rfl,_⟩,_,_,rfl,⟨b3,rfl,_⟩,_,_,rfl,⟨b4,rfl,_⟩,_,_,rfl,⟨b5,rfl⟩,rfl⟩:=h
 exact ⟨⟨⟨⟨a0,a1,a2,a3,a4⟩,a5,a6⟩,a7,⟨⟨a8,a9⟩,⟨b0,b1⟩,b2,b3⟩,b4,b5⟩,rfl⟩
theorem A4i (ρ:Env) (c:Cfg):V.den ρ (.ag (Xq c))=.agg (V.flat ρN (Xq c)).toArray:=by
 rw [V.den,V.flat_ext (n:=L0) (ρ:=ρN) (ρ':=ρ) (fun i hi=>by cases hi) _ rfl]
