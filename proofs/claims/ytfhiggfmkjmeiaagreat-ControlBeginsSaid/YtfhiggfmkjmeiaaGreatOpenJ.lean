import Derived.Test.YtfhiggfmkjmeiaaGreatRows
import Derived.WalkKit
import Derived.ProofKit
import Derived.OpenShut
import Derived.Test.YtfhiggfmkjmeiaaGreatFMch
set_option linter.all false
namespace Go.Proofs.YtfhiggfmkjmeiaaGreat
open Go Go.ChangeShapes Go.WideShapes Go.ChangeAt Go.RowKit
abbrev Lf:=IntKind ⊕ Bool
def T3:Lf->Value->Prop
 | .inl k,v=>∃ n,v=.int k n/\(Lit.int k n).wf=true
 | .inr false,v=>∃ b,v=.bool b
 | .inr true,v=>∃ s:ByteArray,v=.string s/\s.size<=maxLen
def C4:List Lf->List Value->Prop
 | [],[]=>True
 | l :: ls,v :: vs=>T3 l v/\C4 ls vs
 | _,_=>False
theorem Nb {cs:List Value}:C4 [] cs ↔ cs=[]:=by cases cs <;> simp [C4]
theorem I7 {l:Lf} {ls:List Lf} {cs:List Value}:C4 (l :: ls) cs ↔ ∃ v vs,cs=v :: vs/\T3 l v/\C4 ls vs:=by
 cases cs with
 | nil=>simp [C4]
 | cons v vs => constructor
                ·intro h; exact ⟨v,vs,rfl,h.1,h.2⟩
                ·rintro ⟨_,_,e,h⟩; cases e; exact h
theorem Mm:∀ {ls ms:List Lf} {cs ds:List Value},C4 ls cs->C4 ms ds->C4 (ls ++ ms) (cs ++ ds)
 | [],ms,cs,ds,h,h2=>by rw [Nb.1 h]; exact h2
 | l :: ls,ms,cs,ds,h,h2=>by
   obtain ⟨v,vs,rfl,h0,h1⟩:=I7.1 h
   exact ⟨h0,Mm h1 h2⟩
def Ie (rec : TypeId -> Option (List Lf)) (P : Program) : Nat -> List Field -> Option (List Lf)
 | _,[]=>some []
 | off,f :: fs=>match rec f.type with
   | some ls=>if f.offset=off/\ls.length=P.cellsOf f.type then
    match Ie rec P (off + ls.length) fs with
    | some r=>some (ls ++ r)
    | none=>none
     else none
   | none=>none
def Sm (P:Program):Nat->TypeId->Option (List Lf)
 | 0,_=>none
 | n + 1, t => match P.underlying t with
   | some .bool=>some [.inr false]
   | some (.int k)=>some [.inl k]
   | some .string=>some [.inr true]
   | some (.struct fs)=>match Ie (Sm P n) P 0 fs.toList with
     | some ls=>if ls.length=P.cellsOf t then some ls else none
     | none=>none
   | _=>none
section
variable {H:Type} {enc:TypeId × Value->H} {P:Program} {w:World} {base:Nat} {spare:Nat->Bool} {held:Bool}
theorem X4 {n fuel : Nat} {cs : List Value} (ih : ∀ t ls fuel cs x, Sm P n t = some ls -> DataW.trod enc P w base spare held fuel t cs = some x -> C4 ls cs) :
   ∀ (fs:List Field) (off:Nat) (ls:List Lf) (xs),Ie (Sm P n) P off fs=some ls ->
     (fs.mapM fun f=>DataW.trod enc P w base spare held fuel f.type ((cs.drop f.offset).take (P.cellsOf f.type)))=some xs ->
     off + ls.length=cs.length->C4 ls (cs.drop off)
 | [],off,ls,xs,h1,h2,h3=>by
   simp only [Ie,Option.some.injEq] at h1
   subst h1
   rw [List.drop_eq_nil_of_le (by simp at h3; omega)]
   exact True.intro
 | f :: fs, off, ls, xs, h1, h2, h3 => by
   unfold Ie at h1
   cases hr:Sm P n f.type with
   | none=>rw [hr] at h1; cases h1
   | some l0 =>
     rw [hr] at h1
     simp only at h1
     by_cases hc:f.offset=off/\l0.length=P.cellsOf f.type
     ·rw [if_pos hc] at h1
      cases hs:Ie (Sm P n) P (off + l0.length) fs with
      | none=>rw [hs] at h1; cases h1
      | some r =>
        rw [hs] at h1
        simp only [Option.some.injEq] at h1
        subst h1
        rw [List.mapM_cons] at h2
        cases hx:DataW.trod enc P w base spare held fuel f.type ((cs.drop f.offset).take (P.cellsOf f.type)) with
        | none=>rw [hx] at h2; cases h2
        | some x0 =>
          rw [hx] at h2
          cases hy:(fs.mapM fun f=>DataW.trod enc P w base spare held fuel f.type ((cs.drop f.offset).take (P.cellsOf f.type))) with
          | none=>simp [hy] at h2
          | some ys =>
            have a:=ih _ _ _ _ _ hr hx
            have b:=X4 ih fs (off + l0.length) r ys hs hy (by simp at h3; omega)
            rw [hc.1,← hc.2] at a
            have e:cs.drop off=(cs.drop off).take l0.length ++ cs.drop (off + l0.length):=by
             rw [← List.drop_drop]; exact (List.take_append_drop _ _).symm
            rw [e]
            exact Mm a b
     ·rw [if_neg hc] at h1; cases h1
theorem A1j : ∀ (n : Nat) (t : TypeId) (ls : List Lf) (fuel : Nat) (cs : List Value) (x), Sm P n t = some ls -> DataW.trod enc P w base spare held fuel t cs = some x -> C4 ls cs
 | 0,_,_,_,_,_,h,_=>by cases h
 | n + 1,t,ls,0,cs,x,_,h=>by simp [DataW.trod] at h
 | n + 1, t, ls, fuel + 1, cs, x, h1, h2 => by
   unfold Sm at h1
   unfold DataW.trod at h2
   split at h1
   ·rename_i hu
    simp only [Option.some.injEq] at h1; subst h1
    rw [hu] at h2
    split at h2 <;> simp_all [C4,T3]
   ·rename_i k hu
    simp only [Option.some.injEq] at h1; subst h1
    rw [hu] at h2
    split at h2 <;> simp_all [C4,T3]
   ·rename_i hu
    simp only [Option.some.injEq] at h1; subst h1
    rw [hu] at h2
    split at h2 <;> simp_all [C4,T3]
   ·rename_i fs hu
    cases hp:Ie (Sm P n) P 0 fs.toList with
    | none=>rw [hp] at h1; cases h1
    | some l0 =>
      rw [hp] at h1
      simp only at h1
      by_cases hc:l0.length=P.cellsOf t
      ·rw [if_pos hc] at h1
       simp only [Option.some.injEq] at h1
       subst h1
       rw [hu] at h2
       simp only at h2
       by_cases hl:cs.length=P.cellsOf t
       ·rw [if_pos hl] at h2
        cases hm:(fs.toList.mapM fun f=>DataW.trod enc P w base spare held fuel f.type ((cs.drop f.offset).take (P.cellsOf f.type))) with
        | none=>rw [hm] at h2; cases h2
        | some xs=>simpa using X4 (fun t ls fuel cs x=>A1j n t ls fuel cs x) fs.toList 0 l0 xs hp hm (by omega)
       ·rw [if_neg hl] at h2; cases h2
      ·rw [if_neg hc] at h1; cases h1
   ·cases h1
theorem Qt {r:Reach} {b0:Nat} {t:TypeId} {fs:Array Field} {ls:List Lf} {v:Value} {d:DataW H} {p:List MemPlace} (n:Nat) (hp:Sm P n t=some ls) (hs:P.underlying t=some (.struct fs))
   (hv:Value.okWide P w r b0 t v) (h:DataW.Trod enc P w base spare held t v d p):∃ cs:List Value,v=.agg cs.toArray/\C4 ls cs:=by
 obtain ⟨cs,rfl,_⟩:=okWide_struct hs hv
 obtain ⟨fuel,hf⟩:=h
 exact ⟨cs.toList,by simp,A1j n t ls fuel _ _ hp hf⟩
end
end Go.Proofs.YtfhiggfmkjmeiaaGreat
namespace Go.Proofs.YtfhiggfmkjmeiaaGreat
open Go Go.RowKit Go.ChangeShapes Go.WideShapes
theorem Awp {w:World} (ρ:Env) (L:List B) (h:∀ (i:Nat) b,L[i]?=some b->∃ (α:Type) (e:Enc α) (l:List α),b=.ro (.row e l)/\B.roOk w [] ρ (ρ i) (.row e l)):Emb ⟨L.length,Gc L,ρ,[],w⟩ ρ L w:=by
 have hr:∀ (i:Nat) r,(rsF ρ L 0)[i]?=some r->r=Sf:=fun i r hi=>by
  rw [Ng] at hi
  cases hb:L[i]? with
  | none=>rw [hb] at hi; cases hi
  | some b =>
    rw [hb] at hi
    obtain ⟨α,e,l,rfl,_⟩:=h i b hb
    cases hi; rfl
 refine ⟨⟨fun i r hi=>?_,fun i j r s _ hi _ g hg=>?_,fun i r hi g hg=>?_,Fr.refl _ _⟩,fun i b hb=>?_,fun i b hb=>?_,fun _ _ _=>rfl,fun i hi=>?_,fun i b _ _ hb=>?_⟩
 ·rw [hr i r hi]; exact World.ownsRow_nil w 0 0 0
 ·rw [hr i r hi] at hg; simp [Sf,Res.fp,Value.ownBlock] at hg
 ·rw [hr i r hi] at hg; simp [Sf,Res.fp,Value.ownBlock] at hg
 ·obtain ⟨α,e,l,rfl,h2⟩:=h i b hb; exact h2
 ·obtain ⟨α,e,l,rfl,h2⟩:=h i b hb; rfl
 ·have hb:L[i]?=some L[i]:=List.getElem?_eq_getElem hi
  obtain ⟨α,e,l,h1,h2⟩:=h i _ hb
  unfold liv
  rw [hb,h1]
 ·obtain ⟨α,e,l,rfl,h2⟩:=h i b hb; rfl
theorem Emb.belowM {X:Ctx} {ρ:Env} {H:List B} {w:World} (h:Emb X ρ H w) (hM:X.M=[]):Below X.w.heap.size X.w w:=by
 have:=h.hs
 rw [hM] at this
 exact this.below
def Akc:List Lf:=[.inl .i64,.inl .i64,.inl .i64,.inl .i64,.inl .i64,.inl .i64,.inl .i64,.inl .i64,.inl .i64,.inl .i64,.inl .i64,.inl .i64,.inl .i64,.inl .i64,.inl .i64,.inr false]
theorem Aoe:Sm Tryz.prog 6 31=some Akc:=by kernel_rfl
def Xq (c:Cfg):List V:=[vi c.ly.g.ranks,vi c.ly.g.spares,vi c.ly.g.banks,vi c.ly.g.rows,vi c.ly.g.cols,vi c.ly.way,vi c.ly.res,vi c.mode,vi c.rules.rank.limit,vi c.rules.rank.every,vi c.rules.page.limit,vi c.rules.page.every,vi c.rules.room,vi c.rules.heavy,vi c.log,vt c.back]
theorem Q3 {cs:List Value} (h:C4 Akc cs):∃ c:Cfg,cs=V.flat ρN (Xq c):=by
 unfold Akc at h
 simp only [I7,Nb,T3] at h
 obtain ⟨_,_,rfl,⟨a0,rfl,_⟩,_,_,rfl,⟨a1,rfl,_⟩,_,_,rfl,⟨a2,rfl,_⟩,_,_,rfl,⟨a3,rfl,_⟩,_,_,rfl,⟨a4,rfl,_⟩,_,_,rfl,⟨a5,rfl,_⟩,_,_,rfl,⟨a6,rfl,_⟩,_,_,rfl,⟨a7,rfl,_⟩,_,_,rfl,⟨a8,rfl,_⟩,_,_,rfl,⟨a9,rfl,_⟩,_,_,rfl,⟨b0,rfl,_⟩,_,_,rfl,⟨b1,rfl,_⟩,_,_,rfl,⟨b2,rfl,_⟩,_,_,rfl,⟨b3,rfl,_⟩,_,_,rfl,⟨b4,rfl,_⟩,_,_,rfl,⟨b5,rfl⟩,rfl⟩:=h
 exact ⟨⟨⟨⟨a0,a1,a2,a3,a4⟩,a5,a6⟩,a7,⟨⟨a8,a9⟩,⟨b0,b1⟩,b2,b3⟩,b4,b5⟩,rfl⟩
theorem A4i (ρ:Env) (c:Cfg):V.den ρ (.ag (Xq c))=.agg (V.flat ρN (Xq c)).toArray:=by
 rw [V.den,V.flat_ext (n:=L0) (ρ:=ρN) (ρ':=ρ) (fun i hi=>by cases hi) _ rfl]
