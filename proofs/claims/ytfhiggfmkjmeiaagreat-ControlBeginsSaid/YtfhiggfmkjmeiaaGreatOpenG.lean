import Derived.Test.YtfhiggfmkjmeiaaGreatOpenJ
set_option linter.all false
namespace Go.Proofs.YtfhiggfmkjmeiaaGreat
open Go Go.ChangeShapes Go.WideShapes Go.ChangeAt Go.RowKit
theorem Sp.nil {P:Program} {f:FuncId} {args:List V} {res:Value} {post:List B} (h:Sp P f args [] (.v res) post) (w:World) (ρ:Env) :
 Calls P f (V.dens ρ args).toArray w fun e w'=>e=.returned res/\Below w.heap.size w w':=by
 refine (h.out ρ [] w (Awp _ _ fun i b hb=>?_)).mono fun e w' ⟨ρ',he,hE⟩=>⟨?_,hE.belowM rfl⟩
 ·simp at hb
 ·rw [he,V.den]
def Je:List Lf:=[.inl .i64,.inl .i64,.inl .i64,.inl .i64,.inl .i64]
theorem M1:Sm Tryz.prog 6 23=some Je:=by kernel_rfl
def gmV (g:Gm):List V:=[vi g.ranks,vi g.spares,vi g.banks,vi g.rows,vi g.cols]
theorem Dq {cs:List Value} (h:C4 Je cs):∃ g:Gm,cs=V.flat ρN (gmV g):=by
 unfold Je at h
 simp only [I7,Nb,T3] at h
 obtain ⟨_,_,rfl,⟨a0,rfl,_⟩,_,_,rfl,⟨a1,rfl,_⟩,_,_,rfl,⟨a2,rfl,_⟩,_,_,rfl,⟨a3,rfl,_⟩,_,_,rfl,⟨a4,rfl,_⟩,rfl⟩:=h
 exact ⟨⟨a0,a1,a2,a3,a4⟩,rfl⟩
theorem Jt (ρ:Env) (g:Gm):V.den ρ (.ag (gmV g))=.agg (V.flat ρN (gmV g)).toArray:=by
 rw [V.den,V.flat_ext (n:=L0) (ρ:=ρN) (ρ':=ρ) (fun i hi=>by cases hi) _ rfl]
