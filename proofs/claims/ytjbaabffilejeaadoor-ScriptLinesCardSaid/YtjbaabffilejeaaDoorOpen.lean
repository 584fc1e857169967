/- Arguments of plain types (integers, truths, strings, structs of them, slices of them), opened all alike. -/
import Derived.Test.YtjbaabffilejeaaDoorRows
import Derived.WalkKit
import Derived.ProofKit
import Derived.OpenShut
namespace Go.Proofs.YtjbaabffilejeaaDoor
open Go Go.ChangeShapes Go.WideShapes Go.ChangeAt Go.RowKit
set_option linter.unusedVariables false
/-- A cell of a plain type: an integer of a kind; false: a truth; true: a string. -/
abbrev Lf := IntKind ⊕ Bool
def lfFits : Lf → Value → Prop
  | .inl k, v => ∃ n, v = .int k n ∧ (Lit.int k n).wf = true
  | .inr false, v => ∃ b, v = .bool b
  | .inr true, v => ∃ s : ByteArray, v = .string s ∧ s.size ≤ maxLen
def fitsAll : List Lf → List Value → Prop
  | [], [] => True
  | l :: ls, v :: vs => lfFits l v ∧ fitsAll ls vs
  | _, _ => False
theorem fitsAll_nil {cs : List Value} : fitsAll [] cs ↔ cs = [] := by cases cs <;> simp [fitsAll]
theorem fitsAll_cons {l : Lf} {ls : List Lf} {cs : List Value} : fitsAll (l :: ls) cs ↔ ∃ v vs, cs = v :: vs ∧ lfFits l v ∧ fitsAll ls vs := by
  cases cs with
  | nil => simp [fitsAll]
  | cons v vs => constructor
                 · intro h; exact ⟨v, vs, rfl, h.1, h.2⟩
                 · rintro ⟨_, _, e, h⟩; cases e; exact h
theorem fitsAll_length : ∀ {ls : List Lf} {cs : List Value}, fitsAll ls cs → cs.length = ls.length
  | [], cs, h => by rw [fitsAll_nil.1 h]; rfl
  | l :: ls, cs, h => by obtain ⟨v, vs, rfl, _, h2⟩ := fitsAll_cons.1 h; simp [fitsAll_length h2]
theorem fitsAll_append : ∀ {ls ms : List Lf} {cs ds : List Value}, fitsAll ls cs → fitsAll ms ds → fitsAll (ls ++ ms) (cs ++ ds)
  | [], ms, cs, ds, h, h2 => by rw [fitsAll_nil.1 h]; exact h2
  | l :: ls, ms, cs, ds, h, h2 => by
    obtain ⟨v, vs, rfl, h0, h1⟩ := fitsAll_cons.1 h
    exact ⟨h0, fitsAll_append h1 h2⟩
def plainFs (rec : TypeId → Option (List Lf)) (P : Program) : Nat → List Field → Option (List Lf)
  | _, [] => some []
  | off, f :: fs => match rec f.type with
    | some ls => if f.offset = off ∧ ls.length = P.cellsOf f.type then
        match plainFs rec P (off + ls.length) fs with
        | some r => some (ls ++ r)
        | none => none
      else none
    | none => none
section
variable {H : Type} {enc : TypeId × Value → H} {P : Program} {w : World} {base : Nat} {spare : Nat → Bool} {held : Bool}
/-- What a slice of plain elements holds: the rows, each cell at its place. -/
def rowsAt (w : World) (ls : List Lf) (a : Option Addr) (len : Nat) (rows : List (List Value)) : Prop :=
  rows.length = len ∧ (∀ r ∈ rows, fitsAll ls r) ∧ (a = none → len = 0) ∧
  ∀ b, a = some b → ∀ i j v, (rows[i]?.getD [])[j]? = some v → w.cell? ((b.add (i * ls.length)).add j) = some v
theorem cells_row {b : Addr} {n : Nat} {cs : List Value} (h : w.cells? base b n = some cs) : cs.length = n ∧ ∀ j v, cs[j]? = some v → w.cell? (b.add j) = some v := by
  unfold World.cells? at h
  split at h
  · have key : ∀ (l : List Nat) (cs : List Value), l.mapM (fun i => w.cell? (b.add i)) = some cs → cs.length = l.length ∧ ∀ (j : Nat) (v : Value), cs[j]? = some v → ∃ i, l[j]? = some i ∧ w.cell? (b.add i) = some v := by
      intro l
      induction l with
      | nil => intro cs h; simp at h; subst h; simp
      | cons i l ih =>
        intro cs h
        rw [List.mapM_cons] at h
        cases h1 : w.cell? (b.add i) with
        | none => rw [h1] at h; cases h
        | some v0 =>
          rw [h1] at h
          cases h2 : l.mapM (fun i => w.cell? (b.add i)) with
          | none => simp [h2] at h
          | some vs =>
            simp [h2] at h
            subst h
            obtain ⟨e1, e2⟩ := ih vs h2
            refine ⟨by simp [e1], fun j v hj => ?_⟩
            cases j with
            | zero => simp at hj; subst hj; exact ⟨i, rfl, h1⟩
            | succ j => simp at hj; obtain ⟨i', g1, g2⟩ := e2 j v hj; exact ⟨i', by simpa using g1, g2⟩
    obtain ⟨e1, e2⟩ := key _ _ h
    refine ⟨by simpa using e1, fun j v hj => ?_⟩
    obtain ⟨i, g1, g2⟩ := e2 j v hj
    rw [List.getElem?_range] at g1
    · cases g1; exact g2
    · have := (List.getElem?_eq_some_iff.1 hj).1
      simp at e1
      omega
  · cases h
/-- Where there is an element the slice begins at a plain place. -/
theorem rowsAt_pos {ls : List Lf} {a : Option Addr} {len : Nat} {rows : List (List Value)} (h : rowsAt w ls a len rows) (hlen : 0 < len) (hls : ls ≠ []) :
    ∃ b off, a = some ⟨b, off, none⟩ ∧ b < w.heap.size ∧ ∀ i j v, (rows[i]?.getD [])[j]? = some v → w.cell? ⟨b, off + i * ls.length + j, none⟩ = some v := by
  obtain ⟨h1, h2, h3, h4⟩ := h
  cases a with
  | none => have := h3 rfl; omega
  | some ad =>
    have hr0 : rows[0]?.getD [] ∈ rows := by
      rw [List.getElem?_eq_getElem (by omega)]; exact List.getElem_mem _
    have hl0 := fitsAll_length (h2 _ hr0)
    have hp : 0 < ls.length := by cases ls with
      | nil => exact absurd rfl hls
      | cons => simp
    have hc0 : ∃ v, (rows[0]?.getD [])[0]? = some v := ⟨_, List.getElem?_eq_getElem (by omega)⟩
    obtain ⟨v0, hv0⟩ := hc0
    have g := h4 ad rfl 0 0 v0 hv0
    have g' : w.cell? ad = some v0 := by simpa [Addr.add] using g
    obtain ⟨b, off, spot⟩ := ad
    have hsp : spot = none := World.cell?_spot g'
    subst hsp
    refine ⟨b, off, rfl, World.block_lt_of_cell? w _ g', fun i j v hv => ?_⟩
    have := h4 _ rfl i j v hv
    unfold Addr.add at this
    by_cases hi : i * ls.length = 0 <;> by_cases hj : j = 0
    all_goals simp [hi, hj] at this ⊢
    all_goals exact this
end
end Go.Proofs.YtjbaabffilejeaaDoor
