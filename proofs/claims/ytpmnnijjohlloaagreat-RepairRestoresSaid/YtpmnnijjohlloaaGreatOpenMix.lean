/- Arguments that are structs of plain cells and of slices of plain elements, opened all alike. -/
import Derived.Test.YtpmnnijjohlloaaGreatOpen
import Derived.Test.YtpmnnijjohlloaaGreatBase
import Derived.Test.YtpmnnijjohlloaaGreatPx
namespace Go.Proofs.YtpmnnijjohlloaaGreat
open Go Go.ChangeShapes Go.WideShapes Go.ChangeAt Go.RowKit
set_option linter.unusedVariables false
section
variable {H : Type} {enc : TypeId × Value → H} {P : Program} {w : World} {base : Nat} {spare : Nat → Bool} {held : Bool}
end
/-- Some ints that are handed in. -/
def IntsAt (w0 : World) (ad : Option Addr) (n : Nat) (l : List Int) : Prop :=
  0 < n → ∃ g off, ad = some ⟨g, off, none⟩ ∧ ∀ w', Below w0.heap.size w0 w' → ∀ i, i < n → w'.cell? ⟨g, off + i, none⟩ = some (.int .i64 (l.getD i 0))
theorem IntsAt.at {w0 w : World} {ad : Option Addr} {n : Nat} {l : List Int} (h : IntsAt w0 ad n l) (hb : Below w0.heap.size w0 w) : IntsAt w ad n l := fun hn => by
  obtain ⟨g, off, e, h⟩ := h hn
  exact ⟨g, off, e, fun w' hw => h w' (belowKeep hb hw)⟩
/-- The same, as long as just the blocks of M are changed. -/
def IntsM (M : List Nat) (w0 : World) (ad : Option Addr) (n : Nat) (l : List Int) : Prop :=
  0 < n → ∃ g off, ad = some ⟨g, off, none⟩ ∧ ∀ w', Fr M w0 w' → ∀ i, i < n → w'.cell? ⟨g, off + i, none⟩ = some (.int .i64 (l.getD i 0))
theorem cellFr {w w' : World} {g off : Nat} {v : Value} (h : w.cell? ⟨g, off, none⟩ = some v) (e : w'.heap[g]? = w.heap[g]?) : w'.cell? ⟨g, off, none⟩ = some v := by
  rw [← h]; unfold World.cell?; rw [e]
theorem IntsAt.held {w0 w : World} {ad : Option Addr} {n : Nat} {l : List Int} {L : List Res} (h : IntsAt w0 ad n l) (H : Hs [] w0 w L) (ix : List Nat) (A : List Res) (hp : ix.map (fun i => L[i]?) = A.map some) : IntsM (fps A) w ad n l := fun hn => by
  obtain ⟨g, off, e, h⟩ := h hn
  refine ⟨g, off, e, fun w' hw i hi => ?_⟩
  have c0 := h w0 (Below.refl _ _) i hi
  have c1 := h w H.below i hi
  have hg := World.block_lt_of_cell? w0 _ c0
  refine cellFr c1 (hw.block g (World.block_lt_of_cell? w _ c1) fun hm => ?_)
  obtain ⟨j, r, hj, hgr⟩ := mem_fps hm
  have h1 : (A.map some)[j]? = some (some r) := by rw [List.getElem?_map, hj]; rfl
  rw [← hp, List.getElem?_map] at h1
  cases hk : ix[j]? with
  | none => rw [hk] at h1; cases h1
  | some k =>
    rw [hk] at h1
    simp only [Option.map_some, Option.some.injEq] at h1
    rcases H.my k r h1 g hgr with h2 | h2
    · simp at h2
    · simp at hg; omega
end Go.Proofs.YtpmnnijjohlloaaGreat
