/- Slices of plain elements that are handed in: told as a list, by any coding of an element in cells. -/
import Derived.Test.YtjbaabffilejeaaDoorOpen
import Derived.Test.YtjbaabffilejeaaDoorBase
import Derived.Test.YtjbaabffilejeaaDoorPx
import Derived.Test.YtjbaabffilejeaaDoorPxD
namespace Go.Proofs.YtjbaabffilejeaaDoor
open Go Go.RowKit
set_option linter.unusedVariables false
/-- A slice that is handed in holds these elements, and holds them on. -/
def RAt {α : Type} (f : α → List Value) (sz : Nat) (d : α) (w0 : World) (ad : Option Addr) (n : Nat) (l : List α) : Prop :=
  0 < n → ∃ g off, ad = some ⟨g, off, none⟩ ∧ ∀ w', Below w0.heap.size w0 w' → ∀ i, i < n → ∀ (j : Nat) v, (f (l.getD i d))[j]? = some v → w'.cell? ⟨g, off + i * sz + j, none⟩ = some v
theorem RAt.at {α : Type} {f : α → List Value} {sz : Nat} {d : α} {w0 w : World} {ad : Option Addr} {n : Nat} {l : List α} (h : RAt f sz d w0 ad n l) (hb : Below w0.heap.size w0 w) : RAt f sz d w ad n l := fun hn => by
  obtain ⟨g, off, e, hc⟩ := h hn
  exact ⟨g, off, e, fun w' hw' => hc w' (hb.trans (hw'.mono hb.size))⟩
theorem rat_of_rows {α : Type} {w : World} {lfs : List Lf} {a : Option Addr} {len : Nat} {rows : List (List Value)} (f : α → List Value) (sz : Nat) (d : α) (dec : List Value → α) (hd : ∀ r, fitsAll lfs r → f (dec r) = r) (hs : lfs.length = sz) (h0 : 0 < sz) (h : rowsAt w lfs a len rows) :
    ∃ l : List α, l.length = len ∧ RAt f sz d w a len l ∧ ∀ x ∈ l, ∃ r, fitsAll lfs r ∧ x = dec r := by
  have h1 := h.1
  have h2 := h.2.1
  have key : ∀ i, i < len → rows[i]?.getD [] = f ((rows.map dec).getD i d) := by
    intro i hi
    have hm : rows[i]'(by omega) ∈ rows := List.getElem_mem _
    rw [List.getElem?_eq_getElem (show i < rows.length by omega), Option.getD_some]
    simp only [List.getD_eq_getElem?_getD, List.getElem?_map, List.getElem?_eq_getElem (show i < rows.length by omega), Option.map_some, Option.getD_some]
    exact (hd _ (h2 _ hm)).symm
  refine ⟨rows.map dec, by simp [h1], fun hlen => ?_, fun x hx => ?_⟩
  · obtain ⟨b, off, ha, hb, hc⟩ := rowsAt_pos h hlen (by intro e; rw [e] at hs; simp at hs; omega)
    refine ⟨b, off, ha, fun w' hw i hi j v hj => ?_⟩
    have := hc i j v (by rw [key i hi]; exact hj)
    exact cellKeep (by simpa [hs] using this) hw
  · obtain ⟨r, hr, rfl⟩ := List.mem_map.1 hx
    exact ⟨r, h2 r hr, rfl⟩
end Go.Proofs.YtjbaabffilejeaaDoor
