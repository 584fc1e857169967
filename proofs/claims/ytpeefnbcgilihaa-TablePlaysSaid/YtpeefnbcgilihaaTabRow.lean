/- A slice of table steps that is handed in: its rows as triples. -/
import Derived.Test.YtpeefnbcgilihaaTabC
import Derived.Test.YtpeefnbcgilihaaOpenMix
namespace Go.Proofs.Ytpeefnbcgilihaa
open Go Go.RowKit
set_option linter.unusedVariables false
theorem tops_of_rows {w : World} {a : Option Addr} {len : Nat} {rows : List (List Value)} (h : rowsAt w [.inl .i64, .inl .i64, .inl .i64] a len rows) : ∃ l : List (Int × Int × Int), l.length = len ∧ TOpsAt w a len l := by
  have h1 := h.1
  have h2 := h.2.1
  let f : List Value → Int × Int × Int := fun r => (intOf (r[0]?.getD .nilFunc), intOf (r[1]?.getD .nilFunc), intOf (r[2]?.getD .nilFunc))
  have key : ∀ i, i < len → rows[i]?.getD [] = topL ((rows.map f).getD i (0, 0, 0)) := by
    intro i hi
    have hm : rows[i]'(by omega) ∈ rows := List.getElem_mem _
    have hf := h2 _ hm
    simp only [fitsAll_cons, fitsAll_nil, lfFits] at hf
    obtain ⟨_, _, hr, ⟨x, rfl, wx⟩, _, _, rfl, ⟨y, rfl, wy⟩, _, _, rfl, ⟨z, rfl, wz⟩, rfl⟩ := hf
    rw [List.getElem?_eq_getElem (show i < rows.length by omega), Option.getD_some, hr]
    simp [List.getD_eq_getElem?_getD, List.getElem?_map, List.getElem?_eq_getElem (show i < rows.length by omega), hr, intOf, topL, f]
  refine ⟨rows.map f, by simp [h1], fun hlen => ?_⟩
  obtain ⟨b, off, ha, hb, hc⟩ := rowsAt_pos h hlen (by simp)
  refine ⟨b, off, ha, fun w' hw i hi j v hj => ?_⟩
  have := hc i j v (by rw [key i hi]; exact hj)
  exact cellKeep (by simpa using this) hw
end Go.Proofs.Ytpeefnbcgilihaa
