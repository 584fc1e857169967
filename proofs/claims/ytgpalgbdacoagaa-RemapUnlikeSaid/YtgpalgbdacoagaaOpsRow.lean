/- A slice of remap operations that is handed in: its rows as triples. -/
import Derived.Test.YtgpalgbdacoagaaRemapG
import Derived.Test.YtgpalgbdacoagaaOpen
namespace Go.Proofs.Ytgpalgbdacoagaa
open Go Go.RowKit
set_option linter.unusedVariables false
theorem ops_of_rows {w : World} {a : Option Addr} {len : Nat} {rows : List (List Value)} (h : rowsAt w [.inl .i64, .inl .i64, .inl .i64] a len rows) : ∃ O : List (Int × Int × Int), O.length = len ∧ OpsAt w a len O ∧
    ∀ i, i < len → (-9223372036854775808 ≤ (O.getD i (0, 0, 0)).1 ∧ (O.getD i (0, 0, 0)).1 ≤ 9223372036854775807) ∧ (-9223372036854775808 ≤ (O.getD i (0, 0, 0)).2.1 ∧ (O.getD i (0, 0, 0)).2.1 ≤ 9223372036854775807) ∧ (-9223372036854775808 ≤ (O.getD i (0, 0, 0)).2.2 ∧ (O.getD i (0, 0, 0)).2.2 ≤ 9223372036854775807) := by
  have h1 := h.1
  have h2 := h.2.1
  have key : ∀ i, i < len → ∃ x y z : Int, rows[i]?.getD [] = [.int .i64 x, .int .i64 y, .int .i64 z] ∧ (rows.map (fun r => (intOf (r[0]?.getD .nilFunc), intOf (r[1]?.getD .nilFunc), intOf (r[2]?.getD .nilFunc)))).getD i (0, 0, 0) = (x, y, z) ∧
      (-9223372036854775808 ≤ x ∧ x ≤ 9223372036854775807) ∧ (-9223372036854775808 ≤ y ∧ y ≤ 9223372036854775807) ∧ (-9223372036854775808 ≤ z ∧ z ≤ 9223372036854775807) := by
    intro i hi
    have hm : rows[i]'(by omega) ∈ rows := List.getElem_mem _
    have hf := h2 _ hm
    simp only [fitsAll_cons, fitsAll_nil, lfFits] at hf
    obtain ⟨_, _, hr, ⟨x, rfl, wx⟩, _, _, rfl, ⟨y, rfl, wy⟩, _, _, rfl, ⟨z, rfl, wz⟩, rfl⟩ := hf
    refine ⟨x, y, z, ?_, ?_, ?_, ?_, ?_⟩
    · rw [List.getElem?_eq_getElem (show i < rows.length by omega)]; exact hr
    · simp [List.getD_eq_getElem?_getD, List.getElem?_map, List.getElem?_eq_getElem (show i < rows.length by omega), hr, intOf]
    · simp [Lit.wf, IntKind.min, IntKind.max, IntKind.signed, IntKind.bits] at wx; omega
    · simp [Lit.wf, IntKind.min, IntKind.max, IntKind.signed, IntKind.bits] at wy; omega
    · simp [Lit.wf, IntKind.min, IntKind.max, IntKind.signed, IntKind.bits] at wz; omega
  refine ⟨rows.map (fun r => (intOf (r[0]?.getD .nilFunc), intOf (r[1]?.getD .nilFunc), intOf (r[2]?.getD .nilFunc))), by simp [h1], fun hlen => ?_, fun i hi => ?_⟩
  · obtain ⟨b, off, ha, hb, hc⟩ := rowsAt_pos h hlen (by simp)
    refine ⟨b, off, ha, fun w' hw i hi j v hj => ?_⟩
    obtain ⟨x, y, z, e1, e2, -⟩ := key i hi
    rw [e2] at hj
    have := hc i j v (by rw [e1]; exact hj)
    exact cellKeep (by simpa using this) hw
  · obtain ⟨x, y, z, e1, e2, e3⟩ := key i hi
    rw [e2]; exact e3
end Go.Proofs.Ytgpalgbdacoagaa
