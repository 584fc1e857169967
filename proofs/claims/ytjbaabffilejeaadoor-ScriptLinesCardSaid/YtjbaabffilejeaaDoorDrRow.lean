/- From what a row lists to what the walks ask; a start that fits. -/
import Derived.Test.YtjbaabffilejeaaDoorDrA
import Derived.Test.YtjbaabffilejeaaDoorOpen
import Derived.Lib.LaidTab
import Derived.Stop.LaidErr
import Derived.LaidMore
import Derived.MakeChecks
import Derived.ChangeMaps5
import GoSem.PinnedTables
namespace Go.Proofs.YtjbaabffilejeaaDoor
open Go Go.RowKit Go.ChangeShapes
set_option linter.unusedVariables false
theorem lt_of_var {w : World} {n : String} {g : Nat} {cs : Array Value} (hg : Tryd.prog.globalNamed n = some g) (h : w.var? Tryd.prog n = some cs) : g < w.heap.size := by
  unfold World.var? at h
  rw [hg] at h
  simp only [Option.bind_some] at h
  cases e : w.heap[g]? with
  | none => rw [e] at h; cases h
  | some o => exact (Array.getElem?_eq_some_iff.1 e).1
theorem Tryd.star : "*" ++ "errors.errorString" = "*errors.errorString" := by decide
theorem Tryd.rowPE (u : TypeId) (h : Tryd.prog.typeName? 3 u = some "*errors.errorString") : u = 154 :=
  typeName_ptr_named (nm := "errors.errorString") (by rw [Tryd.star]; kernel_rfl) (by kernel_rfl) (by decide) u (by rw [Tryd.star]; exact h)
/-- From the list (whatever stands behind) to the walks' facts. -/
theorem env_list {W : World} {r : List (String × DataW Unit)} (h : laidMet Tryd.prog (("math/bits.deBruijn32tab", Rows.laid_math_bits_deBruijn32tab) :: ("math/bits.deBruijn64tab", Rows.laid_math_bits_deBruijn64tab) :: ("internal/strconv.uint64pow10", Rows.laid_internal_strconv_uint64pow10) :: ("unicode/utf8.acceptRanges", Rows.laid_unicode_utf8_acceptRanges) :: ("strconv.ErrRange", Rows.laid_strconv_ErrRange) :: ("strconv.ErrSyntax", Rows.laid_strconv_ErrSyntax) :: r) W) : Env W := by
  have h2 := h.tail
  obtain ⟨ps, ⟨g', t', cs, fuel, p, q, hg', ht', hvar, hd, _, _⟩, _⟩ := h2
  have hsz := lt_of_var (g := 9) (by kernel_rfl) hvar
  have h3 : laidMet Tryd.prog (("internal/strconv.uint64pow10", Lib.tabData .u64 Lib.pow10Tab) :: ("unicode/utf8.acceptRanges", Rows.laid_unicode_utf8_acceptRanges) :: ("strconv.ErrRange", Rows.laid_strconv_ErrRange) :: ("strconv.ErrSyntax", Rows.laid_strconv_ErrSyntax) :: r) W := h.tail.tail
  have h5 := h3.tail.tail
  obtain ⟨ea, es, ev, -, -, -⟩ := laid_sentinel h5 (g := 3) (ti := 71) (tp := 154) (te := 156) (ts := 9) (by kernel_rfl) (by kernel_rfl) Tryd.underlying71 Tryd.rowPE Tryd.underlying154 Tryd.underlying156 rfl rfl Tryd.underlying9 (by kernel_rfl) (by kernel_rfl)
  obtain ⟨fa, fs, fv, -, -, -⟩ := laid_sentinel h5.tail (g := 2) (ti := 71) (tp := 154) (te := 156) (ts := 9) (by kernel_rfl) (by kernel_rfl) Tryd.underlying71 Tryd.rowPE Tryd.underlying154 Tryd.underlying156 rfl rfl Tryd.underlying9 (by kernel_rfl) (by kernel_rfl)
  exact ⟨hsz, Lib.tabIs_of_head (g := 4) (t := 144) (e := 35) (n := 20) (by kernel_rfl) (by kernel_rfl) (by kernel_rfl) (by kernel_rfl) (by kernel_rfl) (by kernel_rfl) h3, ⟨_, _, fv⟩, ⟨_, _, ev⟩⟩
/-- A start: what the door's own run leaves, and the pinned table beside it. -/
noncomputable def startW (os : Os) : World :=
  let w0 := World.doorLaid Tryd.prog 82 os
  { w0 with heap := w0.heap.modify 6 fun
      | .cells _ t frozen => .cells (Go.Pinned.utf8FirstZ.map fun z => Value.int .u8 ((z : Nat) : Int)).toArray t frozen
      | o => o }
theorem Tryd.own : ownKnob Tryd.prog.godebug = none := by kernel_rfl
theorem Tryd.laidOut : laidOutB Tryd.prog = true := by kernel_rfl
end Go.Proofs.YtjbaabffilejeaaDoor
