/- Small lemmas on worlds: blocks that a call lays, what a later call leaves of them, their cells. -/
import Derived.Test.YtpmnnijjohlloaaRows
import Derived.WalkKit
import Derived.ProofKit
import Derived.OpenShut
import Derived.WalkLawsBesides
import Derived.WalkSpells
import Derived.OneCell
import Derived.Test.YtpmnnijjohlloaaRegion
import Derived.Deep.QuietTactic
import Derived.BigQuiet
import Derived.Deep.RegionHeld3
import Derived.BigRegion
import Derived.Outline
namespace Go.Proofs.Ytpmnnijjohlloaa
open Go.ChangeShapes Go.WideShapes Go.ChangeAt Go.RowKit
set_option linter.unusedVariables false
theorem ret_bool {a b : Bool} (h : a = b) : Ending.returned (.bool a) = .returned (.bool b) := by rw [h]
theorem ret_int {a b : Int} (h : a = b) : Ending.returned (.int .i64 a) = .returned (.int .i64 b) := by rw [h]
theorem wf_i64 {a : Int} (h : (Lit.int .i64 a).wf = true) : -9223372036854775808 ≤ a ∧ a ≤ 9223372036854775807 := by
  simp [Lit.wf, IntKind.min, IntKind.max, IntKind.signed, IntKind.bits] at h; omega
/-! ### blocks -/
theorem lt_blk {w : World} {g : Nat} {o : Obj} (h : w.heap[g]? = some o) : g < w.heap.size := by
  rcases Nat.lt_or_ge g w.heap.size with h1 | h1
  · exact h1
  · rw [Array.getElem?_eq_none h1] at h; cases h
theorem blk0 (w : World) (o : Obj) : (w.alloc o).heap[w.heap.size]? = some o := by
  show (w.heap.push o)[w.heap.size]? = _
  simp
theorem blkBelow {W w1 : World} {B : Nat} (hb : Below B W w1) {g : Nat} {o : Obj} (h : W.heap[g]? = some o) (hg : g < B) : w1.heap[g]? = some o := by
  rw [hb.block g hg]; exact h
theorem cellBlk {w : World} {g i : Nat} {cs : Array Value} {t : TypeId} {fr : Nat × Nat} {v : Value} (h : w.heap[g]? = some (.cells cs t fr)) (hi : cs[i]? = some v) : w.cell? ⟨g, i, none⟩ = some v := by
  simp [World.cell?, h, hi]
theorem freeBlk {w : World} {g : Nat} {cs : Array Value} {t : TypeId} (h : w.heap[g]? = some (.cells cs t (0, 0))) (i : Nat) : w.frozen? ⟨g, i, none⟩ = false := by
  simp [World.frozen?, h]
theorem alloc1 (w : World) (a : Obj) : Below w.heap.size w (w.alloc a) := (Below.refl _ _).alloc (Nat.le_refl _) _
/-- Behind a call that left all old blocks alone: the blocks laid ahead of it, and what is below them. -/
theorem after1 {w w1 : World} {a : Obj} (hb : Below (w.alloc a).heap.size (w.alloc a) w1) :
    w1.heap[w.heap.size]? = some a ∧ w.heap.size + 1 ≤ w1.heap.size ∧ Below w.heap.size w w1 :=
  ⟨blkBelow hb (blk0 w a) (by simp), by have := hb.size; simp at this; omega, (alloc1 w a).trans (hb.mono (by simp))⟩
theorem cellKeep {w1 w2 : World} {a : Addr} {v : Value} (h : w1.cell? a = some v) (hb : Below w1.heap.size w1 w2) : w2.cell? a = some v := by
  rw [hb.cell (World.block_lt_of_cell? w1 a h)]; exact h
theorem belowKeep {w w1 w2 : World} (h : Below w.heap.size w w1) (hb : Below w1.heap.size w1 w2) : Below w.heap.size w w2 := h.trans (hb.mono h.size)
theorem blkKeep {w1 w2 : World} {g : Nat} {o : Obj} (h : w1.heap[g]? = some o) (hb : Below w1.heap.size w1 w2) : w2.heap[g]? = some o := blkBelow hb h (lt_blk h)
/-- The same, without what 'after' says of the size: the new blocks, and that all that lay before is as it was. -/
theorem out1 {w w1 : World} {a : Obj} (hb : Below (w.alloc a).heap.size (w.alloc a) w1) : w1.heap[w.heap.size]? = some a ∧ Below w.heap.size w w1 :=
  ⟨(after1 hb).1, (after1 hb).2.2⟩
theorem cells5 {w : World} {g : Nat} {v0 v1 v2 v3 v4 : Value} {t : TypeId} (h : w.heap[g]? = some (.cells #[v0, v1, v2, v3, v4] t (0, 0))) :
    w.cell? ⟨g, 0, none⟩ = some v0 ∧ w.cell? ⟨g, 1, none⟩ = some v1 ∧ w.cell? ⟨g, 2, none⟩ = some v2 ∧ w.cell? ⟨g, 3, none⟩ = some v3 ∧ w.cell? ⟨g, 4, none⟩ = some v4 ∧ w.frozen? ⟨g, 0, none⟩ = false ∧ w.frozen? ⟨g, 1, none⟩ = false ∧ w.frozen? ⟨g, 2, none⟩ = false ∧ w.frozen? ⟨g, 3, none⟩ = false ∧ w.frozen? ⟨g, 4, none⟩ = false :=
  ⟨cellBlk h rfl, cellBlk h rfl, cellBlk h rfl, cellBlk h rfl, cellBlk h rfl, freeBlk h 0, freeBlk h 1, freeBlk h 2, freeBlk h 3, freeBlk h 4⟩
theorem cells7 {w : World} {g : Nat} {v0 v1 v2 v3 v4 v5 v6 : Value} {t : TypeId} (h : w.heap[g]? = some (.cells #[v0, v1, v2, v3, v4, v5, v6] t (0, 0))) :
    w.cell? ⟨g, 0, none⟩ = some v0 ∧ w.cell? ⟨g, 1, none⟩ = some v1 ∧ w.cell? ⟨g, 2, none⟩ = some v2 ∧ w.cell? ⟨g, 3, none⟩ = some v3 ∧ w.cell? ⟨g, 4, none⟩ = some v4 ∧ w.cell? ⟨g, 5, none⟩ = some v5 ∧ w.cell? ⟨g, 6, none⟩ = some v6 ∧ w.frozen? ⟨g, 0, none⟩ = false ∧ w.frozen? ⟨g, 1, none⟩ = false ∧ w.frozen? ⟨g, 2, none⟩ = false ∧ w.frozen? ⟨g, 3, none⟩ = false ∧ w.frozen? ⟨g, 4, none⟩ = false ∧ w.frozen? ⟨g, 5, none⟩ = false ∧ w.frozen? ⟨g, 6, none⟩ = false :=
  ⟨cellBlk h rfl, cellBlk h rfl, cellBlk h rfl, cellBlk h rfl, cellBlk h rfl, cellBlk h rfl, cellBlk h rfl, freeBlk h 0, freeBlk h 1, freeBlk h 2, freeBlk h 3, freeBlk h 4, freeBlk h 5, freeBlk h 6⟩
/-! ### a whole struct stored into a block -/
end Go.Proofs.Ytpmnnijjohlloaa
