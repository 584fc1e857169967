/- Small lemmas on worlds: blocks that a call lays, what a later call leaves of them, their cells. -/
import Derived.Test.YtjbaabffilejeaaDoorRows
import Derived.WalkKit
import Derived.ProofKit
import Derived.OpenShut
import Derived.WalkLawsBesides
import Derived.WalkSpells
import Derived.OneCell
import Derived.Test.YtjbaabffilejeaaDoorRegion
import Derived.Deep.QuietTactic
import Derived.BigQuiet
import Derived.Deep.RegionHeld3
import Derived.BigRegion
import Derived.Outline
namespace Go.Proofs.YtjbaabffilejeaaDoor
open Go.ChangeShapes Go.WideShapes Go.ChangeAt Go.RowKit
set_option linter.unusedVariables false
/-! ### blocks -/
theorem cellKeep {w1 w2 : World} {a : Addr} {v : Value} (h : w1.cell? a = some v) (hb : Below w1.heap.size w1 w2) : w2.cell? a = some v := by
  rw [hb.cell (World.block_lt_of_cell? w1 a h)]; exact h
/-! ### a whole struct stored into a block -/
end Go.Proofs.YtjbaabffilejeaaDoor
