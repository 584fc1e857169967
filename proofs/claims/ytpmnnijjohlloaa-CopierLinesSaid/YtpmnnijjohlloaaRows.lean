/-
  No cell of these rows narrows 'for every input' (looked for: loops, veiled, ifaces, maps, wideKeys, modest, calm, conditions, laid).
  DERIVED. THE GIVEN ROWS OF THIS SEAT. 11 by the template 'for every input the law returns true; each argument reads behind the call as it read before'; 0 by the template 'total and deterministic' (their statements: YtpmnnijjohlloaaTotals.lean).
  GIVEN WITH THE SEED: the statements are not yours to turn. If you find one false, say at which input.
  Laid BY PROGRAM, IN A SANDBOX (cutbox-rows.mjs): the forced cells as the released guide's own fill.sh prints them over the translation cce09d6f12bbdbaf… (all of the seat's roots in one cut). By AI agents, Wed Nov 11 2026. No macro, syntax, notation, axiom, sorry.
-/
import Derived.Test.YtpmnnijjohlloaaChecked
import GoSem.Claim
import GoSem.ClaimJoined
import GoSem.ClaimMapViews
import Derived.JoinedTies
import Derived.KernelRfl
namespace Go.Proofs.Ytpmnnijjohlloaa
/- THE CELL 'sum', in the pinned program and in every row, IS THE sha256 OF THE DUMP (.gsa) THAT YtpmnnijjohlloaaProg.lean LOADS. Nothing in Lean hashes anything: it is a label: what it is worth is what the hold of that sum in a sandbox is worth. -/
noncomputable def Try.pinned : Pinned := { name := "ytpmnnijjohlloaa", sum := "cce09d6f12bbdbaf8111692592e6b704607435ad0a5027dac87998ec5314d3f4", checked := Try.checked }
namespace Rows
def none {H : Type} : Left H := { results := [], args := [] }

/-- 'cuirasslaw19.RemapSpent': WHATEVER THE INPUT: true; the input reads as it did. -/
def remapSpentSpec : ChangeSpec := { name := "remapSpent", fn := fun _ => fun
  | [d1, d2] => { results := [.lit (.bool true)], args := [d1, d2] }
  | _ => none }
def remapSpentRow : OpenClaim := { program := "ytpmnnijjohlloaa", sum := "cce09d6f12bbdbaf8111692592e6b704607435ad0a5027dac87998ec5314d3f4", func := "cuirass/cuirasslaw19.RemapSpent", spec := "remapSpent", apart := false }
def RemapSpentSaid : Prop := remapSpentRow.holds Try.pinned (OpenSpec.ofChange remapSpentSpec)

/-- ITS FALSE NEIGHBOUR: 'it returns false'. Refute it at one input. -/
def remapSpentWrong : ChangeSpec := { name := "remapSpent", fn := fun _ => fun
  | [d1, d2] => { results := [.lit (.bool false)], args := [d1, d2] }
  | _ => none }
def RemapSpentWrongFalsely : Prop := remapSpentRow.holds Try.pinned (OpenSpec.ofChange remapSpentWrong)

/-- 'cuirasslaw19.RemapPlays': WHATEVER THE INPUT: true; the input reads as it did. -/
def remapPlaysSpec : ChangeSpec := { name := "remapPlays", fn := fun _ => fun
  | [d1, d2, d3] => { results := [.lit (.bool true)], args := [d1, d2, d3] }
  | _ => none }
def remapPlaysRow : OpenClaim := { program := "ytpmnnijjohlloaa", sum := "cce09d6f12bbdbaf8111692592e6b704607435ad0a5027dac87998ec5314d3f4", func := "cuirass/cuirasslaw19.RemapPlays", spec := "remapPlays", apart := false }
def RemapPlaysSaid : Prop := remapPlaysRow.holds Try.pinned (OpenSpec.ofChange remapPlaysSpec)

/-- ITS FALSE NEIGHBOUR: 'it returns false'. Refute it at one input. -/
def remapPlaysWrong : ChangeSpec := { name := "remapPlays", fn := fun _ => fun
  | [d1, d2, d3] => { results := [.lit (.bool false)], args := [d1, d2, d3] }
  | _ => none }
def RemapPlaysWrongFalsely : Prop := remapPlaysRow.holds Try.pinned (OpenSpec.ofChange remapPlaysWrong)

/-- 'cuirasslaw19.RemapRefuses': WHATEVER THE INPUT: true; the input reads as it did. -/
def remapRefusesSpec : ChangeSpec := { name := "remapRefuses", fn := fun _ => fun
  | [d1, d2] => { results := [.lit (.bool true)], args := [d1, d2] }
  | _ => none }
def remapRefusesRow : OpenClaim := { program := "ytpmnnijjohlloaa", sum := "cce09d6f12bbdbaf8111692592e6b704607435ad0a5027dac87998ec5314d3f4", func := "cuirass/cuirasslaw19.RemapRefuses", spec := "remapRefuses", apart := false }
def RemapRefusesSaid : Prop := remapRefusesRow.holds Try.pinned (OpenSpec.ofChange remapRefusesSpec)

/-- ITS FALSE NEIGHBOUR: 'it returns false'. Refute it at one input. -/
def remapRefusesWrong : ChangeSpec := { name := "remapRefuses", fn := fun _ => fun
  | [d1, d2] => { results := [.lit (.bool false)], args := [d1, d2] }
  | _ => none }
def RemapRefusesWrongFalsely : Prop := remapRefusesRow.holds Try.pinned (OpenSpec.ofChange remapRefusesWrong)

/-- 'cuirasslaw19.RemapRestores': WHATEVER THE INPUT: true; the input reads as it did. -/
def remapRestoresSpec : ChangeSpec := { name := "remapRestores", fn := fun _ => fun
  | [d1, d2, d3] => { results := [.lit (.bool true)], args := [d1, d2, d3] }
  | _ => none }
def remapRestoresRow : OpenClaim := { program := "ytpmnnijjohlloaa", sum := "cce09d6f12bbdbaf8111692592e6b704607435ad0a5027dac87998ec5314d3f4", func := "cuirass/cuirasslaw19.RemapRestores", spec := "remapRestores", apart := false }
def RemapRestoresSaid : Prop := remapRestoresRow.holds Try.pinned (OpenSpec.ofChange remapRestoresSpec)

/-- ITS FALSE NEIGHBOUR: 'it returns false'. Refute it at one input. -/
def remapRestoresWrong : ChangeSpec := { name := "remapRestores", fn := fun _ => fun
  | [d1, d2, d3] => { results := [.lit (.bool false)], args := [d1, d2, d3] }
  | _ => none }
def RemapRestoresWrongFalsely : Prop := remapRestoresRow.holds Try.pinned (OpenSpec.ofChange remapRestoresWrong)

/-- 'cuirasslaw21.RepairOnce': WHATEVER THE INPUT: true; the input reads as it did. -/
def repairOnceSpec : ChangeSpec := { name := "repairOnce", fn := fun _ => fun
  | [d1, d2] => { results := [.lit (.bool true)], args := [d1, d2] }
  | _ => none }
def repairOnceRow : OpenClaim := { program := "ytpmnnijjohlloaa", sum := "cce09d6f12bbdbaf8111692592e6b704607435ad0a5027dac87998ec5314d3f4", func := "cuirass/cuirasslaw21.RepairOnce", spec := "repairOnce", unfollowed := true, recurses := true, apart := false }
def RepairOnceSaid : Prop := repairOnceRow.holds Try.pinned (OpenSpec.ofChange repairOnceSpec)

/-- ITS FALSE NEIGHBOUR: 'it returns false'. Refute it at one input. -/
def repairOnceWrong : ChangeSpec := { name := "repairOnce", fn := fun _ => fun
  | [d1, d2] => { results := [.lit (.bool false)], args := [d1, d2] }
  | _ => none }
def RepairOnceWrongFalsely : Prop := repairOnceRow.holds Try.pinned (OpenSpec.ofChange repairOnceWrong)

/-- 'cuirasslaw20.CopierLines': WHATEVER THE INPUT: true; the input reads as it did. -/
def copierLinesSpec : ChangeSpec := { name := "copierLines", fn := fun _ => fun
  | [d1, d2, d3, d4] => { results := [.lit (.bool true)], args := [d1, d2, d3, d4] }
  | _ => none }
def copierLinesRow : OpenClaim := { program := "ytpmnnijjohlloaa", sum := "cce09d6f12bbdbaf8111692592e6b704607435ad0a5027dac87998ec5314d3f4", func := "cuirass/cuirasslaw20.CopierLines", spec := "copierLines", unfollowed := true, recurses := true, apart := false }
def CopierLinesSaid : Prop := copierLinesRow.holds Try.pinned (OpenSpec.ofChange copierLinesSpec)

/-- ITS FALSE NEIGHBOUR: 'it returns false'. Refute it at one input. -/
def copierLinesWrong : ChangeSpec := { name := "copierLines", fn := fun _ => fun
  | [d1, d2, d3, d4] => { results := [.lit (.bool false)], args := [d1, d2, d3, d4] }
  | _ => none }
def CopierLinesWrongFalsely : Prop := copierLinesRow.holds Try.pinned (OpenSpec.ofChange copierLinesWrong)

/-- 'cuirasslaw21.RepairStarts': WHATEVER THE INPUT: true; the input reads as it did. -/
def repairStartsSpec : ChangeSpec := { name := "repairStarts", fn := fun _ => fun
  | [d1, d2, d3] => { results := [.lit (.bool true)], args := [d1, d2, d3] }
  | _ => none }
def repairStartsRow : OpenClaim := { program := "ytpmnnijjohlloaa", sum := "cce09d6f12bbdbaf8111692592e6b704607435ad0a5027dac87998ec5314d3f4", func := "cuirass/cuirasslaw21.RepairStarts", spec := "repairStarts", unfollowed := true, recurses := true, apart := false }
def RepairStartsSaid : Prop := repairStartsRow.holds Try.pinned (OpenSpec.ofChange repairStartsSpec)

/-- ITS FALSE NEIGHBOUR: 'it returns false'. Refute it at one input. -/
def repairStartsWrong : ChangeSpec := { name := "repairStarts", fn := fun _ => fun
  | [d1, d2, d3] => { results := [.lit (.bool false)], args := [d1, d2, d3] }
  | _ => none }
def RepairStartsWrongFalsely : Prop := repairStartsRow.holds Try.pinned (OpenSpec.ofChange repairStartsWrong)

/-- 'cuirasslaw21.RepairMoves': WHATEVER THE INPUT: true; the input reads as it did. -/
def repairMovesSpec : ChangeSpec := { name := "repairMoves", fn := fun _ => fun
  | [d1, d2] => { results := [.lit (.bool true)], args := [d1, d2] }
  | _ => none }
def repairMovesRow : OpenClaim := { program := "ytpmnnijjohlloaa", sum := "cce09d6f12bbdbaf8111692592e6b704607435ad0a5027dac87998ec5314d3f4", func := "cuirass/cuirasslaw21.RepairMoves", spec := "repairMoves", unfollowed := true, recurses := true, apart := false }
def RepairMovesSaid : Prop := repairMovesRow.holds Try.pinned (OpenSpec.ofChange repairMovesSpec)

/-- ITS FALSE NEIGHBOUR: 'it returns false'. Refute it at one input. -/
def repairMovesWrong : ChangeSpec := { name := "repairMoves", fn := fun _ => fun
  | [d1, d2] => { results := [.lit (.bool false)], args := [d1, d2] }
  | _ => none }
def RepairMovesWrongFalsely : Prop := repairMovesRow.holds Try.pinned (OpenSpec.ofChange repairMovesWrong)

/-- 'cuirasslaw21.RepairCounts': WHATEVER THE INPUT: true; the input reads as it did. -/
def repairCountsSpec : ChangeSpec := { name := "repairCounts", fn := fun _ => fun
  | [d1, d2] => { results := [.lit (.bool true)], args := [d1, d2] }
  | _ => none }
def repairCountsRow : OpenClaim := { program := "ytpmnnijjohlloaa", sum := "cce09d6f12bbdbaf8111692592e6b704607435ad0a5027dac87998ec5314d3f4", func := "cuirass/cuirasslaw21.RepairCounts", spec := "repairCounts", unfollowed := true, recurses := true, apart := false }
def RepairCountsSaid : Prop := repairCountsRow.holds Try.pinned (OpenSpec.ofChange repairCountsSpec)

/-- ITS FALSE NEIGHBOUR: 'it returns false'. Refute it at one input. -/
def repairCountsWrong : ChangeSpec := { name := "repairCounts", fn := fun _ => fun
  | [d1, d2] => { results := [.lit (.bool false)], args := [d1, d2] }
  | _ => none }
def RepairCountsWrongFalsely : Prop := repairCountsRow.holds Try.pinned (OpenSpec.ofChange repairCountsWrong)

/-- 'cuirasslaw21.RepairPlays': WHATEVER THE INPUT: true; the input reads as it did. -/
def repairPlaysSpec : ChangeSpec := { name := "repairPlays", fn := fun _ => fun
  | [d1, d2] => { results := [.lit (.bool true)], args := [d1, d2] }
  | _ => none }
def repairPlaysRow : OpenClaim := { program := "ytpmnnijjohlloaa", sum := "cce09d6f12bbdbaf8111692592e6b704607435ad0a5027dac87998ec5314d3f4", func := "cuirass/cuirasslaw21.RepairPlays", spec := "repairPlays", unfollowed := true, recurses := true, apart := false }
def RepairPlaysSaid : Prop := repairPlaysRow.holds Try.pinned (OpenSpec.ofChange repairPlaysSpec)

/-- ITS FALSE NEIGHBOUR: 'it returns false'. Refute it at one input. -/
def repairPlaysWrong : ChangeSpec := { name := "repairPlays", fn := fun _ => fun
  | [d1, d2] => { results := [.lit (.bool false)], args := [d1, d2] }
  | _ => none }
def RepairPlaysWrongFalsely : Prop := repairPlaysRow.holds Try.pinned (OpenSpec.ofChange repairPlaysWrong)

/-- 'cuirasslaw21.RepairWrong': WHATEVER THE INPUT: true; the input reads as it did. -/
def repairWrongSpec : ChangeSpec := { name := "repairWrong", fn := fun _ => fun
  | [d1, d2, d3, d4] => { results := [.lit (.bool true)], args := [d1, d2, d3, d4] }
  | _ => none }
def repairWrongRow : OpenClaim := { program := "ytpmnnijjohlloaa", sum := "cce09d6f12bbdbaf8111692592e6b704607435ad0a5027dac87998ec5314d3f4", func := "cuirass/cuirasslaw21.RepairWrong", spec := "repairWrong", unfollowed := true, recurses := true, apart := false }
def RepairWrongSaid : Prop := repairWrongRow.holds Try.pinned (OpenSpec.ofChange repairWrongSpec)

/-- ITS FALSE NEIGHBOUR: 'it returns false'. Refute it at one input. -/
def repairWrongWrong : ChangeSpec := { name := "repairWrong", fn := fun _ => fun
  | [d1, d2, d3, d4] => { results := [.lit (.bool false)], args := [d1, d2, d3, d4] }
  | _ => none }
def RepairWrongWrongFalsely : Prop := repairWrongRow.holds Try.pinned (OpenSpec.ofChange repairWrongWrong)

/- THE SECOND FORM. 'bulk': how many values and letters a reading holds, each counted each time it is reached (what is shared counts as often as it is met; a slice's spare places count too). A statement '..UptoSaid' is the law's where the arguments, and the package variables that the reading takes, are together of bulk at most 1048576: NARROWER than '..Said'. Prove '..Said' where nothing that the law and all that it calls make is longer than what came in: it says more and counts as full. Else prove '..UptoSaid'. A law counts once. -/
mutual
def uptoBulk {H : Type} : DataW H → Nat
  | .lit (.string bytes) => bytes.length + 1
  | .lit _ => 1
  | .nil => 1
  | .ptr d => uptoBulk d + 1
  | .slice elems spare => uptoBulkAll elems + uptoBulkAll spare + 1
  | .agg parts => uptoBulkAll parts + 1
  | .iface _ d => uptoBulk d + 1
  | .map entries => uptoBulkEntries entries + 1
  | .held _ => 1
def uptoBulkAll {H : Type} : List (DataW H) → Nat
  | [] => 0
  | d :: r => uptoBulk d + uptoBulkAll r
def uptoBulkEntries {H : Type} : List (Lit × DataW H) → Nat
  | [] => 0
  | x :: r => uptoBulkEntry x + uptoBulkEntries r
def uptoBulkEntry {H : Type} : Lit × DataW H → Nat
  | (.string bytes, d) => bytes.length + uptoBulk d + 1
  | (_, d) => uptoBulk d + 1
 end
def uptoSmall : (H : Type) → List (DataW H) → Bool := fun _ ds => decide (uptoBulkAll ds ≤ 1048576)
def OpenSpec.upto (s : _root_.Go.ChangeSpec) : _root_.Go.OpenSpec := { _root_.Go.OpenSpec.ofChange s with cond := some uptoSmall }

/-- 'cuirasslaw19.RemapSpent', WHERE WHAT IT READS IS OF BULK AT MOST 1048576: true; the input reads as it did. -/
def remapSpentUptoRow : OpenClaim := { program := "ytpmnnijjohlloaa", sum := "cce09d6f12bbdbaf8111692592e6b704607435ad0a5027dac87998ec5314d3f4", func := "cuirass/cuirasslaw19.RemapSpent", spec := "remapSpent", apart := false, narrowed := true }
def RemapSpentUptoSaid : Prop := remapSpentUptoRow.holds Try.pinned (OpenSpec.upto remapSpentSpec)

/-- 'cuirasslaw19.RemapPlays', WHERE WHAT IT READS IS OF BULK AT MOST 1048576: true; the input reads as it did. -/
def remapPlaysUptoRow : OpenClaim := { program := "ytpmnnijjohlloaa", sum := "cce09d6f12bbdbaf8111692592e6b704607435ad0a5027dac87998ec5314d3f4", func := "cuirass/cuirasslaw19.RemapPlays", spec := "remapPlays", apart := false, narrowed := true }
def RemapPlaysUptoSaid : Prop := remapPlaysUptoRow.holds Try.pinned (OpenSpec.upto remapPlaysSpec)

/-- 'cuirasslaw19.RemapRefuses', WHERE WHAT IT READS IS OF BULK AT MOST 1048576: true; the input reads as it did. -/
def remapRefusesUptoRow : OpenClaim := { program := "ytpmnnijjohlloaa", sum := "cce09d6f12bbdbaf8111692592e6b704607435ad0a5027dac87998ec5314d3f4", func := "cuirass/cuirasslaw19.RemapRefuses", spec := "remapRefuses", apart := false, narrowed := true }
def RemapRefusesUptoSaid : Prop := remapRefusesUptoRow.holds Try.pinned (OpenSpec.upto remapRefusesSpec)

/-- 'cuirasslaw19.RemapRestores', WHERE WHAT IT READS IS OF BULK AT MOST 1048576: true; the input reads as it did. -/
def remapRestoresUptoRow : OpenClaim := { program := "ytpmnnijjohlloaa", sum := "cce09d6f12bbdbaf8111692592e6b704607435ad0a5027dac87998ec5314d3f4", func := "cuirass/cuirasslaw19.RemapRestores", spec := "remapRestores", apart := false, narrowed := true }
def RemapRestoresUptoSaid : Prop := remapRestoresUptoRow.holds Try.pinned (OpenSpec.upto remapRestoresSpec)

/-- 'cuirasslaw21.RepairOnce', WHERE WHAT IT READS IS OF BULK AT MOST 1048576: true; the input reads as it did. -/
def repairOnceUptoRow : OpenClaim := { program := "ytpmnnijjohlloaa", sum := "cce09d6f12bbdbaf8111692592e6b704607435ad0a5027dac87998ec5314d3f4", func := "cuirass/cuirasslaw21.RepairOnce", spec := "repairOnce", unfollowed := true, recurses := true, apart := false, narrowed := true }
def RepairOnceUptoSaid : Prop := repairOnceUptoRow.holds Try.pinned (OpenSpec.upto repairOnceSpec)

/-- 'cuirasslaw20.CopierLines', WHERE WHAT IT READS IS OF BULK AT MOST 1048576: true; the input reads as it did. -/
def copierLinesUptoRow : OpenClaim := { program := "ytpmnnijjohlloaa", sum := "cce09d6f12bbdbaf8111692592e6b704607435ad0a5027dac87998ec5314d3f4", func := "cuirass/cuirasslaw20.CopierLines", spec := "copierLines", unfollowed := true, recurses := true, apart := false, narrowed := true }
def CopierLinesUptoSaid : Prop := copierLinesUptoRow.holds Try.pinned (OpenSpec.upto copierLinesSpec)

/-- 'cuirasslaw21.RepairStarts', WHERE WHAT IT READS IS OF BULK AT MOST 1048576: true; the input reads as it did. -/
def repairStartsUptoRow : OpenClaim := { program := "ytpmnnijjohlloaa", sum := "cce09d6f12bbdbaf8111692592e6b704607435ad0a5027dac87998ec5314d3f4", func := "cuirass/cuirasslaw21.RepairStarts", spec := "repairStarts", unfollowed := true, recurses := true, apart := false, narrowed := true }
def RepairStartsUptoSaid : Prop := repairStartsUptoRow.holds Try.pinned (OpenSpec.upto repairStartsSpec)

/-- 'cuirasslaw21.RepairMoves', WHERE WHAT IT READS IS OF BULK AT MOST 1048576: true; the input reads as it did. -/
def repairMovesUptoRow : OpenClaim := { program := "ytpmnnijjohlloaa", sum := "cce09d6f12bbdbaf8111692592e6b704607435ad0a5027dac87998ec5314d3f4", func := "cuirass/cuirasslaw21.RepairMoves", spec := "repairMoves", unfollowed := true, recurses := true, apart := false, narrowed := true }
def RepairMovesUptoSaid : Prop := repairMovesUptoRow.holds Try.pinned (OpenSpec.upto repairMovesSpec)

/-- 'cuirasslaw21.RepairCounts', WHERE WHAT IT READS IS OF BULK AT MOST 1048576: true; the input reads as it did. -/
def repairCountsUptoRow : OpenClaim := { program := "ytpmnnijjohlloaa", sum := "cce09d6f12bbdbaf8111692592e6b704607435ad0a5027dac87998ec5314d3f4", func := "cuirass/cuirasslaw21.RepairCounts", spec := "repairCounts", unfollowed := true, recurses := true, apart := false, narrowed := true }
def RepairCountsUptoSaid : Prop := repairCountsUptoRow.holds Try.pinned (OpenSpec.upto repairCountsSpec)

/-- 'cuirasslaw21.RepairPlays', WHERE WHAT IT READS IS OF BULK AT MOST 1048576: true; the input reads as it did. -/
def repairPlaysUptoRow : OpenClaim := { program := "ytpmnnijjohlloaa", sum := "cce09d6f12bbdbaf8111692592e6b704607435ad0a5027dac87998ec5314d3f4", func := "cuirass/cuirasslaw21.RepairPlays", spec := "repairPlays", unfollowed := true, recurses := true, apart := false, narrowed := true }
def RepairPlaysUptoSaid : Prop := repairPlaysUptoRow.holds Try.pinned (OpenSpec.upto repairPlaysSpec)

/-- 'cuirasslaw21.RepairWrong', WHERE WHAT IT READS IS OF BULK AT MOST 1048576: true; the input reads as it did. -/
def repairWrongUptoRow : OpenClaim := { program := "ytpmnnijjohlloaa", sum := "cce09d6f12bbdbaf8111692592e6b704607435ad0a5027dac87998ec5314d3f4", func := "cuirass/cuirasslaw21.RepairWrong", spec := "repairWrong", unfollowed := true, recurses := true, apart := false, narrowed := true }
def RepairWrongUptoSaid : Prop := repairWrongUptoRow.holds Try.pinned (OpenSpec.upto repairWrongSpec)

end Rows
end Go.Proofs.Ytpmnnijjohlloaa
