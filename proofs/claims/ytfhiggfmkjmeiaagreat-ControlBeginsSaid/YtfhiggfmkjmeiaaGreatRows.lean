/-
  No cell of these rows narrows 'for every input' (looked for: loops, veiled, ifaces, maps, wideKeys, modest, calm, conditions, laid).
  DERIVED. THE GIVEN ROWS OF THIS SEAT. 11 by the template 'for every input the law returns true; each argument reads behind the call as it read before'; 0 by the template 'total and deterministic' (their statements: YtfhiggfmkjmeiaaGreatTotals.lean).
  GIVEN WITH THE SEED: the statements are not yours to turn. If you find one false, say at which input.
  Laid BY PROGRAM, IN A SANDBOX (cutbox-rows.mjs): the forced cells as the released guide's own fill.sh prints them over the translation d7b6a9ec617c1656… (all of the seat's roots in one cut). By AI agents, Wed Nov 11 2026. No macro, syntax, notation, axiom, sorry.
-/
import Derived.Test.YtfhiggfmkjmeiaaGreatChecked
import GoSem.Claim
import GoSem.ClaimJoined
import GoSem.ClaimMapViews
import Derived.JoinedTies
import Derived.KernelRfl
namespace Go.Proofs.YtfhiggfmkjmeiaaGreat
/- THE CELL 'sum', in the pinned program and in every row, IS THE sha256 OF THE DUMP (.gsa) THAT YtfhiggfmkjmeiaaGreatProg.lean LOADS. Nothing in Lean hashes anything: it is a label: what it is worth is what the hold of that sum in a sandbox is worth. -/
noncomputable def Tryz.pinned : Pinned := { name := "ytfhiggfmkjmeiaagreat", sum := "d7b6a9ec617c16567f354daf38b05c37428ad4c6b08a2ef6b9ced3869ddddc7e", checked := Tryz.checked }
namespace Rows
def none {H : Type} : Left H := { results := [], args := [] }

/-- 'cuirasstop.WholeEarned': WHATEVER THE INPUT: true; the input reads as it did. -/
def wholeEarnedSpec : ChangeSpec := { name := "wholeEarned", fn := fun _ => fun
  | [d1, d2] => { results := [.lit (.bool true)], args := [d1, d2] }
  | _ => none }
def wholeEarnedRow : OpenClaim := { program := "ytfhiggfmkjmeiaagreat", sum := "d7b6a9ec617c16567f354daf38b05c37428ad4c6b08a2ef6b9ced3869ddddc7e", func := "cuirass/cuirasstop.WholeEarned", spec := "wholeEarned", unfollowed := true, recurses := true, apart := false }
def WholeEarnedSaid : Prop := wholeEarnedRow.holds Tryz.pinned (OpenSpec.ofChange wholeEarnedSpec)

/-- ITS FALSE NEIGHBOUR: 'it returns false'. Refute it at one input. -/
def wholeEarnedWrong : ChangeSpec := { name := "wholeEarned", fn := fun _ => fun
  | [d1, d2] => { results := [.lit (.bool false)], args := [d1, d2] }
  | _ => none }
def WholeEarnedWrongFalsely : Prop := wholeEarnedRow.holds Tryz.pinned (OpenSpec.ofChange wholeEarnedWrong)

/-- 'cuirasstop.WholeStarts': WHATEVER THE INPUT: true; the input reads as it did. -/
def wholeStartsSpec : ChangeSpec := { name := "wholeStarts", fn := fun _ => fun
  | [d1, d2] => { results := [.lit (.bool true)], args := [d1, d2] }
  | _ => none }
def wholeStartsRow : OpenClaim := { program := "ytfhiggfmkjmeiaagreat", sum := "d7b6a9ec617c16567f354daf38b05c37428ad4c6b08a2ef6b9ced3869ddddc7e", func := "cuirass/cuirasstop.WholeStarts", spec := "wholeStarts", unfollowed := true, recurses := true, apart := false }
def WholeStartsSaid : Prop := wholeStartsRow.holds Tryz.pinned (OpenSpec.ofChange wholeStartsSpec)

/-- ITS FALSE NEIGHBOUR: 'it returns false'. Refute it at one input. -/
def wholeStartsWrong : ChangeSpec := { name := "wholeStarts", fn := fun _ => fun
  | [d1, d2] => { results := [.lit (.bool false)], args := [d1, d2] }
  | _ => none }
def WholeStartsWrongFalsely : Prop := wholeStartsRow.holds Tryz.pinned (OpenSpec.ofChange wholeStartsWrong)

/-- 'cuirasslaw22.ControlBack': WHATEVER THE INPUT: true; the input reads as it did. -/
def controlBackSpec : ChangeSpec := { name := "controlBack", fn := fun _ => fun
  | [d1, d2, d3, d4] => { results := [.lit (.bool true)], args := [d1, d2, d3, d4] }
  | _ => none }
def controlBackRow : OpenClaim := { program := "ytfhiggfmkjmeiaagreat", sum := "d7b6a9ec617c16567f354daf38b05c37428ad4c6b08a2ef6b9ced3869ddddc7e", func := "cuirass/cuirasslaw22.ControlBack", spec := "controlBack", unfollowed := true, recurses := true, apart := false }
def ControlBackSaid : Prop := controlBackRow.holds Tryz.pinned (OpenSpec.ofChange controlBackSpec)

/-- ITS FALSE NEIGHBOUR: 'it returns false'. Refute it at one input. -/
def controlBackWrong : ChangeSpec := { name := "controlBack", fn := fun _ => fun
  | [d1, d2, d3, d4] => { results := [.lit (.bool false)], args := [d1, d2, d3, d4] }
  | _ => none }
def ControlBackWrongFalsely : Prop := controlBackRow.holds Tryz.pinned (OpenSpec.ofChange controlBackWrong)

/-- 'cuirasslaw22.ControlBegins': WHATEVER THE INPUT: true; the input reads as it did. -/
def controlBeginsSpec : ChangeSpec := { name := "controlBegins", fn := fun _ => fun
  | [d1, d2, d3, d4] => { results := [.lit (.bool true)], args := [d1, d2, d3, d4] }
  | _ => none }
def controlBeginsRow : OpenClaim := { program := "ytfhiggfmkjmeiaagreat", sum := "d7b6a9ec617c16567f354daf38b05c37428ad4c6b08a2ef6b9ced3869ddddc7e", func := "cuirass/cuirasslaw22.ControlBegins", spec := "controlBegins", unfollowed := true, recurses := true, apart := false }
def ControlBeginsSaid : Prop := controlBeginsRow.holds Tryz.pinned (OpenSpec.ofChange controlBeginsSpec)

/-- ITS FALSE NEIGHBOUR: 'it returns false'. Refute it at one input. -/
def controlBeginsWrong : ChangeSpec := { name := "controlBegins", fn := fun _ => fun
  | [d1, d2, d3, d4] => { results := [.lit (.bool false)], args := [d1, d2, d3, d4] }
  | _ => none }
def ControlBeginsWrongFalsely : Prop := controlBeginsRow.holds Tryz.pinned (OpenSpec.ofChange controlBeginsWrong)

/-- 'cuirasslaw22.ControlIdeal': WHATEVER THE INPUT: true; the input reads as it did. -/
def controlIdealSpec : ChangeSpec := { name := "controlIdeal", fn := fun _ => fun
  | [d1, d2] => { results := [.lit (.bool true)], args := [d1, d2] }
  | _ => none }
def controlIdealRow : OpenClaim := { program := "ytfhiggfmkjmeiaagreat", sum := "d7b6a9ec617c16567f354daf38b05c37428ad4c6b08a2ef6b9ced3869ddddc7e", func := "cuirass/cuirasslaw22.ControlIdeal", spec := "controlIdeal", unfollowed := true, recurses := true, apart := false }
def ControlIdealSaid : Prop := controlIdealRow.holds Tryz.pinned (OpenSpec.ofChange controlIdealSpec)

/-- ITS FALSE NEIGHBOUR: 'it returns false'. Refute it at one input. -/
def controlIdealWrong : ChangeSpec := { name := "controlIdeal", fn := fun _ => fun
  | [d1, d2] => { results := [.lit (.bool false)], args := [d1, d2] }
  | _ => none }
def ControlIdealWrongFalsely : Prop := controlIdealRow.holds Tryz.pinned (OpenSpec.ofChange controlIdealWrong)

/-- 'cuirasslaw24.MachineSteps': WHATEVER THE INPUT: true; the input reads as it did. -/
def machineStepsSpec : ChangeSpec := { name := "machineSteps", fn := fun _ => fun
  | [d1, d2, d3] => { results := [.lit (.bool true)], args := [d1, d2, d3] }
  | _ => none }
def machineStepsRow : OpenClaim := { program := "ytfhiggfmkjmeiaagreat", sum := "d7b6a9ec617c16567f354daf38b05c37428ad4c6b08a2ef6b9ced3869ddddc7e", func := "cuirass/cuirasslaw24.MachineSteps", spec := "machineSteps", unfollowed := true, recurses := true, apart := false }
def MachineStepsSaid : Prop := machineStepsRow.holds Tryz.pinned (OpenSpec.ofChange machineStepsSpec)

/-- ITS FALSE NEIGHBOUR: 'it returns false'. Refute it at one input. -/
def machineStepsWrong : ChangeSpec := { name := "machineSteps", fn := fun _ => fun
  | [d1, d2, d3] => { results := [.lit (.bool false)], args := [d1, d2, d3] }
  | _ => none }
def MachineStepsWrongFalsely : Prop := machineStepsRow.holds Tryz.pinned (OpenSpec.ofChange machineStepsWrong)

/-- 'cuirasslaw26.RegsReads': WHATEVER THE INPUT: true; the input reads as it did. -/
def regsReadsSpec : ChangeSpec := { name := "regsReads", fn := fun _ => fun
  | [d1, d2, d3, d4] => { results := [.lit (.bool true)], args := [d1, d2, d3, d4] }
  | _ => none }
def regsReadsRow : OpenClaim := { program := "ytfhiggfmkjmeiaagreat", sum := "d7b6a9ec617c16567f354daf38b05c37428ad4c6b08a2ef6b9ced3869ddddc7e", func := "cuirass/cuirasslaw26.RegsReads", spec := "regsReads", inPlace := ["internal/abi.NoEscape"], unfollowed := true, recurses := true, apart := false }
def RegsReadsSaid : Prop := regsReadsRow.holds Tryz.pinned (OpenSpec.ofChange regsReadsSpec)

/-- ITS FALSE NEIGHBOUR: 'it returns false'. Refute it at one input. -/
def regsReadsWrong : ChangeSpec := { name := "regsReads", fn := fun _ => fun
  | [d1, d2, d3, d4] => { results := [.lit (.bool false)], args := [d1, d2, d3, d4] }
  | _ => none }
def RegsReadsWrongFalsely : Prop := regsReadsRow.holds Tryz.pinned (OpenSpec.ofChange regsReadsWrong)

/-- 'cuirasstop.WholeSpared': WHATEVER THE INPUT: true; the input reads as it did. -/
def wholeSparedSpec : ChangeSpec := { name := "wholeSpared", fn := fun _ => fun
  | [d1, d2, d3, d4, d5] => { results := [.lit (.bool true)], args := [d1, d2, d3, d4, d5] }
  | _ => none }
def wholeSparedRow : OpenClaim := { program := "ytfhiggfmkjmeiaagreat", sum := "d7b6a9ec617c16567f354daf38b05c37428ad4c6b08a2ef6b9ced3869ddddc7e", func := "cuirass/cuirasstop.WholeSpared", spec := "wholeSpared", unfollowed := true, recurses := true, apart := false }
def WholeSparedSaid : Prop := wholeSparedRow.holds Tryz.pinned (OpenSpec.ofChange wholeSparedSpec)

/-- ITS FALSE NEIGHBOUR: 'it returns false'. Refute it at one input. -/
def wholeSparedWrong : ChangeSpec := { name := "wholeSpared", fn := fun _ => fun
  | [d1, d2, d3, d4, d5] => { results := [.lit (.bool false)], args := [d1, d2, d3, d4, d5] }
  | _ => none }
def WholeSparedWrongFalsely : Prop := wholeSparedRow.holds Tryz.pinned (OpenSpec.ofChange wholeSparedWrong)

/-- 'cuirasstop.WholeHonest': WHATEVER THE INPUT: true; the input reads as it did. -/
def wholeHonestSpec : ChangeSpec := { name := "wholeHonest", fn := fun _ => fun
  | [d1, d2] => { results := [.lit (.bool true)], args := [d1, d2] }
  | _ => none }
def wholeHonestRow : OpenClaim := { program := "ytfhiggfmkjmeiaagreat", sum := "d7b6a9ec617c16567f354daf38b05c37428ad4c6b08a2ef6b9ced3869ddddc7e", func := "cuirass/cuirasstop.WholeHonest", spec := "wholeHonest", unfollowed := true, recurses := true, apart := false }
def WholeHonestSaid : Prop := wholeHonestRow.holds Tryz.pinned (OpenSpec.ofChange wholeHonestSpec)

/-- ITS FALSE NEIGHBOUR: 'it returns false'. Refute it at one input. -/
def wholeHonestWrong : ChangeSpec := { name := "wholeHonest", fn := fun _ => fun
  | [d1, d2] => { results := [.lit (.bool false)], args := [d1, d2] }
  | _ => none }
def WholeHonestWrongFalsely : Prop := wholeHonestRow.holds Tryz.pinned (OpenSpec.ofChange wholeHonestWrong)

/-- 'cuirasstop.WholeQuiet': WHATEVER THE INPUT: true; the input reads as it did. -/
def wholeQuietSpec : ChangeSpec := { name := "wholeQuiet", fn := fun _ => fun
  | [d1, d2] => { results := [.lit (.bool true)], args := [d1, d2] }
  | _ => none }
def wholeQuietRow : OpenClaim := { program := "ytfhiggfmkjmeiaagreat", sum := "d7b6a9ec617c16567f354daf38b05c37428ad4c6b08a2ef6b9ced3869ddddc7e", func := "cuirass/cuirasstop.WholeQuiet", spec := "wholeQuiet", unfollowed := true, recurses := true, apart := false }
def WholeQuietSaid : Prop := wholeQuietRow.holds Tryz.pinned (OpenSpec.ofChange wholeQuietSpec)

/-- ITS FALSE NEIGHBOUR: 'it returns false'. Refute it at one input. -/
def wholeQuietWrong : ChangeSpec := { name := "wholeQuiet", fn := fun _ => fun
  | [d1, d2] => { results := [.lit (.bool false)], args := [d1, d2] }
  | _ => none }
def WholeQuietWrongFalsely : Prop := wholeQuietRow.holds Tryz.pinned (OpenSpec.ofChange wholeQuietWrong)

/-- 'cuirasstop.WholeSparse': WHATEVER THE INPUT: true; the input reads as it did. -/
def wholeSparseSpec : ChangeSpec := { name := "wholeSparse", fn := fun _ => fun
  | [d1, d2] => { results := [.lit (.bool true)], args := [d1, d2] }
  | _ => none }
def wholeSparseRow : OpenClaim := { program := "ytfhiggfmkjmeiaagreat", sum := "d7b6a9ec617c16567f354daf38b05c37428ad4c6b08a2ef6b9ced3869ddddc7e", func := "cuirass/cuirasstop.WholeSparse", spec := "wholeSparse", unfollowed := true, recurses := true, apart := false }
def WholeSparseSaid : Prop := wholeSparseRow.holds Tryz.pinned (OpenSpec.ofChange wholeSparseSpec)

/-- ITS FALSE NEIGHBOUR: 'it returns false'. Refute it at one input. -/
def wholeSparseWrong : ChangeSpec := { name := "wholeSparse", fn := fun _ => fun
  | [d1, d2] => { results := [.lit (.bool false)], args := [d1, d2] }
  | _ => none }
def WholeSparseWrongFalsely : Prop := wholeSparseRow.holds Tryz.pinned (OpenSpec.ofChange wholeSparseWrong)

/- THE SECOND FORM. 'bulk': how many values and letters a reading holds, each counted each time it is reached (what is shared counts as often as it is met; a slice's spare places count too). A statement '..UptoSaid' is the law's where the arguments, and the package variables that the reading takes, are together of bulk at most 1048576: NARROWER than '..Said'. Prove '..Said' where nothing that the law and all that it calls make is longer than what came in: it says more and counts as full. Else prove '..UptoSaid'. A law counts once. -/
mutual
def uptoBulk {H : Type} : DataW H → Nat
  | .lit (.string bytes) => bytes.length + 1
  | .lit _ => 1
  | .nil => 1
  | .ptr d => uptoBulk d + 1
  | .slice elems spare => uptoBulkAll elems + uptoBulkAll spare + 1
  | .agg parts => uptoBulkAll parts + 1
  | .iface _ d => uptoBulk d + 1
  | .map entries => uptoBulkEntries entries + 1
  | .held _ => 1
def uptoBulkAll {H : Type} : List (DataW H) → Nat
  | [] => 0
  | d :: r => uptoBulk d + uptoBulkAll r
def uptoBulkEntries {H : Type} : List (Lit × DataW H) → Nat
  | [] => 0
  | x :: r => uptoBulkEntry x + uptoBulkEntries r
def uptoBulkEntry {H : Type} : Lit × DataW H → Nat
  | (.string bytes, d) => bytes.length + uptoBulk d + 1
  | (_, d) => uptoBulk d + 1
 end
def uptoSmall : (H : Type) → List (DataW H) → Bool := fun _ ds => decide (uptoBulkAll ds ≤ 1048576)
def OpenSpec.upto (s : _root_.Go.ChangeSpec) : _root_.Go.OpenSpec := { _root_.Go.OpenSpec.ofChange s with cond := some uptoSmall }

/-- 'cuirasstop.WholeEarned', WHERE WHAT IT READS IS OF BULK AT MOST 1048576: true; the input reads as it did. -/
def wholeEarnedUptoRow : OpenClaim := { program := "ytfhiggfmkjmeiaagreat", sum := "d7b6a9ec617c16567f354daf38b05c37428ad4c6b08a2ef6b9ced3869ddddc7e", func := "cuirass/cuirasstop.WholeEarned", spec := "wholeEarned", unfollowed := true, recurses := true, apart := false, narrowed := true }
def WholeEarnedUptoSaid : Prop := wholeEarnedUptoRow.holds Tryz.pinned (OpenSpec.upto wholeEarnedSpec)

/-- 'cuirasstop.WholeStarts', WHERE WHAT IT READS IS OF BULK AT MOST 1048576: true; the input reads as it did. -/
def wholeStartsUptoRow : OpenClaim := { program := "ytfhiggfmkjmeiaagreat", sum := "d7b6a9ec617c16567f354daf38b05c37428ad4c6b08a2ef6b9ced3869ddddc7e", func := "cuirass/cuirasstop.WholeStarts", spec := "wholeStarts", unfollowed := true, recurses := true, apart := false, narrowed := true }
def WholeStartsUptoSaid : Prop := wholeStartsUptoRow.holds Tryz.pinned (OpenSpec.upto wholeStartsSpec)

/-- 'cuirasslaw22.ControlBack', WHERE WHAT IT READS IS OF BULK AT MOST 1048576: true; the input reads as it did. -/
def controlBackUptoRow : OpenClaim := { program := "ytfhiggfmkjmeiaagreat", sum := "d7b6a9ec617c16567f354daf38b05c37428ad4c6b08a2ef6b9ced3869ddddc7e", func := "cuirass/cuirasslaw22.ControlBack", spec := "controlBack", unfollowed := true, recurses := true, apart := false, narrowed := true }
def ControlBackUptoSaid : Prop := controlBackUptoRow.holds Tryz.pinned (OpenSpec.upto controlBackSpec)

/-- 'cuirasslaw22.ControlBegins', WHERE WHAT IT READS IS OF BULK AT MOST 1048576: true; the input reads as it did. -/
def controlBeginsUptoRow : OpenClaim := { program := "ytfhiggfmkjmeiaagreat", sum := "d7b6a9ec617c16567f354daf38b05c37428ad4c6b08a2ef6b9ced3869ddddc7e", func := "cuirass/cuirasslaw22.ControlBegins", spec := "controlBegins", unfollowed := true, recurses := true, apart := false, narrowed := true }
def ControlBeginsUptoSaid : Prop := controlBeginsUptoRow.holds Tryz.pinned (OpenSpec.upto controlBeginsSpec)

/-- 'cuirasslaw22.ControlIdeal', WHERE WHAT IT READS IS OF BULK AT MOST 1048576: true; the input reads as it did. -/
def controlIdealUptoRow : OpenClaim := { program := "ytfhiggfmkjmeiaagreat", sum := "d7b6a9ec617c16567f354daf38b05c37428ad4c6b08a2ef6b9ced3869ddddc7e", func := "cuirass/cuirasslaw22.ControlIdeal", spec := "controlIdeal", unfollowed := true, recurses := true, apart := false, narrowed := true }
def ControlIdealUptoSaid : Prop := controlIdealUptoRow.holds Tryz.pinned (OpenSpec.upto controlIdealSpec)

/-- 'cuirasslaw24.MachineSteps', WHERE WHAT IT READS IS OF BULK AT MOST 1048576: true; the input reads as it did. -/
def machineStepsUptoRow : OpenClaim := { program := "ytfhiggfmkjmeiaagreat", sum := "d7b6a9ec617c16567f354daf38b05c37428ad4c6b08a2ef6b9ced3869ddddc7e", func := "cuirass/cuirasslaw24.MachineSteps", spec := "machineSteps", unfollowed := true, recurses := true, apart := false, narrowed := true }
def MachineStepsUptoSaid : Prop := machineStepsUptoRow.holds Tryz.pinned (OpenSpec.upto machineStepsSpec)

/-- 'cuirasslaw26.RegsReads', WHERE WHAT IT READS IS OF BULK AT MOST 1048576: true; the input reads as it did. -/
def regsReadsUptoRow : OpenClaim := { program := "ytfhiggfmkjmeiaagreat", sum := "d7b6a9ec617c16567f354daf38b05c37428ad4c6b08a2ef6b9ced3869ddddc7e", func := "cuirass/cuirasslaw26.RegsReads", spec := "regsReads", inPlace := ["internal/abi.NoEscape"], unfollowed := true, recurses := true, apart := false, narrowed := true }
def RegsReadsUptoSaid : Prop := regsReadsUptoRow.holds Tryz.pinned (OpenSpec.upto regsReadsSpec)

/-- 'cuirasstop.WholeSpared', WHERE WHAT IT READS IS OF BULK AT MOST 1048576: true; the input reads as it did. -/
def wholeSparedUptoRow : OpenClaim := { program := "ytfhiggfmkjmeiaagreat", sum := "d7b6a9ec617c16567f354daf38b05c37428ad4c6b08a2ef6b9ced3869ddddc7e", func := "cuirass/cuirasstop.WholeSpared", spec := "wholeSpared", unfollowed := true, recurses := true, apart := false, narrowed := true }
def WholeSparedUptoSaid : Prop := wholeSparedUptoRow.holds Tryz.pinned (OpenSpec.upto wholeSparedSpec)

/-- 'cuirasstop.WholeHonest', WHERE WHAT IT READS IS OF BULK AT MOST 1048576: true; the input reads as it did. -/
def wholeHonestUptoRow : OpenClaim := { program := "ytfhiggfmkjmeiaagreat", sum := "d7b6a9ec617c16567f354daf38b05c37428ad4c6b08a2ef6b9ced3869ddddc7e", func := "cuirass/cuirasstop.WholeHonest", spec := "wholeHonest", unfollowed := true, recurses := true, apart := false, narrowed := true }
def WholeHonestUptoSaid : Prop := wholeHonestUptoRow.holds Tryz.pinned (OpenSpec.upto wholeHonestSpec)

/-- 'cuirasstop.WholeQuiet', WHERE WHAT IT READS IS OF BULK AT MOST 1048576: true; the input reads as it did. -/
def wholeQuietUptoRow : OpenClaim := { program := "ytfhiggfmkjmeiaagreat", sum := "d7b6a9ec617c16567f354daf38b05c37428ad4c6b08a2ef6b9ced3869ddddc7e", func := "cuirass/cuirasstop.WholeQuiet", spec := "wholeQuiet", unfollowed := true, recurses := true, apart := false, narrowed := true }
def WholeQuietUptoSaid : Prop := wholeQuietUptoRow.holds Tryz.pinned (OpenSpec.upto wholeQuietSpec)

/-- 'cuirasstop.WholeSparse', WHERE WHAT IT READS IS OF BULK AT MOST 1048576: true; the input reads as it did. -/
def wholeSparseUptoRow : OpenClaim := { program := "ytfhiggfmkjmeiaagreat", sum := "d7b6a9ec617c16567f354daf38b05c37428ad4c6b08a2ef6b9ced3869ddddc7e", func := "cuirass/cuirasstop.WholeSparse", spec := "wholeSparse", unfollowed := true, recurses := true, apart := false, narrowed := true }
def WholeSparseUptoSaid : Prop := wholeSparseUptoRow.holds Tryz.pinned (OpenSpec.upto wholeSparseSpec)

end Rows
end Go.Proofs.YtfhiggfmkjmeiaaGreat
