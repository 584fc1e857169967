/-
  No cell of these rows narrows 'for every input' (looked for: loops, veiled, ifaces, maps, wideKeys, modest, calm, conditions, laid).
  DERIVED. THE GIVEN ROWS OF THIS SEAT. 9 by the template 'for every input the law returns true; each argument reads behind the call as it read before'; 0 by the template 'total and deterministic' (their statements: YtoflmffbkdekcaaGreatTotals.lean).
  GIVEN WITH THE SEED: the statements are not yours to turn. If you find one false, say at which input.
  Laid BY PROGRAM, IN A SANDBOX (cutbox-rows.mjs): the forced cells as the released guide's own fill.sh prints them over the translation 3f18f52bc6f5baf8… (all of the seat's roots in one cut). By AI agents, Wed Nov 11 2026. No macro, syntax, notation, axiom, sorry.
-/
import Derived.Test.YtoflmffbkdekcaaGreatChecked
import GoSem.Claim
import GoSem.ClaimJoined
import GoSem.ClaimMapViews
import Derived.JoinedTies
import Derived.KernelRfl
namespace Go.Proofs.YtoflmffbkdekcaaGreat
/- THE CELL 'sum', in the pinned program and in every row, IS THE sha256 OF THE DUMP (.gsa) THAT YtoflmffbkdekcaaGreatProg.lean LOADS. Nothing in Lean hashes anything: it is a label: what it is worth is what the hold of that sum in a sandbox is worth. -/
noncomputable def Tryz.pinned : Pinned := { name := "ytoflmffbkdekcaagreat", sum := "3f18f52bc6f5baf8184bc6eef6404581a62a6dc32a3cfef8f4baf8191409fa2f", checked := Tryz.checked }
namespace Rows
def none {H : Type} : Left H := { results := [], args := [] }

/-- 'cuirasstop.WholeRequests': WHATEVER THE INPUT: true; the input reads as it did. -/
def wholeRequestsSpec : ChangeSpec := { name := "wholeRequests", fn := fun _ => fun
  | [d1, d2] => { results := [.lit (.bool true)], args := [d1, d2] }
  | _ => none }
def wholeRequestsRow : OpenClaim := { program := "ytoflmffbkdekcaagreat", sum := "3f18f52bc6f5baf8184bc6eef6404581a62a6dc32a3cfef8f4baf8191409fa2f", func := "cuirass/cuirasstop.WholeRequests", spec := "wholeRequests", unfollowed := true, recurses := true, apart := false }
def WholeRequestsSaid : Prop := wholeRequestsRow.holds Tryz.pinned (OpenSpec.ofChange wholeRequestsSpec)

/-- ITS FALSE NEIGHBOUR: 'it returns false'. Refute it at one input. -/
def wholeRequestsWrong : ChangeSpec := { name := "wholeRequests", fn := fun _ => fun
  | [d1, d2] => { results := [.lit (.bool false)], args := [d1, d2] }
  | _ => none }
def WholeRequestsWrongFalsely : Prop := wholeRequestsRow.holds Tryz.pinned (OpenSpec.ofChange wholeRequestsWrong)

/-- 'cuirasslaw24.MachineIdeal': WHATEVER THE INPUT: true; the input reads as it did. -/
def machineIdealSpec : ChangeSpec := { name := "machineIdeal", fn := fun _ => fun
  | [d1, d2, d3] => { results := [.lit (.bool true)], args := [d1, d2, d3] }
  | _ => none }
def machineIdealRow : OpenClaim := { program := "ytoflmffbkdekcaagreat", sum := "3f18f52bc6f5baf8184bc6eef6404581a62a6dc32a3cfef8f4baf8191409fa2f", func := "cuirass/cuirasslaw24.MachineIdeal", spec := "machineIdeal", unfollowed := true, recurses := true, apart := false }
def MachineIdealSaid : Prop := machineIdealRow.holds Tryz.pinned (OpenSpec.ofChange machineIdealSpec)

/-- ITS FALSE NEIGHBOUR: 'it returns false'. Refute it at one input. -/
def machineIdealWrong : ChangeSpec := { name := "machineIdeal", fn := fun _ => fun
  | [d1, d2, d3] => { results := [.lit (.bool false)], args := [d1, d2, d3] }
  | _ => none }
def MachineIdealWrongFalsely : Prop := machineIdealRow.holds Tryz.pinned (OpenSpec.ofChange machineIdealWrong)

/-- 'cuirasslaw24.MachineServes': WHATEVER THE INPUT: true; the input reads as it did. -/
def machineServesSpec : ChangeSpec := { name := "machineServes", fn := fun _ => fun
  | [d1, d2] => { results := [.lit (.bool true)], args := [d1, d2] }
  | _ => none }
def machineServesRow : OpenClaim := { program := "ytoflmffbkdekcaagreat", sum := "3f18f52bc6f5baf8184bc6eef6404581a62a6dc32a3cfef8f4baf8191409fa2f", func := "cuirass/cuirasslaw24.MachineServes", spec := "machineServes", unfollowed := true, recurses := true, apart := false }
def MachineServesSaid : Prop := machineServesRow.holds Tryz.pinned (OpenSpec.ofChange machineServesSpec)

/-- ITS FALSE NEIGHBOUR: 'it returns false'. Refute it at one input. -/
def machineServesWrong : ChangeSpec := { name := "machineServes", fn := fun _ => fun
  | [d1, d2] => { results := [.lit (.bool false)], args := [d1, d2] }
  | _ => none }
def MachineServesWrongFalsely : Prop := machineServesRow.holds Tryz.pinned (OpenSpec.ofChange machineServesWrong)

/-- 'cuirasslaw24.MachineSteps': WHATEVER THE INPUT: true; the input reads as it did. -/
def machineStepsSpec : ChangeSpec := { name := "machineSteps", fn := fun _ => fun
  | [d1, d2, d3] => { results := [.lit (.bool true)], args := [d1, d2, d3] }
  | _ => none }
def machineStepsRow : OpenClaim := { program := "ytoflmffbkdekcaagreat", sum := "3f18f52bc6f5baf8184bc6eef6404581a62a6dc32a3cfef8f4baf8191409fa2f", func := "cuirass/cuirasslaw24.MachineSteps", spec := "machineSteps", unfollowed := true, recurses := true, apart := false }
def MachineStepsSaid : Prop := machineStepsRow.holds Tryz.pinned (OpenSpec.ofChange machineStepsSpec)

/-- ITS FALSE NEIGHBOUR: 'it returns false'. Refute it at one input. -/
def machineStepsWrong : ChangeSpec := { name := "machineSteps", fn := fun _ => fun
  | [d1, d2, d3] => { results := [.lit (.bool false)], args := [d1, d2, d3] }
  | _ => none }
def MachineStepsWrongFalsely : Prop := machineStepsRow.holds Tryz.pinned (OpenSpec.ofChange machineStepsWrong)

/-- 'cuirasslaw25.JudgeLooks': WHATEVER THE INPUT: true; the input reads as it did. -/
def judgeLooksSpec : ChangeSpec := { name := "judgeLooks", fn := fun _ => fun
  | [d1, d2, d3, d4, d5] => { results := [.lit (.bool true)], args := [d1, d2, d3, d4, d5] }
  | _ => none }
def judgeLooksRow : OpenClaim := { program := "ytoflmffbkdekcaagreat", sum := "3f18f52bc6f5baf8184bc6eef6404581a62a6dc32a3cfef8f4baf8191409fa2f", func := "cuirass/cuirasslaw25.JudgeLooks", spec := "judgeLooks", unfollowed := true, recurses := true, apart := false }
def JudgeLooksSaid : Prop := judgeLooksRow.holds Tryz.pinned (OpenSpec.ofChange judgeLooksSpec)

/-- ITS FALSE NEIGHBOUR: 'it returns false'. Refute it at one input. -/
def judgeLooksWrong : ChangeSpec := { name := "judgeLooks", fn := fun _ => fun
  | [d1, d2, d3, d4, d5] => { results := [.lit (.bool false)], args := [d1, d2, d3, d4, d5] }
  | _ => none }
def JudgeLooksWrongFalsely : Prop := judgeLooksRow.holds Tryz.pinned (OpenSpec.ofChange judgeLooksWrong)

/-- 'cuirasslaw25.JudgeSparse': WHATEVER THE INPUT: true; the input reads as it did. -/
def judgeSparseSpec : ChangeSpec := { name := "judgeSparse", fn := fun _ => fun
  | [d1, d2, d3, d4, d5] => { results := [.lit (.bool true)], args := [d1, d2, d3, d4, d5] }
  | _ => none }
def judgeSparseRow : OpenClaim := { program := "ytoflmffbkdekcaagreat", sum := "3f18f52bc6f5baf8184bc6eef6404581a62a6dc32a3cfef8f4baf8191409fa2f", func := "cuirass/cuirasslaw25.JudgeSparse", spec := "judgeSparse", unfollowed := true, recurses := true, apart := false }
def JudgeSparseSaid : Prop := judgeSparseRow.holds Tryz.pinned (OpenSpec.ofChange judgeSparseSpec)

/-- ITS FALSE NEIGHBOUR: 'it returns false'. Refute it at one input. -/
def judgeSparseWrong : ChangeSpec := { name := "judgeSparse", fn := fun _ => fun
  | [d1, d2, d3, d4, d5] => { results := [.lit (.bool false)], args := [d1, d2, d3, d4, d5] }
  | _ => none }
def JudgeSparseWrongFalsely : Prop := judgeSparseRow.holds Tryz.pinned (OpenSpec.ofChange judgeSparseWrong)

/-- 'cuirasslaw25.JudgeAnswers': WHATEVER THE INPUT: true; the input reads as it did. -/
def judgeAnswersSpec : ChangeSpec := { name := "judgeAnswers", fn := fun _ => fun
  | [d1, d2] => { results := [.lit (.bool true)], args := [d1, d2] }
  | _ => none }
def judgeAnswersRow : OpenClaim := { program := "ytoflmffbkdekcaagreat", sum := "3f18f52bc6f5baf8184bc6eef6404581a62a6dc32a3cfef8f4baf8191409fa2f", func := "cuirass/cuirasslaw25.JudgeAnswers", spec := "judgeAnswers", unfollowed := true, recurses := true, apart := false }
def JudgeAnswersSaid : Prop := judgeAnswersRow.holds Tryz.pinned (OpenSpec.ofChange judgeAnswersSpec)

/-- ITS FALSE NEIGHBOUR: 'it returns false'. Refute it at one input. -/
def judgeAnswersWrong : ChangeSpec := { name := "judgeAnswers", fn := fun _ => fun
  | [d1, d2] => { results := [.lit (.bool false)], args := [d1, d2] }
  | _ => none }
def JudgeAnswersWrongFalsely : Prop := judgeAnswersRow.holds Tryz.pinned (OpenSpec.ofChange judgeAnswersWrong)

/-- 'cuirasslaw25.JudgeHeads': WHATEVER THE INPUT: true; the input reads as it did. -/
def judgeHeadsSpec : ChangeSpec := { name := "judgeHeads", fn := fun _ => fun
  | [d1, d2, d3] => { results := [.lit (.bool true)], args := [d1, d2, d3] }
  | _ => none }
def judgeHeadsRow : OpenClaim := { program := "ytoflmffbkdekcaagreat", sum := "3f18f52bc6f5baf8184bc6eef6404581a62a6dc32a3cfef8f4baf8191409fa2f", func := "cuirass/cuirasslaw25.JudgeHeads", spec := "judgeHeads", unfollowed := true, recurses := true, apart := false }
def JudgeHeadsSaid : Prop := judgeHeadsRow.holds Tryz.pinned (OpenSpec.ofChange judgeHeadsSpec)

/-- ITS FALSE NEIGHBOUR: 'it returns false'. Refute it at one input. -/
def judgeHeadsWrong : ChangeSpec := { name := "judgeHeads", fn := fun _ => fun
  | [d1, d2, d3] => { results := [.lit (.bool false)], args := [d1, d2, d3] }
  | _ => none }
def JudgeHeadsWrongFalsely : Prop := judgeHeadsRow.holds Tryz.pinned (OpenSpec.ofChange judgeHeadsWrong)

/-- 'cuirasstop.WholeFolds': WHATEVER THE INPUT: true; the input reads as it did. -/
def wholeFoldsSpec : ChangeSpec := { name := "wholeFolds", fn := fun _ => fun
  | [d1, d2] => { results := [.lit (.bool true)], args := [d1, d2] }
  | _ => none }
def wholeFoldsRow : OpenClaim := { program := "ytoflmffbkdekcaagreat", sum := "3f18f52bc6f5baf8184bc6eef6404581a62a6dc32a3cfef8f4baf8191409fa2f", func := "cuirass/cuirasstop.WholeFolds", spec := "wholeFolds", unfollowed := true, recurses := true, apart := false }
def WholeFoldsSaid : Prop := wholeFoldsRow.holds Tryz.pinned (OpenSpec.ofChange wholeFoldsSpec)

/-- ITS FALSE NEIGHBOUR: 'it returns false'. Refute it at one input. -/
def wholeFoldsWrong : ChangeSpec := { name := "wholeFolds", fn := fun _ => fun
  | [d1, d2] => { results := [.lit (.bool false)], args := [d1, d2] }
  | _ => none }
def WholeFoldsWrongFalsely : Prop := wholeFoldsRow.holds Tryz.pinned (OpenSpec.ofChange wholeFoldsWrong)

/- THE SECOND FORM. 'bulk': how many values and letters a reading holds, each counted each time it is reached (what is shared counts as often as it is met; a slice's spare places count too). A statement '..UptoSaid' is the law's where the arguments, and the package variables that the reading takes, are together of bulk at most 1048576: NARROWER than '..Said'. Prove '..Said' where nothing that the law and all that it calls make is longer than what came in: it says more and counts as full. Else prove '..UptoSaid'. A law counts once. -/
mutual
def uptoBulk {H : Type} : DataW H → Nat
  | .lit (.string bytes) => bytes.length + 1
  | .lit _ => 1
  | .nil => 1
  | .ptr d => uptoBulk d + 1
  | .slice elems spare => uptoBulkAll elems + uptoBulkAll spare + 1
  | .agg parts => uptoBulkAll parts + 1
  | .iface _ d => uptoBulk d + 1
  | .map entries => uptoBulkEntries entries + 1
  | .held _ => 1
def uptoBulkAll {H : Type} : List (DataW H) → Nat
  | [] => 0
  | d :: r => uptoBulk d + uptoBulkAll r
def uptoBulkEntries {H : Type} : List (Lit × DataW H) → Nat
  | [] => 0
  | x :: r => uptoBulkEntry x + uptoBulkEntries r
def uptoBulkEntry {H : Type} : Lit × DataW H → Nat
  | (.string bytes, d) => bytes.length + uptoBulk d + 1
  | (_, d) => uptoBulk d + 1
 end
def uptoSmall : (H : Type) → List (DataW H) → Bool := fun _ ds => decide (uptoBulkAll ds ≤ 1048576)
def OpenSpec.upto (s : _root_.Go.ChangeSpec) : _root_.Go.OpenSpec := { _root_.Go.OpenSpec.ofChange s with cond := some uptoSmall }

/-- 'cuirasstop.WholeRequests', WHERE WHAT IT READS IS OF BULK AT MOST 1048576: true; the input reads as it did. -/
def wholeRequestsUptoRow : OpenClaim := { program := "ytoflmffbkdekcaagreat", sum := "3f18f52bc6f5baf8184bc6eef6404581a62a6dc32a3cfef8f4baf8191409fa2f", func := "cuirass/cuirasstop.WholeRequests", spec := "wholeRequests", unfollowed := true, recurses := true, apart := false, narrowed := true }
def WholeRequestsUptoSaid : Prop := wholeRequestsUptoRow.holds Tryz.pinned (OpenSpec.upto wholeRequestsSpec)

/-- 'cuirasslaw24.MachineIdeal', WHERE WHAT IT READS IS OF BULK AT MOST 1048576: true; the input reads as it did. -/
def machineIdealUptoRow : OpenClaim := { program := "ytoflmffbkdekcaagreat", sum := "3f18f52bc6f5baf8184bc6eef6404581a62a6dc32a3cfef8f4baf8191409fa2f", func := "cuirass/cuirasslaw24.MachineIdeal", spec := "machineIdeal", unfollowed := true, recurses := true, apart := false, narrowed := true }
def MachineIdealUptoSaid : Prop := machineIdealUptoRow.holds Tryz.pinned (OpenSpec.upto machineIdealSpec)

/-- 'cuirasslaw24.MachineServes', WHERE WHAT IT READS IS OF BULK AT MOST 1048576: true; the input reads as it did. -/
def machineServesUptoRow : OpenClaim := { program := "ytoflmffbkdekcaagreat", sum := "3f18f52bc6f5baf8184bc6eef6404581a62a6dc32a3cfef8f4baf8191409fa2f", func := "cuirass/cuirasslaw24.MachineServes", spec := "machineServes", unfollowed := true, recurses := true, apart := false, narrowed := true }
def MachineServesUptoSaid : Prop := machineServesUptoRow.holds Tryz.pinned (OpenSpec.upto machineServesSpec)

/-- 'cuirasslaw24.MachineSteps', WHERE WHAT IT READS IS OF BULK AT MOST 1048576: true; the input reads as it did. -/
def machineStepsUptoRow : OpenClaim := { program := "ytoflmffbkdekcaagreat", sum := "3f18f52bc6f5baf8184bc6eef6404581a62a6dc32a3cfef8f4baf8191409fa2f", func := "cuirass/cuirasslaw24.MachineSteps", spec := "machineSteps", unfollowed := true, recurses := true, apart := false, narrowed := true }
def MachineStepsUptoSaid : Prop := machineStepsUptoRow.holds Tryz.pinned (OpenSpec.upto machineStepsSpec)

/-- 'cuirasslaw25.JudgeLooks', WHERE WHAT IT READS IS OF BULK AT MOST 1048576: true; the input reads as it did. -/
def judgeLooksUptoRow : OpenClaim := { program := "ytoflmffbkdekcaagreat", sum := "3f18f52bc6f5baf8184bc6eef6404581a62a6dc32a3cfef8f4baf8191409fa2f", func := "cuirass/cuirasslaw25.JudgeLooks", spec := "judgeLooks", unfollowed := true, recurses := true, apart := false, narrowed := true }
def JudgeLooksUptoSaid : Prop := judgeLooksUptoRow.holds Tryz.pinned (OpenSpec.upto judgeLooksSpec)

/-- 'cuirasslaw25.JudgeSparse', WHERE WHAT IT READS IS OF BULK AT MOST 1048576: true; the input reads as it did. -/
def judgeSparseUptoRow : OpenClaim := { program := "ytoflmffbkdekcaagreat", sum := "3f18f52bc6f5baf8184bc6eef6404581a62a6dc32a3cfef8f4baf8191409fa2f", func := "cuirass/cuirasslaw25.JudgeSparse", spec := "judgeSparse", unfollowed := true, recurses := true, apart := false, narrowed := true }
def JudgeSparseUptoSaid : Prop := judgeSparseUptoRow.holds Tryz.pinned (OpenSpec.upto judgeSparseSpec)

/-- 'cuirasslaw25.JudgeAnswers', WHERE WHAT IT READS IS OF BULK AT MOST 1048576: true; the input reads as it did. -/
def judgeAnswersUptoRow : OpenClaim := { program := "ytoflmffbkdekcaagreat", sum := "3f18f52bc6f5baf8184bc6eef6404581a62a6dc32a3cfef8f4baf8191409fa2f", func := "cuirass/cuirasslaw25.JudgeAnswers", spec := "judgeAnswers", unfollowed := true, recurses := true, apart := false, narrowed := true }
def JudgeAnswersUptoSaid : Prop := judgeAnswersUptoRow.holds Tryz.pinned (OpenSpec.upto judgeAnswersSpec)

/-- 'cuirasslaw25.JudgeHeads', WHERE WHAT IT READS IS OF BULK AT MOST 1048576: true; the input reads as it did. -/
def judgeHeadsUptoRow : OpenClaim := { program := "ytoflmffbkdekcaagreat", sum := "3f18f52bc6f5baf8184bc6eef6404581a62a6dc32a3cfef8f4baf8191409fa2f", func := "cuirass/cuirasslaw25.JudgeHeads", spec := "judgeHeads", unfollowed := true, recurses := true, apart := false, narrowed := true }
def JudgeHeadsUptoSaid : Prop := judgeHeadsUptoRow.holds Tryz.pinned (OpenSpec.upto judgeHeadsSpec)

/-- 'cuirasstop.WholeFolds', WHERE WHAT IT READS IS OF BULK AT MOST 1048576: true; the input reads as it did. -/
def wholeFoldsUptoRow : OpenClaim := { program := "ytoflmffbkdekcaagreat", sum := "3f18f52bc6f5baf8184bc6eef6404581a62a6dc32a3cfef8f4baf8191409fa2f", func := "cuirass/cuirasstop.WholeFolds", spec := "wholeFolds", unfollowed := true, recurses := true, apart := false, narrowed := true }
def WholeFoldsUptoSaid : Prop := wholeFoldsUptoRow.holds Tryz.pinned (OpenSpec.upto wholeFoldsSpec)

end Rows
end Go.Proofs.YtoflmffbkdekcaaGreat
