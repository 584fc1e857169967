/-
  No cell of these rows narrows 'for every input' (looked for: loops, veiled, ifaces, maps, wideKeys, modest, calm, conditions, laid).
  DERIVED. THE GIVEN ROWS OF THIS SEAT. 7 by the template 'for every input the law returns true; each argument reads behind the call as it read before'; 0 by the template 'total and deterministic' (their statements: YtpeefnbcgilihaaTotals.lean).
  GIVEN WITH THE SEED: the statements are not yours to turn. If you find one false, say at which input.
  Laid BY PROGRAM, IN A SANDBOX (cutbox-rows.mjs): the forced cells as the released guide's own fill.sh prints them over the translation f0ca8374e0430af8… (all of the seat's roots in one cut). By AI agents, Wed Nov 11 2026. No macro, syntax, notation, axiom, sorry.
-/
import Derived.Test.YtpeefnbcgilihaaChecked
import GoSem.Claim
import GoSem.ClaimJoined
import GoSem.ClaimMapViews
import Derived.JoinedTies
import Derived.KernelRfl
namespace Go.Proofs.Ytpeefnbcgilihaa
/- THE CELL 'sum', in the pinned program and in every row, IS THE sha256 OF THE DUMP (.gsa) THAT YtpeefnbcgilihaaProg.lean LOADS. Nothing in Lean hashes anything: it is a label: what it is worth is what the hold of that sum in a sandbox is worth. -/
noncomputable def Try.pinned : Pinned := { name := "ytpeefnbcgilihaa", sum := "f0ca8374e0430af8a22e941bbf3571298350be0e6ff55b4d2e3ba2e27b735bb9", checked := Try.checked }
namespace Rows
def none {H : Type} : Left H := { results := [], args := [] }

/-- 'cuirasslaw17.RecordGrave': WHATEVER THE INPUT: true; the input reads as it did. -/
def recordGraveSpec : ChangeSpec := { name := "recordGrave", fn := fun _ => fun
  | [d1, d2] => { results := [.lit (.bool true)], args := [d1, d2] }
  | _ => none }
def recordGraveRow : OpenClaim := { program := "ytpeefnbcgilihaa", sum := "f0ca8374e0430af8a22e941bbf3571298350be0e6ff55b4d2e3ba2e27b735bb9", func := "cuirass/cuirasslaw17.RecordGrave", spec := "recordGrave", unfollowed := true, recurses := true, apart := false }
def RecordGraveSaid : Prop := recordGraveRow.holds Try.pinned (OpenSpec.ofChange recordGraveSpec)

/-- ITS FALSE NEIGHBOUR: 'it returns false'. Refute it at one input. -/
def recordGraveWrong : ChangeSpec := { name := "recordGrave", fn := fun _ => fun
  | [d1, d2] => { results := [.lit (.bool false)], args := [d1, d2] }
  | _ => none }
def RecordGraveWrongFalsely : Prop := recordGraveRow.holds Try.pinned (OpenSpec.ofChange recordGraveWrong)

/-- 'cuirasslaw17.RecordFirst': WHATEVER THE INPUT: true; the input reads as it did. -/
def recordFirstSpec : ChangeSpec := { name := "recordFirst", fn := fun _ => fun
  | [d1, d2, d3] => { results := [.lit (.bool true)], args := [d1, d2, d3] }
  | _ => none }
def recordFirstRow : OpenClaim := { program := "ytpeefnbcgilihaa", sum := "f0ca8374e0430af8a22e941bbf3571298350be0e6ff55b4d2e3ba2e27b735bb9", func := "cuirass/cuirasslaw17.RecordFirst", spec := "recordFirst", unfollowed := true, recurses := true, apart := false }
def RecordFirstSaid : Prop := recordFirstRow.holds Try.pinned (OpenSpec.ofChange recordFirstSpec)

/-- ITS FALSE NEIGHBOUR: 'it returns false'. Refute it at one input. -/
def recordFirstWrong : ChangeSpec := { name := "recordFirst", fn := fun _ => fun
  | [d1, d2, d3] => { results := [.lit (.bool false)], args := [d1, d2, d3] }
  | _ => none }
def RecordFirstWrongFalsely : Prop := recordFirstRow.holds Try.pinned (OpenSpec.ofChange recordFirstWrong)

/-- 'cuirasslaw17.RecordLogs': WHATEVER THE INPUT: true; the input reads as it did. -/
def recordLogsSpec : ChangeSpec := { name := "recordLogs", fn := fun _ => fun
  | [d1, d2, d3] => { results := [.lit (.bool true)], args := [d1, d2, d3] }
  | _ => none }
def recordLogsRow : OpenClaim := { program := "ytpeefnbcgilihaa", sum := "f0ca8374e0430af8a22e941bbf3571298350be0e6ff55b4d2e3ba2e27b735bb9", func := "cuirass/cuirasslaw17.RecordLogs", spec := "recordLogs", unfollowed := true, recurses := true, apart := false }
def RecordLogsSaid : Prop := recordLogsRow.holds Try.pinned (OpenSpec.ofChange recordLogsSpec)

/-- ITS FALSE NEIGHBOUR: 'it returns false'. Refute it at one input. -/
def recordLogsWrong : ChangeSpec := { name := "recordLogs", fn := fun _ => fun
  | [d1, d2, d3] => { results := [.lit (.bool false)], args := [d1, d2, d3] }
  | _ => none }
def RecordLogsWrongFalsely : Prop := recordLogsRow.holds Try.pinned (OpenSpec.ofChange recordLogsWrong)

/-- 'cuirasslaw17.RecordRestores': WHATEVER THE INPUT: true; the input reads as it did. -/
def recordRestoresSpec : ChangeSpec := { name := "recordRestores", fn := fun _ => fun
  | [d1, d2, d3, d4] => { results := [.lit (.bool true)], args := [d1, d2, d3, d4] }
  | _ => none }
def recordRestoresRow : OpenClaim := { program := "ytpeefnbcgilihaa", sum := "f0ca8374e0430af8a22e941bbf3571298350be0e6ff55b4d2e3ba2e27b735bb9", func := "cuirass/cuirasslaw17.RecordRestores", spec := "recordRestores", unfollowed := true, recurses := true, apart := false }
def RecordRestoresSaid : Prop := recordRestoresRow.holds Try.pinned (OpenSpec.ofChange recordRestoresSpec)

/-- ITS FALSE NEIGHBOUR: 'it returns false'. Refute it at one input. -/
def recordRestoresWrong : ChangeSpec := { name := "recordRestores", fn := fun _ => fun
  | [d1, d2, d3, d4] => { results := [.lit (.bool false)], args := [d1, d2, d3, d4] }
  | _ => none }
def RecordRestoresWrongFalsely : Prop := recordRestoresRow.holds Try.pinned (OpenSpec.ofChange recordRestoresWrong)

/-- 'cuirasslaw16.TableRoom': WHATEVER THE INPUT: true; the input reads as it did. -/
def tableRoomSpec : ChangeSpec := { name := "tableRoom", fn := fun _ => fun
  | [d1, d2] => { results := [.lit (.bool true)], args := [d1, d2] }
  | _ => none }
def tableRoomRow : OpenClaim := { program := "ytpeefnbcgilihaa", sum := "f0ca8374e0430af8a22e941bbf3571298350be0e6ff55b4d2e3ba2e27b735bb9", func := "cuirass/cuirasslaw16.TableRoom", spec := "tableRoom", unfollowed := true, recurses := true, apart := false }
def TableRoomSaid : Prop := tableRoomRow.holds Try.pinned (OpenSpec.ofChange tableRoomSpec)

/-- ITS FALSE NEIGHBOUR: 'it returns false'. Refute it at one input. -/
def tableRoomWrong : ChangeSpec := { name := "tableRoom", fn := fun _ => fun
  | [d1, d2] => { results := [.lit (.bool false)], args := [d1, d2] }
  | _ => none }
def TableRoomWrongFalsely : Prop := tableRoomRow.holds Try.pinned (OpenSpec.ofChange tableRoomWrong)

/-- 'cuirasslaw16.TableHeavy': WHATEVER THE INPUT: true; the input reads as it did. -/
def tableHeavySpec : ChangeSpec := { name := "tableHeavy", fn := fun _ => fun
  | [d1, d2, d3] => { results := [.lit (.bool true)], args := [d1, d2, d3] }
  | _ => none }
def tableHeavyRow : OpenClaim := { program := "ytpeefnbcgilihaa", sum := "f0ca8374e0430af8a22e941bbf3571298350be0e6ff55b4d2e3ba2e27b735bb9", func := "cuirass/cuirasslaw16.TableHeavy", spec := "tableHeavy", unfollowed := true, recurses := true, apart := false }
def TableHeavySaid : Prop := tableHeavyRow.holds Try.pinned (OpenSpec.ofChange tableHeavySpec)

/-- ITS FALSE NEIGHBOUR: 'it returns false'. Refute it at one input. -/
def tableHeavyWrong : ChangeSpec := { name := "tableHeavy", fn := fun _ => fun
  | [d1, d2, d3] => { results := [.lit (.bool false)], args := [d1, d2, d3] }
  | _ => none }
def TableHeavyWrongFalsely : Prop := tableHeavyRow.holds Try.pinned (OpenSpec.ofChange tableHeavyWrong)

/-- 'cuirasslaw16.TablePlays': WHATEVER THE INPUT: true; the input reads as it did. -/
def tablePlaysSpec : ChangeSpec := { name := "tablePlays", fn := fun _ => fun
  | [d1, d2, d3, d4] => { results := [.lit (.bool true)], args := [d1, d2, d3, d4] }
  | _ => none }
def tablePlaysRow : OpenClaim := { program := "ytpeefnbcgilihaa", sum := "f0ca8374e0430af8a22e941bbf3571298350be0e6ff55b4d2e3ba2e27b735bb9", func := "cuirass/cuirasslaw16.TablePlays", spec := "tablePlays", unfollowed := true, recurses := true, apart := false }
def TablePlaysSaid : Prop := tablePlaysRow.holds Try.pinned (OpenSpec.ofChange tablePlaysSpec)

/-- ITS FALSE NEIGHBOUR: 'it returns false'. Refute it at one input. -/
def tablePlaysWrong : ChangeSpec := { name := "tablePlays", fn := fun _ => fun
  | [d1, d2, d3, d4] => { results := [.lit (.bool false)], args := [d1, d2, d3, d4] }
  | _ => none }
def TablePlaysWrongFalsely : Prop := tablePlaysRow.holds Try.pinned (OpenSpec.ofChange tablePlaysWrong)

/- THE SECOND FORM. 'bulk': how many values and letters a reading holds, each counted each time it is reached (what is shared counts as often as it is met; a slice's spare places count too). A statement '..UptoSaid' is the law's where the arguments, and the package variables that the reading takes, are together of bulk at most 1048576: NARROWER than '..Said'. Prove '..Said' where nothing that the law and all that it calls make is longer than what came in: it says more and counts as full. Else prove '..UptoSaid'. A law counts once. -/
mutual
def uptoBulk {H : Type} : DataW H → Nat
  | .lit (.string bytes) => bytes.length + 1
  | .lit _ => 1
  | .nil => 1
  | .ptr d => uptoBulk d + 1
  | .slice elems spare => uptoBulkAll elems + uptoBulkAll spare + 1
  | .agg parts => uptoBulkAll parts + 1
  | .iface _ d => uptoBulk d + 1
  | .map entries => uptoBulkEntries entries + 1
  | .held _ => 1
def uptoBulkAll {H : Type} : List (DataW H) → Nat
  | [] => 0
  | d :: r => uptoBulk d + uptoBulkAll r
def uptoBulkEntries {H : Type} : List (Lit × DataW H) → Nat
  | [] => 0
  | x :: r => uptoBulkEntry x + uptoBulkEntries r
def uptoBulkEntry {H : Type} : Lit × DataW H → Nat
  | (.string bytes, d) => bytes.length + uptoBulk d + 1
  | (_, d) => uptoBulk d + 1
 end
def uptoSmall : (H : Type) → List (DataW H) → Bool := fun _ ds => decide (uptoBulkAll ds ≤ 1048576)
def OpenSpec.upto (s : _root_.Go.ChangeSpec) : _root_.Go.OpenSpec := { _root_.Go.OpenSpec.ofChange s with cond := some uptoSmall }

/-- 'cuirasslaw17.RecordGrave', WHERE WHAT IT READS IS OF BULK AT MOST 1048576: true; the input reads as it did. -/
def recordGraveUptoRow : OpenClaim := { program := "ytpeefnbcgilihaa", sum := "f0ca8374e0430af8a22e941bbf3571298350be0e6ff55b4d2e3ba2e27b735bb9", func := "cuirass/cuirasslaw17.RecordGrave", spec := "recordGrave", unfollowed := true, recurses := true, apart := false, narrowed := true }
def RecordGraveUptoSaid : Prop := recordGraveUptoRow.holds Try.pinned (OpenSpec.upto recordGraveSpec)

/-- 'cuirasslaw17.RecordFirst', WHERE WHAT IT READS IS OF BULK AT MOST 1048576: true; the input reads as it did. -/
def recordFirstUptoRow : OpenClaim := { program := "ytpeefnbcgilihaa", sum := "f0ca8374e0430af8a22e941bbf3571298350be0e6ff55b4d2e3ba2e27b735bb9", func := "cuirass/cuirasslaw17.RecordFirst", spec := "recordFirst", unfollowed := true, recurses := true, apart := false, narrowed := true }
def RecordFirstUptoSaid : Prop := recordFirstUptoRow.holds Try.pinned (OpenSpec.upto recordFirstSpec)

/-- 'cuirasslaw17.RecordLogs', WHERE WHAT IT READS IS OF BULK AT MOST 1048576: true; the input reads as it did. -/
def recordLogsUptoRow : OpenClaim := { program := "ytpeefnbcgilihaa", sum := "f0ca8374e0430af8a22e941bbf3571298350be0e6ff55b4d2e3ba2e27b735bb9", func := "cuirass/cuirasslaw17.RecordLogs", spec := "recordLogs", unfollowed := true, recurses := true, apart := false, narrowed := true }
def RecordLogsUptoSaid : Prop := recordLogsUptoRow.holds Try.pinned (OpenSpec.upto recordLogsSpec)

/-- 'cuirasslaw17.RecordRestores', WHERE WHAT IT READS IS OF BULK AT MOST 1048576: true; the input reads as it did. -/
def recordRestoresUptoRow : OpenClaim := { program := "ytpeefnbcgilihaa", sum := "f0ca8374e0430af8a22e941bbf3571298350be0e6ff55b4d2e3ba2e27b735bb9", func := "cuirass/cuirasslaw17.RecordRestores", spec := "recordRestores", unfollowed := true, recurses := true, apart := false, narrowed := true }
def RecordRestoresUptoSaid : Prop := recordRestoresUptoRow.holds Try.pinned (OpenSpec.upto recordRestoresSpec)

/-- 'cuirasslaw16.TableRoom', WHERE WHAT IT READS IS OF BULK AT MOST 1048576: true; the input reads as it did. -/
def tableRoomUptoRow : OpenClaim := { program := "ytpeefnbcgilihaa", sum := "f0ca8374e0430af8a22e941bbf3571298350be0e6ff55b4d2e3ba2e27b735bb9", func := "cuirass/cuirasslaw16.TableRoom", spec := "tableRoom", unfollowed := true, recurses := true, apart := false, narrowed := true }
def TableRoomUptoSaid : Prop := tableRoomUptoRow.holds Try.pinned (OpenSpec.upto tableRoomSpec)

/-- 'cuirasslaw16.TableHeavy', WHERE WHAT IT READS IS OF BULK AT MOST 1048576: true; the input reads as it did. -/
def tableHeavyUptoRow : OpenClaim := { program := "ytpeefnbcgilihaa", sum := "f0ca8374e0430af8a22e941bbf3571298350be0e6ff55b4d2e3ba2e27b735bb9", func := "cuirass/cuirasslaw16.TableHeavy", spec := "tableHeavy", unfollowed := true, recurses := true, apart := false, narrowed := true }
def TableHeavyUptoSaid : Prop := tableHeavyUptoRow.holds Try.pinned (OpenSpec.upto tableHeavySpec)

/-- 'cuirasslaw16.TablePlays', WHERE WHAT IT READS IS OF BULK AT MOST 1048576: true; the input reads as it did. -/
def tablePlaysUptoRow : OpenClaim := { program := "ytpeefnbcgilihaa", sum := "f0ca8374e0430af8a22e941bbf3571298350be0e6ff55b4d2e3ba2e27b735bb9", func := "cuirass/cuirasslaw16.TablePlays", spec := "tablePlays", unfollowed := true, recurses := true, apart := false, narrowed := true }
def TablePlaysUptoSaid : Prop := tablePlaysUptoRow.holds Try.pinned (OpenSpec.upto tablePlaysSpec)

end Rows
end Go.Proofs.Ytpeefnbcgilihaa
