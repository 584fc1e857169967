/-
  No cell of these rows narrows 'for every input' (looked for: loops, veiled, ifaces, maps, wideKeys, modest, calm, conditions, laid).
  DERIVED. THE GIVEN ROWS OF THIS SEAT. 12 by the template 'for every input the law returns true; each argument reads behind the call as it read before'; 0 by the template 'total and deterministic' (their statements: YthmbiddnpogolaaTotals.lean).
  GIVEN WITH THE SEED: the statements are not yours to turn. If you find one false, say at which input.
  Laid BY PROGRAM, IN A SANDBOX (cutbox-rows.mjs): the forced cells as the released guide's own fill.sh prints them over the translation 3ecbe66e97e78291… (all of the seat's roots in one cut). By AI agents, Wed Nov 11 2026. No macro, syntax, notation, axiom, sorry.
-/
import Derived.Test.YthmbiddnpogolaaChecked
import GoSem.Claim
import GoSem.ClaimJoined
import GoSem.ClaimMapViews
import Derived.JoinedTies
import Derived.KernelRfl
namespace Go.Proofs.Ythmbiddnpogolaa
/- THE CELL 'sum', in the pinned program and in every row, IS THE sha256 OF THE DUMP (.gsa) THAT YthmbiddnpogolaaProg.lean LOADS. Nothing in Lean hashes anything: it is a label: what it is worth is what the hold of that sum in a sandbox is worth. -/
noncomputable def Try.pinned : Pinned := { name := "ythmbiddnpogolaa", sum := "3ecbe66e97e78291fa872a35bb46fe45cab53009d94c01ae4a69204da49d571d", checked := Try.checked }
namespace Rows
def none {H : Type} : Left H := { results := [], args := [] }

/-- 'cuirasslaw26.RegsFields': WHATEVER THE INPUT: true; the input reads as it did. -/
def regsFieldsSpec : ChangeSpec := { name := "regsFields", fn := fun _ => fun
  | [d1, d2, d3, d4, d5, d6] => { results := [.lit (.bool true)], args := [d1, d2, d3, d4, d5, d6] }
  | _ => none }
def regsFieldsRow : OpenClaim := { program := "ythmbiddnpogolaa", sum := "3ecbe66e97e78291fa872a35bb46fe45cab53009d94c01ae4a69204da49d571d", func := "cuirass/cuirasslaw26.RegsFields", spec := "regsFields", apart := false }
def RegsFieldsSaid : Prop := regsFieldsRow.holds Try.pinned (OpenSpec.ofChange regsFieldsSpec)

/-- ITS FALSE NEIGHBOUR: 'it returns false'. Refute it at one input. -/
def regsFieldsWrong : ChangeSpec := { name := "regsFields", fn := fun _ => fun
  | [d1, d2, d3, d4, d5, d6] => { results := [.lit (.bool false)], args := [d1, d2, d3, d4, d5, d6] }
  | _ => none }
def RegsFieldsWrongFalsely : Prop := regsFieldsRow.holds Try.pinned (OpenSpec.ofChange regsFieldsWrong)

/-- 'cuirasslaw15.BucketFills': WHATEVER THE INPUT: true; the input reads as it did. -/
def bucketFillsSpec : ChangeSpec := { name := "bucketFills", fn := fun _ => fun
  | [d1, d2, d3] => { results := [.lit (.bool true)], args := [d1, d2, d3] }
  | _ => none }
def bucketFillsRow : OpenClaim := { program := "ythmbiddnpogolaa", sum := "3ecbe66e97e78291fa872a35bb46fe45cab53009d94c01ae4a69204da49d571d", func := "cuirass/cuirasslaw15.BucketFills", spec := "bucketFills", apart := false }
def BucketFillsSaid : Prop := bucketFillsRow.holds Try.pinned (OpenSpec.ofChange bucketFillsSpec)

/-- ITS FALSE NEIGHBOUR: 'it returns false'. Refute it at one input. -/
def bucketFillsWrong : ChangeSpec := { name := "bucketFills", fn := fun _ => fun
  | [d1, d2, d3] => { results := [.lit (.bool false)], args := [d1, d2, d3] }
  | _ => none }
def BucketFillsWrongFalsely : Prop := bucketFillsRow.holds Try.pinned (OpenSpec.ofChange bucketFillsWrong)

/-- 'cuirasslaw15.BucketTicks': WHATEVER THE INPUT: true; the input reads as it did. -/
def bucketTicksSpec : ChangeSpec := { name := "bucketTicks", fn := fun _ => fun
  | [d1, d2, d3] => { results := [.lit (.bool true)], args := [d1, d2, d3] }
  | _ => none }
def bucketTicksRow : OpenClaim := { program := "ythmbiddnpogolaa", sum := "3ecbe66e97e78291fa872a35bb46fe45cab53009d94c01ae4a69204da49d571d", func := "cuirass/cuirasslaw15.BucketTicks", spec := "bucketTicks", apart := false }
def BucketTicksSaid : Prop := bucketTicksRow.holds Try.pinned (OpenSpec.ofChange bucketTicksSpec)

/-- ITS FALSE NEIGHBOUR: 'it returns false'. Refute it at one input. -/
def bucketTicksWrong : ChangeSpec := { name := "bucketTicks", fn := fun _ => fun
  | [d1, d2, d3] => { results := [.lit (.bool false)], args := [d1, d2, d3] }
  | _ => none }
def BucketTicksWrongFalsely : Prop := bucketTicksRow.holds Try.pinned (OpenSpec.ofChange bucketTicksWrong)

/-- 'cuirasslaw15.BucketParts': WHATEVER THE INPUT: true; the input reads as it did. -/
def bucketPartsSpec : ChangeSpec := { name := "bucketParts", fn := fun _ => fun
  | [d1, d2, d3, d4] => { results := [.lit (.bool true)], args := [d1, d2, d3, d4] }
  | _ => none }
def bucketPartsRow : OpenClaim := { program := "ythmbiddnpogolaa", sum := "3ecbe66e97e78291fa872a35bb46fe45cab53009d94c01ae4a69204da49d571d", func := "cuirass/cuirasslaw15.BucketParts", spec := "bucketParts", apart := false }
def BucketPartsSaid : Prop := bucketPartsRow.holds Try.pinned (OpenSpec.ofChange bucketPartsSpec)

/-- ITS FALSE NEIGHBOUR: 'it returns false'. Refute it at one input. -/
def bucketPartsWrong : ChangeSpec := { name := "bucketParts", fn := fun _ => fun
  | [d1, d2, d3, d4] => { results := [.lit (.bool false)], args := [d1, d2, d3, d4] }
  | _ => none }
def BucketPartsWrongFalsely : Prop := bucketPartsRow.holds Try.pinned (OpenSpec.ofChange bucketPartsWrong)

/-- 'cuirasslaw15.BucketCrosses': WHATEVER THE INPUT: true; the input reads as it did. -/
def bucketCrossesSpec : ChangeSpec := { name := "bucketCrosses", fn := fun _ => fun
  | [d1, d2] => { results := [.lit (.bool true)], args := [d1, d2] }
  | _ => none }
def bucketCrossesRow : OpenClaim := { program := "ythmbiddnpogolaa", sum := "3ecbe66e97e78291fa872a35bb46fe45cab53009d94c01ae4a69204da49d571d", func := "cuirass/cuirasslaw15.BucketCrosses", spec := "bucketCrosses", apart := false }
def BucketCrossesSaid : Prop := bucketCrossesRow.holds Try.pinned (OpenSpec.ofChange bucketCrossesSpec)

/-- ITS FALSE NEIGHBOUR: 'it returns false'. Refute it at one input. -/
def bucketCrossesWrong : ChangeSpec := { name := "bucketCrosses", fn := fun _ => fun
  | [d1, d2] => { results := [.lit (.bool false)], args := [d1, d2] }
  | _ => none }
def BucketCrossesWrongFalsely : Prop := bucketCrossesRow.holds Try.pinned (OpenSpec.ofChange bucketCrossesWrong)

/-- 'cuirasslaw15.BucketMore': WHATEVER THE INPUT: true; the input reads as it did. -/
def bucketMoreSpec : ChangeSpec := { name := "bucketMore", fn := fun _ => fun
  | [d1, d2, d3, d4] => { results := [.lit (.bool true)], args := [d1, d2, d3, d4] }
  | _ => none }
def bucketMoreRow : OpenClaim := { program := "ythmbiddnpogolaa", sum := "3ecbe66e97e78291fa872a35bb46fe45cab53009d94c01ae4a69204da49d571d", func := "cuirass/cuirasslaw15.BucketMore", spec := "bucketMore", apart := false }
def BucketMoreSaid : Prop := bucketMoreRow.holds Try.pinned (OpenSpec.ofChange bucketMoreSpec)

/-- ITS FALSE NEIGHBOUR: 'it returns false'. Refute it at one input. -/
def bucketMoreWrong : ChangeSpec := { name := "bucketMore", fn := fun _ => fun
  | [d1, d2, d3, d4] => { results := [.lit (.bool false)], args := [d1, d2, d3, d4] }
  | _ => none }
def BucketMoreWrongFalsely : Prop := bucketMoreRow.holds Try.pinned (OpenSpec.ofChange bucketMoreWrong)

/-- 'cuirasslaw17.RecordGrave': WHATEVER THE INPUT: true; the input reads as it did. -/
def recordGraveSpec : ChangeSpec := { name := "recordGrave", fn := fun _ => fun
  | [d1, d2] => { results := [.lit (.bool true)], args := [d1, d2] }
  | _ => none }
def recordGraveRow : OpenClaim := { program := "ythmbiddnpogolaa", sum := "3ecbe66e97e78291fa872a35bb46fe45cab53009d94c01ae4a69204da49d571d", func := "cuirass/cuirasslaw17.RecordGrave", spec := "recordGrave", unfollowed := true, recurses := true, apart := false }
def RecordGraveSaid : Prop := recordGraveRow.holds Try.pinned (OpenSpec.ofChange recordGraveSpec)

/-- ITS FALSE NEIGHBOUR: 'it returns false'. Refute it at one input. -/
def recordGraveWrong : ChangeSpec := { name := "recordGrave", fn := fun _ => fun
  | [d1, d2] => { results := [.lit (.bool false)], args := [d1, d2] }
  | _ => none }
def RecordGraveWrongFalsely : Prop := recordGraveRow.holds Try.pinned (OpenSpec.ofChange recordGraveWrong)

/-- 'cuirasslaw17.RecordFirst': WHATEVER THE INPUT: true; the input reads as it did. -/
def recordFirstSpec : ChangeSpec := { name := "recordFirst", fn := fun _ => fun
  | [d1, d2, d3] => { results := [.lit (.bool true)], args := [d1, d2, d3] }
  | _ => none }
def recordFirstRow : OpenClaim := { program := "ythmbiddnpogolaa", sum := "3ecbe66e97e78291fa872a35bb46fe45cab53009d94c01ae4a69204da49d571d", func := "cuirass/cuirasslaw17.RecordFirst", spec := "recordFirst", unfollowed := true, recurses := true, apart := false }
def RecordFirstSaid : Prop := recordFirstRow.holds Try.pinned (OpenSpec.ofChange recordFirstSpec)

/-- ITS FALSE NEIGHBOUR: 'it returns false'. Refute it at one input. -/
def recordFirstWrong : ChangeSpec := { name := "recordFirst", fn := fun _ => fun
  | [d1, d2, d3] => { results := [.lit (.bool false)], args := [d1, d2, d3] }
  | _ => none }
def RecordFirstWrongFalsely : Prop := recordFirstRow.holds Try.pinned (OpenSpec.ofChange recordFirstWrong)

/-- 'cuirasslaw17.RecordLogs': WHATEVER THE INPUT: true; the input reads as it did. -/
def recordLogsSpec : ChangeSpec := { name := "recordLogs", fn := fun _ => fun
  | [d1, d2, d3] => { results := [.lit (.bool true)], args := [d1, d2, d3] }
  | _ => none }
def recordLogsRow : OpenClaim := { program := "ythmbiddnpogolaa", sum := "3ecbe66e97e78291fa872a35bb46fe45cab53009d94c01ae4a69204da49d571d", func := "cuirass/cuirasslaw17.RecordLogs", spec := "recordLogs", unfollowed := true, recurses := true, apart := false }
def RecordLogsSaid : Prop := recordLogsRow.holds Try.pinned (OpenSpec.ofChange recordLogsSpec)

/-- ITS FALSE NEIGHBOUR: 'it returns false'. Refute it at one input. -/
def recordLogsWrong : ChangeSpec := { name := "recordLogs", fn := fun _ => fun
  | [d1, d2, d3] => { results := [.lit (.bool false)], args := [d1, d2, d3] }
  | _ => none }
def RecordLogsWrongFalsely : Prop := recordLogsRow.holds Try.pinned (OpenSpec.ofChange recordLogsWrong)

/-- 'cuirasslaw16.TableRoom': WHATEVER THE INPUT: true; the input reads as it did. -/
def tableRoomSpec : ChangeSpec := { name := "tableRoom", fn := fun _ => fun
  | [d1, d2] => { results := [.lit (.bool true)], args := [d1, d2] }
  | _ => none }
def tableRoomRow : OpenClaim := { program := "ythmbiddnpogolaa", sum := "3ecbe66e97e78291fa872a35bb46fe45cab53009d94c01ae4a69204da49d571d", func := "cuirass/cuirasslaw16.TableRoom", spec := "tableRoom", unfollowed := true, recurses := true, apart := false }
def TableRoomSaid : Prop := tableRoomRow.holds Try.pinned (OpenSpec.ofChange tableRoomSpec)

/-- ITS FALSE NEIGHBOUR: 'it returns false'. Refute it at one input. -/
def tableRoomWrong : ChangeSpec := { name := "tableRoom", fn := fun _ => fun
  | [d1, d2] => { results := [.lit (.bool false)], args := [d1, d2] }
  | _ => none }
def TableRoomWrongFalsely : Prop := tableRoomRow.holds Try.pinned (OpenSpec.ofChange tableRoomWrong)

/-- 'cuirasslaw16.TableHeavy': WHATEVER THE INPUT: true; the input reads as it did. -/
def tableHeavySpec : ChangeSpec := { name := "tableHeavy", fn := fun _ => fun
  | [d1, d2, d3] => { results := [.lit (.bool true)], args := [d1, d2, d3] }
  | _ => none }
def tableHeavyRow : OpenClaim := { program := "ythmbiddnpogolaa", sum := "3ecbe66e97e78291fa872a35bb46fe45cab53009d94c01ae4a69204da49d571d", func := "cuirass/cuirasslaw16.TableHeavy", spec := "tableHeavy", unfollowed := true, recurses := true, apart := false }
def TableHeavySaid : Prop := tableHeavyRow.holds Try.pinned (OpenSpec.ofChange tableHeavySpec)

/-- ITS FALSE NEIGHBOUR: 'it returns false'. Refute it at one input. -/
def tableHeavyWrong : ChangeSpec := { name := "tableHeavy", fn := fun _ => fun
  | [d1, d2, d3] => { results := [.lit (.bool false)], args := [d1, d2, d3] }
  | _ => none }
def TableHeavyWrongFalsely : Prop := tableHeavyRow.holds Try.pinned (OpenSpec.ofChange tableHeavyWrong)

/-- 'cuirasslaw26.RegsPacks': WHATEVER THE INPUT: true; the input reads as it did. -/
def regsPacksSpec : ChangeSpec := { name := "regsPacks", fn := fun _ => fun
  | [d1, d2] => { results := [.lit (.bool true)], args := [d1, d2] }
  | _ => none }
def regsPacksRow : OpenClaim := { program := "ythmbiddnpogolaa", sum := "3ecbe66e97e78291fa872a35bb46fe45cab53009d94c01ae4a69204da49d571d", func := "cuirass/cuirasslaw26.RegsPacks", spec := "regsPacks", apart := false }
def RegsPacksSaid : Prop := regsPacksRow.holds Try.pinned (OpenSpec.ofChange regsPacksSpec)

/-- ITS FALSE NEIGHBOUR: 'it returns false'. Refute it at one input. -/
def regsPacksWrong : ChangeSpec := { name := "regsPacks", fn := fun _ => fun
  | [d1, d2] => { results := [.lit (.bool false)], args := [d1, d2] }
  | _ => none }
def RegsPacksWrongFalsely : Prop := regsPacksRow.holds Try.pinned (OpenSpec.ofChange regsPacksWrong)

/- THE SECOND FORM. 'bulk': how many values and letters a reading holds, each counted each time it is reached (what is shared counts as often as it is met; a slice's spare places count too). A statement '..UptoSaid' is the law's where the arguments, and the package variables that the reading takes, are together of bulk at most 1048576: NARROWER than '..Said'. Prove '..Said' where nothing that the law and all that it calls make is longer than what came in: it says more and counts as full. Else prove '..UptoSaid'. A law counts once. -/
mutual
def uptoBulk {H : Type} : DataW H → Nat
  | .lit (.string bytes) => bytes.length + 1
  | .lit _ => 1
  | .nil => 1
  | .ptr d => uptoBulk d + 1
  | .slice elems spare => uptoBulkAll elems + uptoBulkAll spare + 1
  | .agg parts => uptoBulkAll parts + 1
  | .iface _ d => uptoBulk d + 1
  | .map entries => uptoBulkEntries entries + 1
  | .held _ => 1
def uptoBulkAll {H : Type} : List (DataW H) → Nat
  | [] => 0
  | d :: r => uptoBulk d + uptoBulkAll r
def uptoBulkEntries {H : Type} : List (Lit × DataW H) → Nat
  | [] => 0
  | x :: r => uptoBulkEntry x + uptoBulkEntries r
def uptoBulkEntry {H : Type} : Lit × DataW H → Nat
  | (.string bytes, d) => bytes.length + uptoBulk d + 1
  | (_, d) => uptoBulk d + 1
 end
def uptoSmall : (H : Type) → List (DataW H) → Bool := fun _ ds => decide (uptoBulkAll ds ≤ 1048576)
def OpenSpec.upto (s : _root_.Go.ChangeSpec) : _root_.Go.OpenSpec := { _root_.Go.OpenSpec.ofChange s with cond := some uptoSmall }

/-- 'cuirasslaw26.RegsFields', WHERE WHAT IT READS IS OF BULK AT MOST 1048576: true; the input reads as it did. -/
def regsFieldsUptoRow : OpenClaim := { program := "ythmbiddnpogolaa", sum := "3ecbe66e97e78291fa872a35bb46fe45cab53009d94c01ae4a69204da49d571d", func := "cuirass/cuirasslaw26.RegsFields", spec := "regsFields", apart := false, narrowed := true }
def RegsFieldsUptoSaid : Prop := regsFieldsUptoRow.holds Try.pinned (OpenSpec.upto regsFieldsSpec)

/-- 'cuirasslaw15.BucketFills', WHERE WHAT IT READS IS OF BULK AT MOST 1048576: true; the input reads as it did. -/
def bucketFillsUptoRow : OpenClaim := { program := "ythmbiddnpogolaa", sum := "3ecbe66e97e78291fa872a35bb46fe45cab53009d94c01ae4a69204da49d571d", func := "cuirass/cuirasslaw15.BucketFills", spec := "bucketFills", apart := false, narrowed := true }
def BucketFillsUptoSaid : Prop := bucketFillsUptoRow.holds Try.pinned (OpenSpec.upto bucketFillsSpec)

/-- 'cuirasslaw15.BucketTicks', WHERE WHAT IT READS IS OF BULK AT MOST 1048576: true; the input reads as it did. -/
def bucketTicksUptoRow : OpenClaim := { program := "ythmbiddnpogolaa", sum := "3ecbe66e97e78291fa872a35bb46fe45cab53009d94c01ae4a69204da49d571d", func := "cuirass/cuirasslaw15.BucketTicks", spec := "bucketTicks", apart := false, narrowed := true }
def BucketTicksUptoSaid : Prop := bucketTicksUptoRow.holds Try.pinned (OpenSpec.upto bucketTicksSpec)

/-- 'cuirasslaw15.BucketParts', WHERE WHAT IT READS IS OF BULK AT MOST 1048576: true; the input reads as it did. -/
def bucketPartsUptoRow : OpenClaim := { program := "ythmbiddnpogolaa", sum := "3ecbe66e97e78291fa872a35bb46fe45cab53009d94c01ae4a69204da49d571d", func := "cuirass/cuirasslaw15.BucketParts", spec := "bucketParts", apart := false, narrowed := true }
def BucketPartsUptoSaid : Prop := bucketPartsUptoRow.holds Try.pinned (OpenSpec.upto bucketPartsSpec)

/-- 'cuirasslaw15.BucketCrosses', WHERE WHAT IT READS IS OF BULK AT MOST 1048576: true; the input reads as it did. -/
def bucketCrossesUptoRow : OpenClaim := { program := "ythmbiddnpogolaa", sum := "3ecbe66e97e78291fa872a35bb46fe45cab53009d94c01ae4a69204da49d571d", func := "cuirass/cuirasslaw15.BucketCrosses", spec := "bucketCrosses", apart := false, narrowed := true }
def BucketCrossesUptoSaid : Prop := bucketCrossesUptoRow.holds Try.pinned (OpenSpec.upto bucketCrossesSpec)

/-- 'cuirasslaw15.BucketMore', WHERE WHAT IT READS IS OF BULK AT MOST 1048576: true; the input reads as it did. -/
def bucketMoreUptoRow : OpenClaim := { program := "ythmbiddnpogolaa", sum := "3ecbe66e97e78291fa872a35bb46fe45cab53009d94c01ae4a69204da49d571d", func := "cuirass/cuirasslaw15.BucketMore", spec := "bucketMore", apart := false, narrowed := true }
def BucketMoreUptoSaid : Prop := bucketMoreUptoRow.holds Try.pinned (OpenSpec.upto bucketMoreSpec)

/-- 'cuirasslaw17.RecordGrave', WHERE WHAT IT READS IS OF BULK AT MOST 1048576: true; the input reads as it did. -/
def recordGraveUptoRow : OpenClaim := { program := "ythmbiddnpogolaa", sum := "3ecbe66e97e78291fa872a35bb46fe45cab53009d94c01ae4a69204da49d571d", func := "cuirass/cuirasslaw17.RecordGrave", spec := "recordGrave", unfollowed := true, recurses := true, apart := false, narrowed := true }
def RecordGraveUptoSaid : Prop := recordGraveUptoRow.holds Try.pinned (OpenSpec.upto recordGraveSpec)

/-- 'cuirasslaw17.RecordFirst', WHERE WHAT IT READS IS OF BULK AT MOST 1048576: true; the input reads as it did. -/
def recordFirstUptoRow : OpenClaim := { program := "ythmbiddnpogolaa", sum := "3ecbe66e97e78291fa872a35bb46fe45cab53009d94c01ae4a69204da49d571d", func := "cuirass/cuirasslaw17.RecordFirst", spec := "recordFirst", unfollowed := true, recurses := true, apart := false, narrowed := true }
def RecordFirstUptoSaid : Prop := recordFirstUptoRow.holds Try.pinned (OpenSpec.upto recordFirstSpec)

/-- 'cuirasslaw17.RecordLogs', WHERE WHAT IT READS IS OF BULK AT MOST 1048576: true; the input reads as it did. -/
def recordLogsUptoRow : OpenClaim := { program := "ythmbiddnpogolaa", sum := "3ecbe66e97e78291fa872a35bb46fe45cab53009d94c01ae4a69204da49d571d", func := "cuirass/cuirasslaw17.RecordLogs", spec := "recordLogs", unfollowed := true, recurses := true, apart := false, narrowed := true }
def RecordLogsUptoSaid : Prop := recordLogsUptoRow.holds Try.pinned (OpenSpec.upto recordLogsSpec)

/-- 'cuirasslaw16.TableRoom', WHERE WHAT IT READS IS OF BULK AT MOST 1048576: true; the input reads as it did. -/
def tableRoomUptoRow : OpenClaim := { program := "ythmbiddnpogolaa", sum := "3ecbe66e97e78291fa872a35bb46fe45cab53009d94c01ae4a69204da49d571d", func := "cuirass/cuirasslaw16.TableRoom", spec := "tableRoom", unfollowed := true, recurses := true, apart := false, narrowed := true }
def TableRoomUptoSaid : Prop := tableRoomUptoRow.holds Try.pinned (OpenSpec.upto tableRoomSpec)

/-- 'cuirasslaw16.TableHeavy', WHERE WHAT IT READS IS OF BULK AT MOST 1048576: true; the input reads as it did. -/
def tableHeavyUptoRow : OpenClaim := { program := "ythmbiddnpogolaa", sum := "3ecbe66e97e78291fa872a35bb46fe45cab53009d94c01ae4a69204da49d571d", func := "cuirass/cuirasslaw16.TableHeavy", spec := "tableHeavy", unfollowed := true, recurses := true, apart := false, narrowed := true }
def TableHeavyUptoSaid : Prop := tableHeavyUptoRow.holds Try.pinned (OpenSpec.upto tableHeavySpec)

/-- 'cuirasslaw26.RegsPacks', WHERE WHAT IT READS IS OF BULK AT MOST 1048576: true; the input reads as it did. -/
def regsPacksUptoRow : OpenClaim := { program := "ythmbiddnpogolaa", sum := "3ecbe66e97e78291fa872a35bb46fe45cab53009d94c01ae4a69204da49d571d", func := "cuirass/cuirasslaw26.RegsPacks", spec := "regsPacks", apart := false, narrowed := true }
def RegsPacksUptoSaid : Prop := regsPacksUptoRow.holds Try.pinned (OpenSpec.upto regsPacksSpec)

end Rows
end Go.Proofs.Ythmbiddnpogolaa
