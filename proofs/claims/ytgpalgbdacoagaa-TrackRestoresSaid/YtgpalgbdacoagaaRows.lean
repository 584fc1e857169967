/-
  No cell of these rows narrows 'for every input' (looked for: loops, veiled, ifaces, maps, wideKeys, modest, calm, conditions, laid).
  DERIVED. THE GIVEN ROWS OF THIS SEAT. 12 by the template 'for every input the law returns true; each argument reads behind the call as it read before'; 0 by the template 'total and deterministic' (their statements: YtgpalgbdacoagaaTotals.lean).
  GIVEN WITH THE SEED: the statements are not yours to turn. If you find one false, say at which input.
  Laid BY PROGRAM, IN A SANDBOX (cutbox-rows.mjs): the forced cells as the released guide's own fill.sh prints them over the translation c61293d94dc4bf56… (all of the seat's roots in one cut). By AI agents, Wed Nov 11 2026. No macro, syntax, notation, axiom, sorry.
-/
import Derived.Test.YtgpalgbdacoagaaChecked
import GoSem.Claim
import GoSem.ClaimJoined
import GoSem.ClaimMapViews
import Derived.JoinedTies
import Derived.KernelRfl
namespace Go.Proofs.Ytgpalgbdacoagaa
/- THE CELL 'sum', in the pinned program and in every row, IS THE sha256 OF THE DUMP (.gsa) THAT YtgpalgbdacoagaaProg.lean LOADS. Nothing in Lean hashes anything: it is a label: what it is worth is what the hold of that sum in a sandbox is worth. -/
noncomputable def Try.pinned : Pinned := { name := "ytgpalgbdacoagaa", sum := "c61293d94dc4bf5634a3700b96b97654fd02de214df9e23cef6b93ad031d89fa", checked := Try.checked }
namespace Rows
def none {H : Type} : Left H := { results := [], args := [] }

/-- 'cuirasslaw17.RecordRestores': WHATEVER THE INPUT: true; the input reads as it did. -/
def recordRestoresSpec : ChangeSpec := { name := "recordRestores", fn := fun _ => fun
  | [d1, d2, d3, d4] => { results := [.lit (.bool true)], args := [d1, d2, d3, d4] }
  | _ => none }
def recordRestoresRow : OpenClaim := { program := "ytgpalgbdacoagaa", sum := "c61293d94dc4bf5634a3700b96b97654fd02de214df9e23cef6b93ad031d89fa", func := "cuirass/cuirasslaw17.RecordRestores", spec := "recordRestores", unfollowed := true, recurses := true, apart := false }
def RecordRestoresSaid : Prop := recordRestoresRow.holds Try.pinned (OpenSpec.ofChange recordRestoresSpec)

/-- ITS FALSE NEIGHBOUR: 'it returns false'. Refute it at one input. -/
def recordRestoresWrong : ChangeSpec := { name := "recordRestores", fn := fun _ => fun
  | [d1, d2, d3, d4] => { results := [.lit (.bool false)], args := [d1, d2, d3, d4] }
  | _ => none }
def RecordRestoresWrongFalsely : Prop := recordRestoresRow.holds Try.pinned (OpenSpec.ofChange recordRestoresWrong)

/-- 'cuirasslaw16.TablePlays': WHATEVER THE INPUT: true; the input reads as it did. -/
def tablePlaysSpec : ChangeSpec := { name := "tablePlays", fn := fun _ => fun
  | [d1, d2, d3, d4] => { results := [.lit (.bool true)], args := [d1, d2, d3, d4] }
  | _ => none }
def tablePlaysRow : OpenClaim := { program := "ytgpalgbdacoagaa", sum := "c61293d94dc4bf5634a3700b96b97654fd02de214df9e23cef6b93ad031d89fa", func := "cuirass/cuirasslaw16.TablePlays", spec := "tablePlays", unfollowed := true, recurses := true, apart := false }
def TablePlaysSaid : Prop := tablePlaysRow.holds Try.pinned (OpenSpec.ofChange tablePlaysSpec)

/-- ITS FALSE NEIGHBOUR: 'it returns false'. Refute it at one input. -/
def tablePlaysWrong : ChangeSpec := { name := "tablePlays", fn := fun _ => fun
  | [d1, d2, d3, d4] => { results := [.lit (.bool false)], args := [d1, d2, d3, d4] }
  | _ => none }
def TablePlaysWrongFalsely : Prop := tablePlaysRow.holds Try.pinned (OpenSpec.ofChange tablePlaysWrong)

/-- 'cuirasslaw19.RemapSpent': WHATEVER THE INPUT: true; the input reads as it did. -/
def remapSpentSpec : ChangeSpec := { name := "remapSpent", fn := fun _ => fun
  | [d1, d2] => { results := [.lit (.bool true)], args := [d1, d2] }
  | _ => none }
def remapSpentRow : OpenClaim := { program := "ytgpalgbdacoagaa", sum := "c61293d94dc4bf5634a3700b96b97654fd02de214df9e23cef6b93ad031d89fa", func := "cuirass/cuirasslaw19.RemapSpent", spec := "remapSpent", apart := false }
def RemapSpentSaid : Prop := remapSpentRow.holds Try.pinned (OpenSpec.ofChange remapSpentSpec)

/-- ITS FALSE NEIGHBOUR: 'it returns false'. Refute it at one input. -/
def remapSpentWrong : ChangeSpec := { name := "remapSpent", fn := fun _ => fun
  | [d1, d2] => { results := [.lit (.bool false)], args := [d1, d2] }
  | _ => none }
def RemapSpentWrongFalsely : Prop := remapSpentRow.holds Try.pinned (OpenSpec.ofChange remapSpentWrong)

/-- 'cuirasslaw18.TrackSums': WHATEVER THE INPUT: true; the input reads as it did. -/
def trackSumsSpec : ChangeSpec := { name := "trackSums", fn := fun _ => fun
  | [d1, d2, d3, d4] => { results := [.lit (.bool true)], args := [d1, d2, d3, d4] }
  | _ => none }
def trackSumsRow : OpenClaim := { program := "ytgpalgbdacoagaa", sum := "c61293d94dc4bf5634a3700b96b97654fd02de214df9e23cef6b93ad031d89fa", func := "cuirass/cuirasslaw18.TrackSums", spec := "trackSums", unfollowed := true, recurses := true, apart := false }
def TrackSumsSaid : Prop := trackSumsRow.holds Try.pinned (OpenSpec.ofChange trackSumsSpec)

/-- ITS FALSE NEIGHBOUR: 'it returns false'. Refute it at one input. -/
def trackSumsWrong : ChangeSpec := { name := "trackSums", fn := fun _ => fun
  | [d1, d2, d3, d4] => { results := [.lit (.bool false)], args := [d1, d2, d3, d4] }
  | _ => none }
def TrackSumsWrongFalsely : Prop := trackSumsRow.holds Try.pinned (OpenSpec.ofChange trackSumsWrong)

/-- 'cuirasslaw18.TrackPages': WHATEVER THE INPUT: true; the input reads as it did. -/
def trackPagesSpec : ChangeSpec := { name := "trackPages", fn := fun _ => fun
  | [d1, d2, d3, d4] => { results := [.lit (.bool true)], args := [d1, d2, d3, d4] }
  | _ => none }
def trackPagesRow : OpenClaim := { program := "ytgpalgbdacoagaa", sum := "c61293d94dc4bf5634a3700b96b97654fd02de214df9e23cef6b93ad031d89fa", func := "cuirass/cuirasslaw18.TrackPages", spec := "trackPages", unfollowed := true, recurses := true, apart := false }
def TrackPagesSaid : Prop := trackPagesRow.holds Try.pinned (OpenSpec.ofChange trackPagesSpec)

/-- ITS FALSE NEIGHBOUR: 'it returns false'. Refute it at one input. -/
def trackPagesWrong : ChangeSpec := { name := "trackPages", fn := fun _ => fun
  | [d1, d2, d3, d4] => { results := [.lit (.bool false)], args := [d1, d2, d3, d4] }
  | _ => none }
def TrackPagesWrongFalsely : Prop := trackPagesRow.holds Try.pinned (OpenSpec.ofChange trackPagesWrong)

/-- 'cuirasslaw19.RemapStays': WHATEVER THE INPUT: true; the input reads as it did. -/
def remapStaysSpec : ChangeSpec := { name := "remapStays", fn := fun _ => fun
  | [d1, d2, d3, d4] => { results := [.lit (.bool true)], args := [d1, d2, d3, d4] }
  | _ => none }
def remapStaysRow : OpenClaim := { program := "ytgpalgbdacoagaa", sum := "c61293d94dc4bf5634a3700b96b97654fd02de214df9e23cef6b93ad031d89fa", func := "cuirass/cuirasslaw19.RemapStays", spec := "remapStays", apart := false }
def RemapStaysSaid : Prop := remapStaysRow.holds Try.pinned (OpenSpec.ofChange remapStaysSpec)

/-- ITS FALSE NEIGHBOUR: 'it returns false'. Refute it at one input. -/
def remapStaysWrong : ChangeSpec := { name := "remapStays", fn := fun _ => fun
  | [d1, d2, d3, d4] => { results := [.lit (.bool false)], args := [d1, d2, d3, d4] }
  | _ => none }
def RemapStaysWrongFalsely : Prop := remapStaysRow.holds Try.pinned (OpenSpec.ofChange remapStaysWrong)

/-- 'cuirasslaw19.RemapUnlike': WHATEVER THE INPUT: true; the input reads as it did. -/
def remapUnlikeSpec : ChangeSpec := { name := "remapUnlike", fn := fun _ => fun
  | [d1, d2] => { results := [.lit (.bool true)], args := [d1, d2] }
  | _ => none }
def remapUnlikeRow : OpenClaim := { program := "ytgpalgbdacoagaa", sum := "c61293d94dc4bf5634a3700b96b97654fd02de214df9e23cef6b93ad031d89fa", func := "cuirass/cuirasslaw19.RemapUnlike", spec := "remapUnlike", apart := false }
def RemapUnlikeSaid : Prop := remapUnlikeRow.holds Try.pinned (OpenSpec.ofChange remapUnlikeSpec)

/-- ITS FALSE NEIGHBOUR: 'it returns false'. Refute it at one input. -/
def remapUnlikeWrong : ChangeSpec := { name := "remapUnlike", fn := fun _ => fun
  | [d1, d2] => { results := [.lit (.bool false)], args := [d1, d2] }
  | _ => none }
def RemapUnlikeWrongFalsely : Prop := remapUnlikeRow.holds Try.pinned (OpenSpec.ofChange remapUnlikeWrong)

/-- 'cuirasslaw18.TrackPlays': WHATEVER THE INPUT: true; the input reads as it did. -/
def trackPlaysSpec : ChangeSpec := { name := "trackPlays", fn := fun _ => fun
  | [d1, d2, d3, d4] => { results := [.lit (.bool true)], args := [d1, d2, d3, d4] }
  | _ => none }
def trackPlaysRow : OpenClaim := { program := "ytgpalgbdacoagaa", sum := "c61293d94dc4bf5634a3700b96b97654fd02de214df9e23cef6b93ad031d89fa", func := "cuirass/cuirasslaw18.TrackPlays", spec := "trackPlays", unfollowed := true, recurses := true, apart := false }
def TrackPlaysSaid : Prop := trackPlaysRow.holds Try.pinned (OpenSpec.ofChange trackPlaysSpec)

/-- ITS FALSE NEIGHBOUR: 'it returns false'. Refute it at one input. -/
def trackPlaysWrong : ChangeSpec := { name := "trackPlays", fn := fun _ => fun
  | [d1, d2, d3, d4] => { results := [.lit (.bool false)], args := [d1, d2, d3, d4] }
  | _ => none }
def TrackPlaysWrongFalsely : Prop := trackPlaysRow.holds Try.pinned (OpenSpec.ofChange trackPlaysWrong)

/-- 'cuirasslaw19.RemapPlays': WHATEVER THE INPUT: true; the input reads as it did. -/
def remapPlaysSpec : ChangeSpec := { name := "remapPlays", fn := fun _ => fun
  | [d1, d2, d3] => { results := [.lit (.bool true)], args := [d1, d2, d3] }
  | _ => none }
def remapPlaysRow : OpenClaim := { program := "ytgpalgbdacoagaa", sum := "c61293d94dc4bf5634a3700b96b97654fd02de214df9e23cef6b93ad031d89fa", func := "cuirass/cuirasslaw19.RemapPlays", spec := "remapPlays", apart := false }
def RemapPlaysSaid : Prop := remapPlaysRow.holds Try.pinned (OpenSpec.ofChange remapPlaysSpec)

/-- ITS FALSE NEIGHBOUR: 'it returns false'. Refute it at one input. -/
def remapPlaysWrong : ChangeSpec := { name := "remapPlays", fn := fun _ => fun
  | [d1, d2, d3] => { results := [.lit (.bool false)], args := [d1, d2, d3] }
  | _ => none }
def RemapPlaysWrongFalsely : Prop := remapPlaysRow.holds Try.pinned (OpenSpec.ofChange remapPlaysWrong)

/-- 'cuirasslaw19.RemapRefuses': WHATEVER THE INPUT: true; the input reads as it did. -/
def remapRefusesSpec : ChangeSpec := { name := "remapRefuses", fn := fun _ => fun
  | [d1, d2] => { results := [.lit (.bool true)], args := [d1, d2] }
  | _ => none }
def remapRefusesRow : OpenClaim := { program := "ytgpalgbdacoagaa", sum := "c61293d94dc4bf5634a3700b96b97654fd02de214df9e23cef6b93ad031d89fa", func := "cuirass/cuirasslaw19.RemapRefuses", spec := "remapRefuses", apart := false }
def RemapRefusesSaid : Prop := remapRefusesRow.holds Try.pinned (OpenSpec.ofChange remapRefusesSpec)

/-- ITS FALSE NEIGHBOUR: 'it returns false'. Refute it at one input. -/
def remapRefusesWrong : ChangeSpec := { name := "remapRefuses", fn := fun _ => fun
  | [d1, d2] => { results := [.lit (.bool false)], args := [d1, d2] }
  | _ => none }
def RemapRefusesWrongFalsely : Prop := remapRefusesRow.holds Try.pinned (OpenSpec.ofChange remapRefusesWrong)

/-- 'cuirasslaw18.TrackRestores': WHATEVER THE INPUT: true; the input reads as it did. -/
def trackRestoresSpec : ChangeSpec := { name := "trackRestores", fn := fun _ => fun
  | [d1, d2, d3, d4, d5] => { results := [.lit (.bool true)], args := [d1, d2, d3, d4, d5] }
  | _ => none }
def trackRestoresRow : OpenClaim := { program := "ytgpalgbdacoagaa", sum := "c61293d94dc4bf5634a3700b96b97654fd02de214df9e23cef6b93ad031d89fa", func := "cuirass/cuirasslaw18.TrackRestores", spec := "trackRestores", unfollowed := true, recurses := true, apart := false }
def TrackRestoresSaid : Prop := trackRestoresRow.holds Try.pinned (OpenSpec.ofChange trackRestoresSpec)

/-- ITS FALSE NEIGHBOUR: 'it returns false'. Refute it at one input. -/
def trackRestoresWrong : ChangeSpec := { name := "trackRestores", fn := fun _ => fun
  | [d1, d2, d3, d4, d5] => { results := [.lit (.bool false)], args := [d1, d2, d3, d4, d5] }
  | _ => none }
def TrackRestoresWrongFalsely : Prop := trackRestoresRow.holds Try.pinned (OpenSpec.ofChange trackRestoresWrong)

/-- 'cuirasslaw19.RemapRestores': WHATEVER THE INPUT: true; the input reads as it did. -/
def remapRestoresSpec : ChangeSpec := { name := "remapRestores", fn := fun _ => fun
  | [d1, d2, d3] => { results := [.lit (.bool true)], args := [d1, d2, d3] }
  | _ => none }
def remapRestoresRow : OpenClaim := { program := "ytgpalgbdacoagaa", sum := "c61293d94dc4bf5634a3700b96b97654fd02de214df9e23cef6b93ad031d89fa", func := "cuirass/cuirasslaw19.RemapRestores", spec := "remapRestores", apart := false }
def RemapRestoresSaid : Prop := remapRestoresRow.holds Try.pinned (OpenSpec.ofChange remapRestoresSpec)

/-- ITS FALSE NEIGHBOUR: 'it returns false'. Refute it at one input. -/
def remapRestoresWrong : ChangeSpec := { name := "remapRestores", fn := fun _ => fun
  | [d1, d2, d3] => { results := [.lit (.bool false)], args := [d1, d2, d3] }
  | _ => none }
def RemapRestoresWrongFalsely : Prop := remapRestoresRow.holds Try.pinned (OpenSpec.ofChange remapRestoresWrong)

/- THE SECOND FORM. 'bulk': how many values and letters a reading holds, each counted each time it is reached (what is shared counts as often as it is met; a slice's spare places count too). A statement '..UptoSaid' is the law's where the arguments, and the package variables that the reading takes, are together of bulk at most 1048576: NARROWER than '..Said'. Prove '..Said' where nothing that the law and all that it calls make is longer than what came in: it says more and counts as full. Else prove '..UptoSaid'. A law counts once. -/
mutual
def uptoBulk {H : Type} : DataW H → Nat
  | .lit (.string bytes) => bytes.length + 1
  | .lit _ => 1
  | .nil => 1
  | .ptr d => uptoBulk d + 1
  | .slice elems spare => uptoBulkAll elems + uptoBulkAll spare + 1
  | .agg parts => uptoBulkAll parts + 1
  | .iface _ d => uptoBulk d + 1
  | .map entries => uptoBulkEntries entries + 1
  | .held _ => 1
def uptoBulkAll {H : Type} : List (DataW H) → Nat
  | [] => 0
  | d :: r => uptoBulk d + uptoBulkAll r
def uptoBulkEntries {H : Type} : List (Lit × DataW H) → Nat
  | [] => 0
  | x :: r => uptoBulkEntry x + uptoBulkEntries r
def uptoBulkEntry {H : Type} : Lit × DataW H → Nat
  | (.string bytes, d) => bytes.length + uptoBulk d + 1
  | (_, d) => uptoBulk d + 1
 end
def uptoSmall : (H : Type) → List (DataW H) → Bool := fun _ ds => decide (uptoBulkAll ds ≤ 1048576)
def OpenSpec.upto (s : _root_.Go.ChangeSpec) : _root_.Go.OpenSpec := { _root_.Go.OpenSpec.ofChange s with cond := some uptoSmall }

/-- 'cuirasslaw17.RecordRestores', WHERE WHAT IT READS IS OF BULK AT MOST 1048576: true; the input reads as it did. -/
def recordRestoresUptoRow : OpenClaim := { program := "ytgpalgbdacoagaa", sum := "c61293d94dc4bf5634a3700b96b97654fd02de214df9e23cef6b93ad031d89fa", func := "cuirass/cuirasslaw17.RecordRestores", spec := "recordRestores", unfollowed := true, recurses := true, apart := false, narrowed := true }
def RecordRestoresUptoSaid : Prop := recordRestoresUptoRow.holds Try.pinned (OpenSpec.upto recordRestoresSpec)

/-- 'cuirasslaw16.TablePlays', WHERE WHAT IT READS IS OF BULK AT MOST 1048576: true; the input reads as it did. -/
def tablePlaysUptoRow : OpenClaim := { program := "ytgpalgbdacoagaa", sum := "c61293d94dc4bf5634a3700b96b97654fd02de214df9e23cef6b93ad031d89fa", func := "cuirass/cuirasslaw16.TablePlays", spec := "tablePlays", unfollowed := true, recurses := true, apart := false, narrowed := true }
def TablePlaysUptoSaid : Prop := tablePlaysUptoRow.holds Try.pinned (OpenSpec.upto tablePlaysSpec)

/-- 'cuirasslaw19.RemapSpent', WHERE WHAT IT READS IS OF BULK AT MOST 1048576: true; the input reads as it did. -/
def remapSpentUptoRow : OpenClaim := { program := "ytgpalgbdacoagaa", sum := "c61293d94dc4bf5634a3700b96b97654fd02de214df9e23cef6b93ad031d89fa", func := "cuirass/cuirasslaw19.RemapSpent", spec := "remapSpent", apart := false, narrowed := true }
def RemapSpentUptoSaid : Prop := remapSpentUptoRow.holds Try.pinned (OpenSpec.upto remapSpentSpec)

/-- 'cuirasslaw18.TrackSums', WHERE WHAT IT READS IS OF BULK AT MOST 1048576: true; the input reads as it did. -/
def trackSumsUptoRow : OpenClaim := { program := "ytgpalgbdacoagaa", sum := "c61293d94dc4bf5634a3700b96b97654fd02de214df9e23cef6b93ad031d89fa", func := "cuirass/cuirasslaw18.TrackSums", spec := "trackSums", unfollowed := true, recurses := true, apart := false, narrowed := true }
def TrackSumsUptoSaid : Prop := trackSumsUptoRow.holds Try.pinned (OpenSpec.upto trackSumsSpec)

/-- 'cuirasslaw18.TrackPages', WHERE WHAT IT READS IS OF BULK AT MOST 1048576: true; the input reads as it did. -/
def trackPagesUptoRow : OpenClaim := { program := "ytgpalgbdacoagaa", sum := "c61293d94dc4bf5634a3700b96b97654fd02de214df9e23cef6b93ad031d89fa", func := "cuirass/cuirasslaw18.TrackPages", spec := "trackPages", unfollowed := true, recurses := true, apart := false, narrowed := true }
def TrackPagesUptoSaid : Prop := trackPagesUptoRow.holds Try.pinned (OpenSpec.upto trackPagesSpec)

/-- 'cuirasslaw19.RemapStays', WHERE WHAT IT READS IS OF BULK AT MOST 1048576: true; the input reads as it did. -/
def remapStaysUptoRow : OpenClaim := { program := "ytgpalgbdacoagaa", sum := "c61293d94dc4bf5634a3700b96b97654fd02de214df9e23cef6b93ad031d89fa", func := "cuirass/cuirasslaw19.RemapStays", spec := "remapStays", apart := false, narrowed := true }
def RemapStaysUptoSaid : Prop := remapStaysUptoRow.holds Try.pinned (OpenSpec.upto remapStaysSpec)

/-- 'cuirasslaw19.RemapUnlike', WHERE WHAT IT READS IS OF BULK AT MOST 1048576: true; the input reads as it did. -/
def remapUnlikeUptoRow : OpenClaim := { program := "ytgpalgbdacoagaa", sum := "c61293d94dc4bf5634a3700b96b97654fd02de214df9e23cef6b93ad031d89fa", func := "cuirass/cuirasslaw19.RemapUnlike", spec := "remapUnlike", apart := false, narrowed := true }
def RemapUnlikeUptoSaid : Prop := remapUnlikeUptoRow.holds Try.pinned (OpenSpec.upto remapUnlikeSpec)

/-- 'cuirasslaw18.TrackPlays', WHERE WHAT IT READS IS OF BULK AT MOST 1048576: true; the input reads as it did. -/
def trackPlaysUptoRow : OpenClaim := { program := "ytgpalgbdacoagaa", sum := "c61293d94dc4bf5634a3700b96b97654fd02de214df9e23cef6b93ad031d89fa", func := "cuirass/cuirasslaw18.TrackPlays", spec := "trackPlays", unfollowed := true, recurses := true, apart := false, narrowed := true }
def TrackPlaysUptoSaid : Prop := trackPlaysUptoRow.holds Try.pinned (OpenSpec.upto trackPlaysSpec)

/-- 'cuirasslaw19.RemapPlays', WHERE WHAT IT READS IS OF BULK AT MOST 1048576: true; the input reads as it did. -/
def remapPlaysUptoRow : OpenClaim := { program := "ytgpalgbdacoagaa", sum := "c61293d94dc4bf5634a3700b96b97654fd02de214df9e23cef6b93ad031d89fa", func := "cuirass/cuirasslaw19.RemapPlays", spec := "remapPlays", apart := false, narrowed := true }
def RemapPlaysUptoSaid : Prop := remapPlaysUptoRow.holds Try.pinned (OpenSpec.upto remapPlaysSpec)

/-- 'cuirasslaw19.RemapRefuses', WHERE WHAT IT READS IS OF BULK AT MOST 1048576: true; the input reads as it did. -/
def remapRefusesUptoRow : OpenClaim := { program := "ytgpalgbdacoagaa", sum := "c61293d94dc4bf5634a3700b96b97654fd02de214df9e23cef6b93ad031d89fa", func := "cuirass/cuirasslaw19.RemapRefuses", spec := "remapRefuses", apart := false, narrowed := true }
def RemapRefusesUptoSaid : Prop := remapRefusesUptoRow.holds Try.pinned (OpenSpec.upto remapRefusesSpec)

/-- 'cuirasslaw18.TrackRestores', WHERE WHAT IT READS IS OF BULK AT MOST 1048576: true; the input reads as it did. -/
def trackRestoresUptoRow : OpenClaim := { program := "ytgpalgbdacoagaa", sum := "c61293d94dc4bf5634a3700b96b97654fd02de214df9e23cef6b93ad031d89fa", func := "cuirass/cuirasslaw18.TrackRestores", spec := "trackRestores", unfollowed := true, recurses := true, apart := false, narrowed := true }
def TrackRestoresUptoSaid : Prop := trackRestoresUptoRow.holds Try.pinned (OpenSpec.upto trackRestoresSpec)

/-- 'cuirasslaw19.RemapRestores', WHERE WHAT IT READS IS OF BULK AT MOST 1048576: true; the input reads as it did. -/
def remapRestoresUptoRow : OpenClaim := { program := "ytgpalgbdacoagaa", sum := "c61293d94dc4bf5634a3700b96b97654fd02de214df9e23cef6b93ad031d89fa", func := "cuirass/cuirasslaw19.RemapRestores", spec := "remapRestores", apart := false, narrowed := true }
def RemapRestoresUptoSaid : Prop := remapRestoresUptoRow.holds Try.pinned (OpenSpec.upto remapRestoresSpec)

end Rows
end Go.Proofs.Ytgpalgbdacoagaa
