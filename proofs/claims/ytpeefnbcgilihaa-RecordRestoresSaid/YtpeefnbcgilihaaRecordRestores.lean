/- Behind every play a log that is restored from its state goes on as the log; a state of which the numbers don't rise, or that has no room, is refused: for every input the Go function RecordRestores returns true. -/
import Derived.Test.YtpeefnbcgilihaaRecOpsRow
import Derived.Test.YtpeefnbcgilihaaRecRow
import Derived.Test.YtpeefnbcgilihaaRecJ
import Derived.Lib.Hide
namespace Go.Proofs.Ytpeefnbcgilihaa.recordRestores
open Go.ChangeShapes Go.WideShapes Go.ChangeAt Go.RowKit
set_option linter.unusedVariables false

theorem walk (room nx : Int) (lo : Bool) (aO aM aS : Option Addr) (nO cO nM cM nS cS : Nat) (rO rM rS : List (List Value)) (w : World) (hO : rowsAt w [.inl .i64, .inl .i64, .inl .i64, .inl .i64, .inl .i64, .inl .i64, .inl .i64] aO nO rO) (hM : rowsAt w [.inl .i64, .inl .i64, .inl .i64, .inl .i64, .inl .i64, .inl .i64, .inl .i64] aM nM rM)
    (hz : aS = none → cS = 0 ∧ nS = 0) (hS : rowsAt w [.inl .i64, .inl .i64, .inl .i64, .inl .i64, .inl .i64] aS nS rS) :
    Calls Try.prog 6 #[.int .i64 room, .slice aO nO cO, .slice aM nM cM, .agg #[.slice aS nS cS, .int .i64 nx, .bool lo]] w fun e w' => e = .returned (.bool true) ∧ Below w.heap.size w w' := by
  obtain ⟨l, rfl, hA⟩ := recs_of_rows hS
  have hV : RecsV w (.slice aS l.length cS) l.length l := ⟨aS, cS, rfl, hz, hA⟩
  by_cases h : 1 ≤ room ∧ room ≤ 256
  · obtain ⟨r, rfl⟩ := Int.eq_ofNat_of_zero_le (show 0 ≤ room by omega)
    obtain ⟨lO, -, hO'⟩ := rops_of_rows hO
    obtain ⟨lM, -, hM'⟩ := rops_of_rows hM
    exact restores_yes r aO nO cO aM nM cM aS cS l nx lo lO lM (by omega) (by omega) w hO' hM' hV
  · exact restores_no room aO nO cO aM nM cM aS cS l nx lo (by omega) w hV

theorem own : ownKnob Try.prog.godebug = none := by kernel_rfl
theorem laidOut : laidOutB Try.prog = true := by kernel_rfl
theorem pl1 : plain Try.prog 6 43 = some [.inl .i64, .inl .i64, .inl .i64, .inl .i64, .inl .i64, .inl .i64, .inl .i64] := by kernel_rfl
theorem ce1 : Try.prog.cellsOf 43 = 7 := by kernel_rfl
theorem pl2 : plain Try.prog 6 43 = some [.inl .i64, .inl .i64, .inl .i64, .inl .i64, .inl .i64, .inl .i64, .inl .i64] := by kernel_rfl
theorem ce2 : Try.prog.cellsOf 43 = 7 := by kernel_rfl
theorem pl3 : mixed Try.prog 50 = some [.inr [.inl .i64, .inl .i64, .inl .i64, .inl .i64, .inl .i64], .inl (.inl .i64), .inl (.inr false)] := by kernel_rfl
set_option maxRecDepth 100000 in
theorem lifted (os : Os) (started : os.Started) (H : Type) (enc : TypeId × Value → H) :
    ReturnsInHanded {} Try.checked os 6 .any (Rows.recordRestoresSpec.pre6 enc Try.prog Try.f6 Rows.recordRestoresRow.domain false) (Rows.recordRestoresSpec.post enc Try.prog Try.f6 false true false false) := by
  refine returnsInHanded_of_change (C := Try.checked) own started (by kernel_rfl) Try.func6
    (ChangeSpec.witness6 (enc := enc) (C := Try.checked) false ⟨#[], #[.int .i64 0, .slice none 0 0, .slice none 0 0, .agg #[.slice none 0 0, .int .i64 0, .bool false]], []⟩ 8 (by kernel_rfl) (by kernel_rfl) (by kernel_rfl) (by kernel_rfl)) ?_
  intro W base args ds gs before hval0 hW hcnd _
  have hval : ∀ (j : Nat) t v, Try.f6.params[j]? = some t → args[j]? = some v → Value.okWide Try.prog W .any base t v := hval0
  have hW' := hW
  obtain ⟨p, q, hA0, hV, rfl, hfz, hnd⟩ := hW
  have hA : DataW.TrodAll enc Try.prog W 0 (fun _ => true) true Try.f6.params.toList args.toList ds p := hA0
  rw [Try.params6] at hA hval
  obtain ⟨v0, vs0, d0, ds0, p0, q0, hargs, rfl, rfl, h0, r0⟩ := trodAll_cons hA
  obtain ⟨v1, vs1, d1, ds1, p1, q1, rfl, rfl, rfl, h1, r1⟩ := trodAll_cons r0
  obtain ⟨v2, vs2, d2, ds2, p2, q2, rfl, rfl, rfl, h2, r2⟩ := trodAll_cons r1
  obtain ⟨v3, vs3, d3, ds3, p3, q3, rfl, rfl, rfl, h3, r3⟩ := trodAll_cons r2
  obtain ⟨rfl, rfl, rfl⟩ := trodAll_nil r3
  obtain rfl : args = #[v0, v1, v2, v3] := by cases args; simp_all
  obtain ⟨rfl, rfl⟩ := trodVars_none hV
  obtain ⟨a0, rfl, rfl, rfl, w0⟩ := open_int Try.underlying3 (hval 0 3 v0 rfl rfl) h0
  have k1 := h1
  have lt1 : ∀ x ∈ p1, x.block < W.heap.size := by obtain ⟨m, hm⟩ := k1; exact DataW.trod_lt m _ _ _ hm
  obtain ⟨a1, len1, cap1, rows1, rfl, hl1, hm1, hr1⟩ := open_slice_plain 6 Try.underlying38 pl1 (ce1.trans rfl) (hval 1 38 v1 rfl rfl) h1
  have k2 := h2
  have lt2 : ∀ x ∈ p2, x.block < W.heap.size := by obtain ⟨m, hm⟩ := k2; exact DataW.trod_lt m _ _ _ hm
  obtain ⟨a2, len2, cap2, rows2, rfl, hl2, hm2, hr2⟩ := open_slice_plain 6 Try.underlying38 pl2 (ce2.trans rfl) (hval 2 38 v2 rfl rfl) h2
  have k3 := h3
  have lt3 : ∀ x ∈ p3, x.block < W.heap.size := by obtain ⟨m, hm⟩ := k3; exact DataW.trod_lt m _ _ _ hm
  obtain ⟨cs3, rfl, fit3⟩ := open_mixed pl3 Try.underlying50 (hval 3 50 v3 rfl rfl) h3
  simp only [fitsMix_cons, fitsMix_nil, fldFits, lfFits] at fit3
  obtain ⟨_, _, rfl, ⟨a3_0, len3_0, cap3_0, rows3_0, rfl, hl3_0, hm3_0, hz3_0, hr3_0⟩, _, _, rfl, ⟨a3_1, rfl, w3_1⟩, _, _, rfl, ⟨a3_2, rfl⟩, rfl⟩ := fit3
  clear hA0 hval0
  refine (walk a0 a3_1 a3_2 a1 a2 a3_0 len1 cap1 len2 cap2 len3_0 cap3_0 rows1 rows2 rows3_0 W hr1 hr2 hz3_0 hr3_0).mono fun e W' ⟨he, bel⟩ => ?_
  subst he
  exact ⟨_, rfl, _, _, _, [], _, [], hW', trodAll_mk1 (shut_bool Try.underlying4 _), (trodAll_cons_mk (shut_int Try.underlying3 w0) (trodAll_cons_mk (Below.trod laidOut (by kernel_rfl) (of_decide_eq_true (by kernel_rfl)) k1 bel lt1) (trodAll_cons_mk (Below.trod laidOut (by kernel_rfl) (of_decide_eq_true (by kernel_rfl)) k2 bel lt2) (trodAll_cons_mk (Below.trod laidOut (by kernel_rfl) (of_decide_eq_true (by kernel_rfl)) k3 bel lt3) trodAll_mk0)))), rfl, bel.frame _, fun h => by cases h⟩

theorem over : Rows.recordRestoresRow.holds Try.pinned (OpenSpec.ofChange Rows.recordRestoresSpec) :=
  OpenClaim.holds_of_wide 6 Try.f6 rfl rfl rfl rfl rfl rfl rfl ⟨rfl, rfl, rfl, rfl, rfl⟩ rfl rfl rfl rfl rfl (by kernel_rfl) Try.func6 (by kernel_rfl)
    (of_decide_eq_true (by kernel_rfl)) (by unfold Func.isWrapper; first | (rw [if_pos (by decide +kernel)]; kernel_rfl) | (rw [if_neg (by decide +kernel)]; exact ⟨rfl, rfl⟩))
    (fun os started H enc _ => lifted os started H enc)

/-- The statement. -/
theorem proved : Rows.RecordRestoresSaid := over
#print axioms proved
end Go.Proofs.Ytpeefnbcgilihaa.recordRestores
