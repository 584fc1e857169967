/- A state whose job is not right for its map, or is done, or moves to what was not taken for it, or that has an ask twice, is refused: for every input the Go function RepairWrong returns true. -/
import Derived.Test.YtpmnnijjohlloaaRprX
import Derived.Lib.Hide
namespace Go.Proofs.Ytpmnnijjohlloaa.repairWrong
open Go.ChangeShapes Go.WideShapes Go.ChangeAt Go.RowKit
set_option linter.unusedVariables false
theorem walk (r s b o c y z u v j1 j2 j3 j4 : Int) (ad : Option Addr) (len cap : Nat) (rows : List (List Value)) (hr : r ≤ 9223372036854775807) (hb : b ≤ 9223372036854775807) (ho : o ≤ 9223372036854775807) (hc : c ≤ 9223372036854775807) (h3 : -9223372036854775808 ≤ j3 ∧ j3 ≤ 9223372036854775807) (w : World) (hR : rowsAt w [.inl .i64, .inl .i64, .inl .i64] ad len rows) :
    Calls Try.prog 13 #[.agg #[.int .i64 r, .int .i64 s, .int .i64 b, .int .i64 o, .int .i64 c, .int .i64 y, .int .i64 z], .slice ad len cap, .agg #[.int .i64 j1, .int .i64 j2, .int .i64 j3, .int .i64 j4], .agg #[.int .i64 u, .int .i64 v]] w fun e w' => e = .returned (.bool true) ∧ Below w.heap.size w w' := by
  cases hok : layoutOk r s b o c y z with
  | false => exact rwr21_no r s b o c y z ad len cap (j1, j2, j3, j4) (u, v) ⟨hr, hb, ho, hc⟩ hok w
  | true =>
    obtain ⟨pg, sn, ns, hL⟩ := lay_mk hok
    obtain ⟨l, hl, hA, hg⟩ := int3s_of_rows hR
    exact rwr21_yes hL ad len cap (j1, j2, j3, j4) h3 (u, v) l w hA
theorem own : ownKnob Try.prog.godebug = none := by kernel_rfl
theorem laidOut : laidOutB Try.prog = true := by kernel_rfl
theorem pl0 : plain Try.prog 6 25 = some [.inl .i64, .inl .i64, .inl .i64, .inl .i64, .inl .i64, .inl .i64, .inl .i64] := by kernel_rfl
theorem pl1 : plain Try.prog 6 74 = some [.inl .i64, .inl .i64, .inl .i64] := by kernel_rfl
theorem ce1 : Try.prog.cellsOf 74 = 3 := by kernel_rfl
theorem pl2 : plain Try.prog 6 77 = some [.inl .i64, .inl .i64, .inl .i64, .inl .i64] := by kernel_rfl
theorem pl3 : plain Try.prog 6 72 = some [.inl .i64, .inl .i64] := by kernel_rfl
set_option maxRecDepth 100000 in
theorem lifted (os : Os) (started : os.Started) (H : Type) (enc : TypeId × Value → H) :
    ReturnsInHanded {} Try.checked os 13 .any (Rows.repairWrongSpec.pre6 enc Try.prog Try.f13 Rows.repairWrongRow.domain false) (Rows.repairWrongSpec.post enc Try.prog Try.f13 false true false false) := by
  refine returnsInHanded_of_change (C := Try.checked) own started (by kernel_rfl) Try.func13
    (ChangeSpec.witness6 (enc := enc) (C := Try.checked) false ⟨#[], #[.agg #[.int .i64 0, .int .i64 0, .int .i64 0, .int .i64 0, .int .i64 0, .int .i64 0, .int .i64 0], .slice none 0 0, .agg #[.int .i64 0, .int .i64 0, .int .i64 0, .int .i64 0], .agg #[.int .i64 0, .int .i64 0]], []⟩ 8 (by kernel_rfl) (by kernel_rfl) (by kernel_rfl) (by kernel_rfl)) ?_
  intro W base args ds gs before hval0 hW hcnd _
  have hval : ∀ (j : Nat) t v, Try.f13.params[j]? = some t → args[j]? = some v → Value.okWide Try.prog W .any base t v := hval0
  have hW' := hW
  obtain ⟨p, q, hA0, hV, rfl, hfz, hnd⟩ := hW
  have hA : DataW.TrodAll enc Try.prog W 0 (fun _ => true) true Try.f13.params.toList args.toList ds p := hA0
  rw [Try.params13] at hA hval
  obtain ⟨v0, vs0, d0, ds0, p0, q0, hargs, rfl, rfl, h0, r0⟩ := trodAll_cons hA
  obtain ⟨v1, vs1, d1, ds1, p1, q1, rfl, rfl, rfl, h1, r1⟩ := trodAll_cons r0
  obtain ⟨v2, vs2, d2, ds2, p2, q2, rfl, rfl, rfl, h2, r2⟩ := trodAll_cons r1
  obtain ⟨v3, vs3, d3, ds3, p3, q3, rfl, rfl, rfl, h3, r3⟩ := trodAll_cons r2
  obtain ⟨rfl, rfl, rfl⟩ := trodAll_nil r3
  obtain rfl : args = #[v0, v1, v2, v3] := by cases args; simp_all
  obtain ⟨rfl, rfl⟩ := trodVars_none hV
  have k0 := h0
  have lt0 : ∀ x ∈ p0, x.block < W.heap.size := by obtain ⟨m, hm⟩ := k0; exact DataW.trod_lt m _ _ _ hm
  obtain ⟨cs0, rfl, fit0⟩ := open_struct 6 pl0 Try.underlying25 (hval 0 25 v0 rfl rfl) h0
  simp only [fitsAll_cons, fitsAll_nil, lfFits] at fit0
  obtain ⟨_, _, rfl, ⟨a0_0, rfl, w0_0⟩, _, _, rfl, ⟨a0_1, rfl, w0_1⟩, _, _, rfl, ⟨a0_2, rfl, w0_2⟩, _, _, rfl, ⟨a0_3, rfl, w0_3⟩, _, _, rfl, ⟨a0_4, rfl, w0_4⟩, _, _, rfl, ⟨a0_5, rfl, w0_5⟩, _, _, rfl, ⟨a0_6, rfl, w0_6⟩, rfl⟩ := fit0
  have k1 := h1
  have lt1 : ∀ x ∈ p1, x.block < W.heap.size := by obtain ⟨m, hm⟩ := k1; exact DataW.trod_lt m _ _ _ hm
  obtain ⟨a1, len1, cap1, rows1, rfl, hl1, hm1, hr1⟩ := open_slice_plain 6 Try.underlying62 pl1 (ce1.trans rfl) (hval 1 62 v1 rfl rfl) h1
  have k2 := h2
  have lt2 : ∀ x ∈ p2, x.block < W.heap.size := by obtain ⟨m, hm⟩ := k2; exact DataW.trod_lt m _ _ _ hm
  obtain ⟨cs2, rfl, fit2⟩ := open_struct 6 pl2 Try.underlying77 (hval 2 77 v2 rfl rfl) h2
  simp only [fitsAll_cons, fitsAll_nil, lfFits] at fit2
  obtain ⟨_, _, rfl, ⟨a2_0, rfl, w2_0⟩, _, _, rfl, ⟨a2_1, rfl, w2_1⟩, _, _, rfl, ⟨a2_2, rfl, w2_2⟩, _, _, rfl, ⟨a2_3, rfl, w2_3⟩, rfl⟩ := fit2
  have k3 := h3
  have lt3 : ∀ x ∈ p3, x.block < W.heap.size := by obtain ⟨m, hm⟩ := k3; exact DataW.trod_lt m _ _ _ hm
  obtain ⟨cs3, rfl, fit3⟩ := open_struct 6 pl3 Try.underlying72 (hval 3 72 v3 rfl rfl) h3
  simp only [fitsAll_cons, fitsAll_nil, lfFits] at fit3
  obtain ⟨_, _, rfl, ⟨a3_0, rfl, w3_0⟩, _, _, rfl, ⟨a3_1, rfl, w3_1⟩, rfl⟩ := fit3
  clear hA0 hval0
  refine (walk a0_0 a0_1 a0_2 a0_3 a0_4 a0_5 a0_6 a3_0 a3_1 a2_0 a2_1 a2_2 a2_3 a1 len1 cap1 rows1 (wf_i64 w0_0).2 (wf_i64 w0_2).2 (wf_i64 w0_3).2 (wf_i64 w0_4).2 (wf_i64 w2_2) W hr1).mono fun e W' ⟨he, bel⟩ => ?_
  subst he
  exact ⟨_, rfl, _, _, _, [], _, [], hW', trodAll_mk1 (shut_bool Try.underlying4 _), (trodAll_cons_mk (Below.trod laidOut (by kernel_rfl) (of_decide_eq_true (by kernel_rfl)) k0 bel lt0) (trodAll_cons_mk (Below.trod laidOut (by kernel_rfl) (of_decide_eq_true (by kernel_rfl)) k1 bel lt1) (trodAll_cons_mk (Below.trod laidOut (by kernel_rfl) (of_decide_eq_true (by kernel_rfl)) k2 bel lt2) (trodAll_cons_mk (Below.trod laidOut (by kernel_rfl) (of_decide_eq_true (by kernel_rfl)) k3 bel lt3) trodAll_mk0)))), rfl, bel.frame _, fun h => by cases h⟩
theorem over : Rows.repairWrongRow.holds Try.pinned (OpenSpec.ofChange Rows.repairWrongSpec) :=
  OpenClaim.holds_of_wide 13 Try.f13 rfl rfl rfl rfl rfl rfl rfl ⟨rfl, rfl, rfl, rfl, rfl⟩ rfl rfl rfl rfl rfl (by kernel_rfl) Try.func13 (by kernel_rfl)
    (of_decide_eq_true (by kernel_rfl)) (by unfold Func.isWrapper; first | (rw [if_pos (by decide +kernel)]; kernel_rfl) | (rw [if_neg (by decide +kernel)]; exact ⟨rfl, rfl⟩))
    (fun os started H enc _ => lifted os started H enc)
/-- The statement. -/
theorem proved : Rows.RepairWrongSaid := over
#print axioms proved
end Go.Proofs.Ytpmnnijjohlloaa.repairWrong
