/- Behind every play a repair that is restored from its state goes on as the repair: what waits, waits there, too: for every input the Go function RepairRestores returns true. -/
import Derived.Test.YtpmnnijjohlloaaGreatRprY
import Derived.Lib.Hide
namespace Go.Proofs.YtpmnnijjohlloaaGreat.repairRestores
open Go.ChangeShapes Go.WideShapes Go.ChangeAt Go.RowKit
set_option linter.unusedVariables false
theorem walk (r s b o c y z : Int) (ad ae : Option Addr) (len cap len2 cap2 : Nat) (rows rows2 : List (List Value)) (hr : r ≤ 9223372036854775807) (hb : b ≤ 9223372036854775807) (ho : o ≤ 9223372036854775807) (hc : c ≤ 9223372036854775807) (w : World) (hR : rowsAt w [.inl .i64, .inl .i64, .inl .i64] ad len rows) (hR2 : rowsAt w [.inl .i64, .inl .i64, .inl .i64] ae len2 rows2) :
    Calls Tryz.prog 3 #[.agg #[.int .i64 r, .int .i64 s, .int .i64 b, .int .i64 o, .int .i64 c, .int .i64 y, .int .i64 z], .slice ad len cap, .slice ae len2 cap2] w fun e w' => e = .returned (.bool true) ∧ Below w.heap.size w w' := by
  cases hok : layoutOk r s b o c y z with
  | false => exact rrs21_no r s b o c y z ad ae len cap len2 cap2 ⟨hr, hb, ho, hc⟩ hok w
  | true =>
    obtain ⟨pg, sn, ns, hL⟩ := lay_mk hok
    obtain ⟨l, hl, hA, hg⟩ := int3s_of_rows hR
    obtain ⟨l2, hl2, hA2, hg2⟩ := int3s_of_rows hR2
    exact rrs21_yes hL ad ae len cap len2 cap2 l l2 w hA hA2
theorem own : ownKnob Tryz.prog.godebug = none := by kernel_rfl
theorem laidOut : laidOutB Tryz.prog = true := by kernel_rfl
theorem pl0 : plain Tryz.prog 6 25 = some [.inl .i64, .inl .i64, .inl .i64, .inl .i64, .inl .i64, .inl .i64, .inl .i64] := by kernel_rfl
theorem pl1 : plain Tryz.prog 6 54 = some [.inl .i64, .inl .i64, .inl .i64] := by kernel_rfl
theorem ce1 : Tryz.prog.cellsOf 54 = 3 := by kernel_rfl
theorem pl2 : plain Tryz.prog 6 54 = some [.inl .i64, .inl .i64, .inl .i64] := by kernel_rfl
theorem ce2 : Tryz.prog.cellsOf 54 = 3 := by kernel_rfl
set_option maxRecDepth 100000 in
theorem lifted (os : Os) (started : os.Started) (H : Type) (enc : TypeId × Value → H) :
    ReturnsInHanded {} Tryz.checked os 3 .any (Rows.repairRestoresSpec.pre6 enc Tryz.prog Tryz.f3 Rows.repairRestoresRow.domain false) (Rows.repairRestoresSpec.post enc Tryz.prog Tryz.f3 false true false false) := by
  refine returnsInHanded_of_change (C := Tryz.checked) own started (by kernel_rfl) Tryz.func3
    (ChangeSpec.witness6 (enc := enc) (C := Tryz.checked) false ⟨#[], #[.agg #[.int .i64 0, .int .i64 0, .int .i64 0, .int .i64 0, .int .i64 0, .int .i64 0, .int .i64 0], .slice none 0 0, .slice none 0 0], []⟩ 8 (by kernel_rfl) (by kernel_rfl) (by kernel_rfl) (by kernel_rfl)) ?_
  intro W base args ds gs before hval0 hW hcnd _
  have hval : ∀ (j : Nat) t v, Tryz.f3.params[j]? = some t → args[j]? = some v → Value.okWide Tryz.prog W .any base t v := hval0
  have hW' := hW
  obtain ⟨p, q, hA0, hV, rfl, hfz, hnd⟩ := hW
  have hA : DataW.TrodAll enc Tryz.prog W 0 (fun _ => true) true Tryz.f3.params.toList args.toList ds p := hA0
  rw [Tryz.params3] at hA hval
  obtain ⟨v0, vs0, d0, ds0, p0, q0, hargs, rfl, rfl, h0, r0⟩ := trodAll_cons hA
  obtain ⟨v1, vs1, d1, ds1, p1, q1, rfl, rfl, rfl, h1, r1⟩ := trodAll_cons r0
  obtain ⟨v2, vs2, d2, ds2, p2, q2, rfl, rfl, rfl, h2, r2⟩ := trodAll_cons r1
  obtain ⟨rfl, rfl, rfl⟩ := trodAll_nil r2
  obtain rfl : args = #[v0, v1, v2] := by cases args; simp_all
  obtain ⟨rfl, rfl⟩ := trodVars_none hV
  have k0 := h0
  have lt0 : ∀ x ∈ p0, x.block < W.heap.size := by obtain ⟨m, hm⟩ := k0; exact DataW.trod_lt m _ _ _ hm
  obtain ⟨cs0, rfl, fit0⟩ := open_struct 6 pl0 Tryz.underlying25 (hval 0 25 v0 rfl rfl) h0
  simp only [fitsAll_cons, fitsAll_nil, lfFits] at fit0
  obtain ⟨_, _, rfl, ⟨a0_0, rfl, w0_0⟩, _, _, rfl, ⟨a0_1, rfl, w0_1⟩, _, _, rfl, ⟨a0_2, rfl, w0_2⟩, _, _, rfl, ⟨a0_3, rfl, w0_3⟩, _, _, rfl, ⟨a0_4, rfl, w0_4⟩, _, _, rfl, ⟨a0_5, rfl, w0_5⟩, _, _, rfl, ⟨a0_6, rfl, w0_6⟩, rfl⟩ := fit0
  have k1 := h1
  have lt1 : ∀ x ∈ p1, x.block < W.heap.size := by obtain ⟨m, hm⟩ := k1; exact DataW.trod_lt m _ _ _ hm
  obtain ⟨a1, len1, cap1, rows1, rfl, hl1, hm1, hr1⟩ := open_slice_plain 6 Tryz.underlying26 pl1 (ce1.trans rfl) (hval 1 26 v1 rfl rfl) h1
  have k2 := h2
  have lt2 : ∀ x ∈ p2, x.block < W.heap.size := by obtain ⟨m, hm⟩ := k2; exact DataW.trod_lt m _ _ _ hm
  obtain ⟨a2, len2, cap2, rows2, rfl, hl2, hm2, hr2⟩ := open_slice_plain 6 Tryz.underlying26 pl2 (ce2.trans rfl) (hval 2 26 v2 rfl rfl) h2
  clear hA0 hval0
  refine (walk a0_0 a0_1 a0_2 a0_3 a0_4 a0_5 a0_6 a1 a2 len1 cap1 len2 cap2 rows1 rows2 (wf_i64 w0_0).2 (wf_i64 w0_2).2 (wf_i64 w0_3).2 (wf_i64 w0_4).2 W hr1 hr2).mono fun e W' ⟨he, bel⟩ => ?_
  subst he
  exact ⟨_, rfl, _, _, _, [], _, [], hW', trodAll_mk1 (shut_bool Tryz.underlying4 _), (trodAll_cons_mk (Below.trod laidOut (by kernel_rfl) (of_decide_eq_true (by kernel_rfl)) k0 bel lt0) (trodAll_cons_mk (Below.trod laidOut (by kernel_rfl) (of_decide_eq_true (by kernel_rfl)) k1 bel lt1) (trodAll_cons_mk (Below.trod laidOut (by kernel_rfl) (of_decide_eq_true (by kernel_rfl)) k2 bel lt2) trodAll_mk0))), rfl, bel.frame _, fun h => by cases h⟩
theorem over : Rows.repairRestoresRow.holds Tryz.pinned (OpenSpec.ofChange Rows.repairRestoresSpec) :=
  OpenClaim.holds_of_wide 3 Tryz.f3 rfl rfl rfl rfl rfl rfl rfl ⟨rfl, rfl, rfl, rfl, rfl⟩ rfl rfl rfl rfl rfl (by kernel_rfl) Tryz.func3 (by kernel_rfl)
    (of_decide_eq_true (by kernel_rfl)) (by unfold Func.isWrapper; first | (rw [if_pos (by decide +kernel)]; kernel_rfl) | (rw [if_neg (by decide +kernel)]; exact ⟨rfl, rfl⟩))
    (fun os started H enc _ => lifted os started H enc)
/-- The statement. -/
theorem proved : Rows.RepairRestoresSaid := over
#print axioms proved
end Go.Proofs.YtpmnnijjohlloaaGreat.repairRestores
