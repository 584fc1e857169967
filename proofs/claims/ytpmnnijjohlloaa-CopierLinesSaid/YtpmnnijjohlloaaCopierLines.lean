/- A job may be just if the document says so; the source and the goal of each of its lines are its, and come in order, from Next on: for every input the Go function CopierLines returns true. -/
import Derived.Test.YtpmnnijjohlloaaCplD
import Derived.Lib.Hide
namespace Go.Proofs.Ytpmnnijjohlloaa.copierLines
open Go.ChangeShapes Go.WideShapes Go.ChangeAt Go.RowKit
set_option linter.unusedVariables false
def entOf (r : List Value) : Ent := (intOf (r[0]?.getD .nilFunc), intOf (r[1]?.getD .nilFunc))
theorem ent_dec (r : List Value) (h : fitsAll [.inl .i64, .inl .i64] r) : entL (entOf r) = r := by
  simp only [fitsAll_cons, fitsAll_nil, lfFits] at h
  obtain ⟨_, _, rfl, ⟨x, rfl, wx⟩, _, _, rfl, ⟨y, rfl, wy⟩, rfl⟩ := h
  simp [entL, entOf, intOf]
theorem ents_of_rows {w : World} {a : Option Addr} {len : Nat} {rows : List (List Value)} (h : rowsAt w [.inl .i64, .inl .i64] a len rows) : ∃ l : List Ent, l.length = len ∧ RAt entL 2 (0, 0) w a len l := by
  obtain ⟨l, h1, h2, _⟩ := rat_of_rows entL 2 ((0, 0) : Ent) entOf ent_dec rfl (by decide) h
  exact ⟨l, h1, h2⟩
theorem walk (r s b o c y z j1 j2 j3 j4 i : Int) (ad : Option Addr) (len cap : Nat) (rows : List (List Value)) (hr : r ≤ 9223372036854775807) (hb : b ≤ 9223372036854775807) (ho : o ≤ 9223372036854775807) (hc : c ≤ 9223372036854775807) (h3 : -9223372036854775808 ≤ j3 ∧ j3 ≤ 9223372036854775807) (w : World) (hR : rowsAt w [.inl .i64, .inl .i64] ad len rows) :
    Calls Try.prog 8 #[.agg #[.int .i64 r, .int .i64 s, .int .i64 b, .int .i64 o, .int .i64 c, .int .i64 y, .int .i64 z], .slice ad len cap, .agg #[.int .i64 j1, .int .i64 j2, .int .i64 j3, .int .i64 j4], .int .i64 i] w fun e w' => e = .returned (.bool true) ∧ Below w.heap.size w w' := by
  cases hok : layoutOk r s b o c y z with
  | false => exact cpl_no r s b o c y z ad len cap (j1, j2, j3, j4) i ⟨hr, hb, ho, hc⟩ hok w
  | true =>
    obtain ⟨pg, sn, ns, hL⟩ := lay_mk hok
    obtain ⟨l, hl, hA⟩ := ents_of_rows hR
    exact cpl_yes hL ad len cap (j1, j2, j3, j4) h3 i l w hA
theorem own : ownKnob Try.prog.godebug = none := by kernel_rfl
theorem laidOut : laidOutB Try.prog = true := by kernel_rfl
theorem pl0 : plain Try.prog 6 25 = some [.inl .i64, .inl .i64, .inl .i64, .inl .i64, .inl .i64, .inl .i64, .inl .i64] := by kernel_rfl
theorem pl1 : plain Try.prog 6 141 = some [.inl .i64, .inl .i64] := by kernel_rfl
theorem ce1 : Try.prog.cellsOf 141 = 2 := by kernel_rfl
theorem pl2 : plain Try.prog 6 77 = some [.inl .i64, .inl .i64, .inl .i64, .inl .i64] := by kernel_rfl
set_option maxRecDepth 100000 in
theorem lifted (os : Os) (started : os.Started) (H : Type) (enc : TypeId × Value → H) :
    ReturnsInHanded {} Try.checked os 8 .any (Rows.copierLinesSpec.pre6 enc Try.prog Try.f8 Rows.copierLinesRow.domain false) (Rows.copierLinesSpec.post enc Try.prog Try.f8 false true false false) := by
  refine returnsInHanded_of_change (C := Try.checked) own started (by kernel_rfl) Try.func8
    (ChangeSpec.witness6 (enc := enc) (C := Try.checked) false ⟨#[], #[.agg #[.int .i64 0, .int .i64 0, .int .i64 0, .int .i64 0, .int .i64 0, .int .i64 0, .int .i64 0], .slice none 0 0, .agg #[.int .i64 0, .int .i64 0, .int .i64 0, .int .i64 0], .int .i64 0], []⟩ 8 (by kernel_rfl) (by kernel_rfl) (by kernel_rfl) (by kernel_rfl)) ?_
  intro W base args ds gs before hval0 hW hcnd _
  have hval : ∀ (j : Nat) t v, Try.f8.params[j]? = some t → args[j]? = some v → Value.okWide Try.prog W .any base t v := hval0
  have hW' := hW
  obtain ⟨p, q, hA0, hV, rfl, hfz, hnd⟩ := hW
  have hA : DataW.TrodAll enc Try.prog W 0 (fun _ => true) true Try.f8.params.toList args.toList ds p := hA0
  rw [Try.params8] at hA hval
  obtain ⟨v0, vs0, d0, ds0, p0, q0, hargs, rfl, rfl, h0, r0⟩ := trodAll_cons hA
  obtain ⟨v1, vs1, d1, ds1, p1, q1, rfl, rfl, rfl, h1, r1⟩ := trodAll_cons r0
  obtain ⟨v2, vs2, d2, ds2, p2, q2, rfl, rfl, rfl, h2, r2⟩ := trodAll_cons r1
  obtain ⟨v3, vs3, d3, ds3, p3, q3, rfl, rfl, rfl, h3, r3⟩ := trodAll_cons r2
  obtain ⟨rfl, rfl, rfl⟩ := trodAll_nil r3
  obtain rfl : args = #[v0, v1, v2, v3] := by cases args; simp_all
  obtain ⟨rfl, rfl⟩ := trodVars_none hV
  have k0 := h0
  have lt0 : ∀ x ∈ p0, x.block < W.heap.size := by obtain ⟨m, hm⟩ := k0; exact DataW.trod_lt m _ _ _ hm
  obtain ⟨cs0, rfl, fit0⟩ := open_struct 6 pl0 Try.underlying25 (hval 0 25 v0 rfl rfl) h0
  simp only [fitsAll_cons, fitsAll_nil, lfFits] at fit0
  obtain ⟨_, _, rfl, ⟨a0_0, rfl, w0_0⟩, _, _, rfl, ⟨a0_1, rfl, w0_1⟩, _, _, rfl, ⟨a0_2, rfl, w0_2⟩, _, _, rfl, ⟨a0_3, rfl, w0_3⟩, _, _, rfl, ⟨a0_4, rfl, w0_4⟩, _, _, rfl, ⟨a0_5, rfl, w0_5⟩, _, _, rfl, ⟨a0_6, rfl, w0_6⟩, rfl⟩ := fit0
  have k1 := h1
  have lt1 : ∀ x ∈ p1, x.block < W.heap.size := by obtain ⟨m, hm⟩ := k1; exact DataW.trod_lt m _ _ _ hm
  obtain ⟨a1, len1, cap1, rows1, rfl, hl1, hm1, hr1⟩ := open_slice_plain 6 Try.underlying85 pl1 (ce1.trans rfl) (hval 1 85 v1 rfl rfl) h1
  have k2 := h2
  have lt2 : ∀ x ∈ p2, x.block < W.heap.size := by obtain ⟨m, hm⟩ := k2; exact DataW.trod_lt m _ _ _ hm
  obtain ⟨cs2, rfl, fit2⟩ := open_struct 6 pl2 Try.underlying77 (hval 2 77 v2 rfl rfl) h2
  simp only [fitsAll_cons, fitsAll_nil, lfFits] at fit2
  obtain ⟨_, _, rfl, ⟨a2_0, rfl, w2_0⟩, _, _, rfl, ⟨a2_1, rfl, w2_1⟩, _, _, rfl, ⟨a2_2, rfl, w2_2⟩, _, _, rfl, ⟨a2_3, rfl, w2_3⟩, rfl⟩ := fit2
  obtain ⟨a3, rfl, rfl, rfl, w3⟩ := open_int Try.underlying3 (hval 3 3 v3 rfl rfl) h3
  clear hA0 hval0
  refine (walk a0_0 a0_1 a0_2 a0_3 a0_4 a0_5 a0_6 a2_0 a2_1 a2_2 a2_3 a3 a1 len1 cap1 rows1 (wf_i64 w0_0).2 (wf_i64 w0_2).2 (wf_i64 w0_3).2 (wf_i64 w0_4).2 (wf_i64 w2_2) W hr1).mono fun e W' ⟨he, bel⟩ => ?_
  subst he
  exact ⟨_, rfl, _, _, _, [], _, [], hW', trodAll_mk1 (shut_bool Try.underlying4 _), (trodAll_cons_mk (Below.trod laidOut (by kernel_rfl) (of_decide_eq_true (by kernel_rfl)) k0 bel lt0) (trodAll_cons_mk (Below.trod laidOut (by kernel_rfl) (of_decide_eq_true (by kernel_rfl)) k1 bel lt1) (trodAll_cons_mk (Below.trod laidOut (by kernel_rfl) (of_decide_eq_true (by kernel_rfl)) k2 bel lt2) (trodAll_cons_mk (shut_int Try.underlying3 w3) trodAll_mk0)))), rfl, bel.frame _, fun h => by cases h⟩
theorem over : Rows.copierLinesRow.holds Try.pinned (OpenSpec.ofChange Rows.copierLinesSpec) :=
  OpenClaim.holds_of_wide 8 Try.f8 rfl rfl rfl rfl rfl rfl rfl ⟨rfl, rfl, rfl, rfl, rfl⟩ rfl rfl rfl rfl rfl (by kernel_rfl) Try.func8 (by kernel_rfl)
    (of_decide_eq_true (by kernel_rfl)) (by unfold Func.isWrapper; first | (rw [if_pos (by decide +kernel)]; kernel_rfl) | (rw [if_neg (by decide +kernel)]; exact ⟨rfl, rfl⟩))
    (fun os started H enc _ => lifted os started H enc)
/-- The statement. -/
theorem proved : Rows.CopierLinesSaid := over
#print axioms proved
end Go.Proofs.Ytpmnnijjohlloaa.copierLines
