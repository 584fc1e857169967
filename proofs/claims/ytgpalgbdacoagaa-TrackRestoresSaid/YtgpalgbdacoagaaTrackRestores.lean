/- Behind every play a tracker that is restored from its state goes on as the tracker; a state is refused just if the document says so: for every input the Go function TrackRestores returns true. -/
import Derived.Test.YtgpalgbdacoagaaTrkT
import Derived.Lib.Hide
namespace Go.Proofs.Ytgpalgbdacoagaa.trackRestores
open Go.ChangeShapes Go.WideShapes Go.ChangeAt Go.RowKit
set_option linter.unusedVariables false

theorem buks_of_rows {w : World} {a : Option Addr} {len : Nat} {rows : List (List Value)} (h : rowsAt w [.inl .i64, .inl .i64] a len rows) : ∃ l : List Buk, l.length = len ∧ RAt bukL 2 (0, 0) w a len l := by
  obtain ⟨l, h1, h2, _⟩ := rat_of_rows bukL 2 ((0, 0) : Buk) (fun r => (intOf (r[0]?.getD .nilFunc), intOf (r[1]?.getD .nilFunc))) (fun r h => by
    simp only [fitsAll_cons, fitsAll_nil, lfFits] at h
    obtain ⟨_, _, rfl, ⟨x, rfl, wx⟩, _, _, rfl, ⟨y, rfl, wy⟩, rfl⟩ := h
    rfl) rfl (by decide) h
  exact ⟨l, h1, h2⟩

theorem walk (rL rE pL pE room hv rk : Int) (aO aM aR aP aB : Option Addr) (nO cO nM cM nR cR nP cP nB cB : Nat) (rO rM rR rP rB : List (List Value)) (w : World) (hO : rowsAt w [.inl .i64, .inl .i64, .inl .i64, .inl .i64] aO nO rO) (hM : rowsAt w [.inl .i64, .inl .i64, .inl .i64, .inl .i64] aM nM rM)
    (hcP : nP ≤ cP) (hR : rowsAt w [.inl .i64, .inl .i64] aR nR rR) (hP : rowsAt w [.inl .i64] aP nP rP) (hB : rowsAt w [.inl .i64, .inl .i64] aB nB rB) :
    Calls Try.prog 13 #[.agg #[.int .i64 rL, .int .i64 rE, .int .i64 pL, .int .i64 pE, .int .i64 room, .int .i64 hv], .int .i64 rk, .slice aO nO cO, .slice aM nM cM, .agg #[.slice aR nR cR, .slice aP nP cP, .slice aB nB cB]] w fun e w' => e = .returned (.bool true) ∧ Below w.heap.size w w' := by
  by_cases hl : nO ≤ 30 ∧ nM ≤ 30 ∧ nR ≤ 20 ∧ nP ≤ 300 ∧ nB ≤ 300
  · obtain ⟨l1, l2, l3, l4, l5⟩ := hl
    by_cases h : Rul rL rE pL pE room hv
    · obtain ⟨r, rfl⟩ := Int.eq_ofNat_of_zero_le (show 0 ≤ room by have := h.2.2.1; omega)
      obtain ⟨lO, -, hO'⟩ := int4s_of_rows hO
      obtain ⟨lM, -, hM'⟩ := int4s_of_rows hM
      obtain ⟨lR, hlR, hR'⟩ := buks_of_rows hR
      obtain ⟨lP, -, hP'⟩ := ints1_of_rows hP
      obtain ⟨lB, -, hB'⟩ := buks_of_rows hB
      obtain ⟨fit, hfit⟩ : ∃ fit : Bool, fit = true ↔ FitT r rE pE lR lP lB nR nP nB := by
        by_cases hf : FitT r rE pE lR lP lB nR nP nB
        · exact ⟨true, by simp [hf]⟩
        · exact ⟨false, by simp [hf]⟩
      exact rest_in rL rE pL pE hv rk r aO aM aR aP aB nO nM nR nP nB cO cM cR cP cB l1 l2 l3 l4 l5 lR lP lB lO lM hlR hcP fit hfit h w hO' hM' hR' hP' hB'
    · exact rest_rules rL rE pL pE hv room rk aO aM aR aP aB nO nM nR nP nB cO cM cR cP cB l1 l2 l3 l4 l5 h w
  · exact rest_long rL rE pL pE hv room rk aO aM aR aP aB nO nM nR nP nB cO cM cR cP cB (by omega) w

theorem own : ownKnob Try.prog.godebug = none := by kernel_rfl
theorem laidOut : laidOutB Try.prog = true := by kernel_rfl
theorem pl0 : plain Try.prog 6 80 = some [.inl .i64, .inl .i64, .inl .i64, .inl .i64, .inl .i64, .inl .i64] := by kernel_rfl
theorem pl2 : plain Try.prog 6 88 = some [.inl .i64, .inl .i64, .inl .i64, .inl .i64] := by kernel_rfl
theorem ce2 : Try.prog.cellsOf 88 = 4 := by kernel_rfl
theorem pl3 : plain Try.prog 6 88 = some [.inl .i64, .inl .i64, .inl .i64, .inl .i64] := by kernel_rfl
theorem ce3 : Try.prog.cellsOf 88 = 4 := by kernel_rfl
theorem pl4 : mixed Try.prog 147 = some [.inr [.inl .i64, .inl .i64], .inr [.inl .i64], .inr [.inl .i64, .inl .i64]] := by kernel_rfl
set_option maxRecDepth 100000 in
theorem lifted (os : Os) (started : os.Started) (H : Type) (enc : TypeId × Value → H) :
    ReturnsInHanded {} Try.checked os 13 .any (Rows.trackRestoresSpec.pre6 enc Try.prog Try.f13 Rows.trackRestoresRow.domain false) (Rows.trackRestoresSpec.post enc Try.prog Try.f13 false true false false) := by
  refine returnsInHanded_of_change (C := Try.checked) own started (by kernel_rfl) Try.func13
    (ChangeSpec.witness6 (enc := enc) (C := Try.checked) false ⟨#[], #[.agg #[.int .i64 0, .int .i64 0, .int .i64 0, .int .i64 0, .int .i64 0, .int .i64 0], .int .i64 0, .slice none 0 0, .slice none 0 0, .agg #[.slice none 0 0, .slice none 0 0, .slice none 0 0]], []⟩ 8 (by kernel_rfl) (by kernel_rfl) (by kernel_rfl) (by kernel_rfl)) ?_
  intro W base args ds gs before hval0 hW hcnd _
  have hval : ∀ (j : Nat) t v, Try.f13.params[j]? = some t → args[j]? = some v → Value.okWide Try.prog W .any base t v := hval0
  have hW' := hW
  obtain ⟨p, q, hA0, hV, rfl, hfz, hnd⟩ := hW
  have hA : DataW.TrodAll enc Try.prog W 0 (fun _ => true) true Try.f13.params.toList args.toList ds p := hA0
  rw [Try.params13] at hA hval
  obtain ⟨v0, vs0, d0, ds0, p0, q0, hargs, rfl, rfl, h0, r0⟩ := trodAll_cons hA
  obtain ⟨v1, vs1, d1, ds1, p1, q1, rfl, rfl, rfl, h1, r1⟩ := trodAll_cons r0
  obtain ⟨v2, vs2, d2, ds2, p2, q2, rfl, rfl, rfl, h2, r2⟩ := trodAll_cons r1
  obtain ⟨v3, vs3, d3, ds3, p3, q3, rfl, rfl, rfl, h3, r3⟩ := trodAll_cons r2
  obtain ⟨v4, vs4, d4, ds4, p4, q4, rfl, rfl, rfl, h4, r4⟩ := trodAll_cons r3
  obtain ⟨rfl, rfl, rfl⟩ := trodAll_nil r4
  obtain rfl : args = #[v0, v1, v2, v3, v4] := by cases args; simp_all
  obtain ⟨rfl, rfl⟩ := trodVars_none hV
  have k0 := h0
  have lt0 : ∀ x ∈ p0, x.block < W.heap.size := by obtain ⟨m, hm⟩ := k0; exact DataW.trod_lt m _ _ _ hm
  obtain ⟨cs0, rfl, fit0⟩ := open_struct 6 pl0 Try.underlying80 (hval 0 80 v0 rfl rfl) h0
  simp only [fitsAll_cons, fitsAll_nil, lfFits] at fit0
  obtain ⟨_, _, rfl, ⟨a0_0, rfl, w0_0⟩, _, _, rfl, ⟨a0_1, rfl, w0_1⟩, _, _, rfl, ⟨a0_2, rfl, w0_2⟩, _, _, rfl, ⟨a0_3, rfl, w0_3⟩, _, _, rfl, ⟨a0_4, rfl, w0_4⟩, _, _, rfl, ⟨a0_5, rfl, w0_5⟩, rfl⟩ := fit0
  obtain ⟨a1, rfl, rfl, rfl, w1⟩ := open_int Try.underlying3 (hval 1 3 v1 rfl rfl) h1
  have k2 := h2
  have lt2 : ∀ x ∈ p2, x.block < W.heap.size := by obtain ⟨m, hm⟩ := k2; exact DataW.trod_lt m _ _ _ hm
  obtain ⟨a2, len2, cap2, rows2, rfl, hl2, hm2, hr2⟩ := open_slice_plain 6 Try.underlying81 pl2 (ce2.trans rfl) (hval 2 81 v2 rfl rfl) h2
  have k3 := h3
  have lt3 : ∀ x ∈ p3, x.block < W.heap.size := by obtain ⟨m, hm⟩ := k3; exact DataW.trod_lt m _ _ _ hm
  obtain ⟨a3, len3, cap3, rows3, rfl, hl3, hm3, hr3⟩ := open_slice_plain 6 Try.underlying81 pl3 (ce3.trans rfl) (hval 3 81 v3 rfl rfl) h3
  have k4 := h4
  have lt4 : ∀ x ∈ p4, x.block < W.heap.size := by obtain ⟨m, hm⟩ := k4; exact DataW.trod_lt m _ _ _ hm
  obtain ⟨cs4, rfl, fit4⟩ := open_mixed pl4 Try.underlying147 (hval 4 147 v4 rfl rfl) h4
  simp only [fitsMix_cons, fitsMix_nil, fldFits, lfFits] at fit4
  obtain ⟨_, _, rfl, ⟨a4_0, len4_0, cap4_0, rows4_0, rfl, hl4_0, hm4_0, hz4_0, hr4_0⟩, _, _, rfl, ⟨a4_1, len4_1, cap4_1, rows4_1, rfl, hl4_1, hm4_1, hz4_1, hr4_1⟩, _, _, rfl, ⟨a4_2, len4_2, cap4_2, rows4_2, rfl, hl4_2, hm4_2, hz4_2, hr4_2⟩, rfl⟩ := fit4
  clear hA0 hval0
  refine (walk a0_0 a0_1 a0_2 a0_3 a0_4 a0_5 a1 a2 a3 a4_0 a4_1 a4_2 len2 cap2 len3 cap3 len4_0 cap4_0 len4_1 cap4_1 len4_2 cap4_2 rows2 rows3 rows4_0 rows4_1 rows4_2 W hr2 hr3 hl4_1 hr4_0 hr4_1 hr4_2).mono fun e W' ⟨he, bel⟩ => ?_
  subst he
  exact ⟨_, rfl, _, _, _, [], _, [], hW', trodAll_mk1 (shut_bool Try.underlying4 _), (trodAll_cons_mk (Below.trod laidOut (by kernel_rfl) (of_decide_eq_true (by kernel_rfl)) k0 bel lt0) (trodAll_cons_mk (shut_int Try.underlying3 w1) (trodAll_cons_mk (Below.trod laidOut (by kernel_rfl) (of_decide_eq_true (by kernel_rfl)) k2 bel lt2) (trodAll_cons_mk (Below.trod laidOut (by kernel_rfl) (of_decide_eq_true (by kernel_rfl)) k3 bel lt3) (trodAll_cons_mk (Below.trod laidOut (by kernel_rfl) (of_decide_eq_true (by kernel_rfl)) k4 bel lt4) trodAll_mk0))))), rfl, bel.frame _, fun h => by cases h⟩

theorem over : Rows.trackRestoresRow.holds Try.pinned (OpenSpec.ofChange Rows.trackRestoresSpec) :=
  OpenClaim.holds_of_wide 13 Try.f13 rfl rfl rfl rfl rfl rfl rfl ⟨rfl, rfl, rfl, rfl, rfl⟩ rfl rfl rfl rfl rfl (by kernel_rfl) Try.func13 (by kernel_rfl)
    (of_decide_eq_true (by kernel_rfl)) (by unfold Func.isWrapper; first | (rw [if_pos (by decide +kernel)]; kernel_rfl) | (rw [if_neg (by decide +kernel)]; exact ⟨rfl, rfl⟩))
    (fun os started H enc _ => lifted os started H enc)

/-- The statement. -/
theorem proved : Rows.TrackRestoresSaid := over
#print axioms proved
end Go.Proofs.Ytgpalgbdacoagaa.trackRestores
