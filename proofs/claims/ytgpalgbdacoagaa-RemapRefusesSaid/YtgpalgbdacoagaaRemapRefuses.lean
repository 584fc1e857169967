/- Of any state there is a map just if the document says so: for every input the Go function RemapRefuses returns true. -/
import Derived.Test.YtgpalgbdacoagaaRemapM
import Derived.Test.YtgpalgbdacoagaaRemapN
import Derived.Lib.Hide
namespace Go.Proofs.Ytgpalgbdacoagaa.remapRefuses
open Go.ChangeShapes Go.WideShapes Go.ChangeAt Go.RowKit
set_option linter.unusedVariables false

theorem walk (r s b o c y z pu ru : Int) (aL aD aS : Option Addr) (nl cL nd cD nq cS : Nat) (rL rD rS : List (List Value)) (hr : r ≤ 9223372036854775807) (hb : b ≤ 9223372036854775807) (ho : o ≤ 9223372036854775807) (hc : c ≤ 9223372036854775807) (w : World)
    (hn : nd ≤ cD) (hm : cD ≤ maxLen) (hRL : rowsAt w [.inl .i64] aL nl rL) (hRD : rowsAt w [.inl .i64] aD nd rD) (hRS : rowsAt w [.inl .i64] aS nq rS) :
    Calls Try.prog 12 #[.agg #[.int .i64 r, .int .i64 s, .int .i64 b, .int .i64 o, .int .i64 c, .int .i64 y, .int .i64 z], .agg #[.slice aL nl cL, .slice aD nd cD, .slice aS nq cS, .int .i64 pu, .int .i64 ru]] w fun e w' => e = .returned (.bool true) ∧ Below w.heap.size w w' := by
  have hnd : nd ≤ 9223372036854775807 := by have := Nat.le_trans hn hm; unfold maxLen at this; omega
  obtain ⟨lL, -, hIL, -⟩ := intsAt_of_rows hRL
  obtain ⟨lD, -, hID, -⟩ := intsAt_of_rows hRD
  obtain ⟨lS, -, hIS, hxS⟩ := intsAt_of_rows hRS
  cases hok : layoutOk r s b o c y z with
  | false => exact refuse_no r s b o c y z aL aD aS nl cL nd cD nq cS pu ru ⟨hr, hb, ho, hc⟩ hok w
  | true =>
    obtain ⟨pg, sn, ns, hL⟩ := lay_mk hok
    cases hf : fitsB nl sn nq r z s pu ru with
    | false => exact refuse_form hL aL aD aS nl cL nd cD nq cS pu ru lL lD lS hf w hIL hID hIS
    | true =>
      obtain ⟨-, -, ⟨p0, -⟩, q0, -⟩ := fitsB_parts hf
      obtain ⟨pn, rfl⟩ := Int.eq_ofNat_of_zero_le p0
      obtain ⟨rn, rfl⟩ := Int.eq_ofNat_of_zero_le q0
      exact refuse_in hL aL aD aS nl cL nd cD nq cS lL lD lS hxS hnd hf w hIL hID hIS

theorem own : ownKnob Try.prog.godebug = none := by kernel_rfl
theorem laidOut : laidOutB Try.prog = true := by kernel_rfl
theorem pl0 : plain Try.prog 6 69 = some [.inl .i64, .inl .i64, .inl .i64, .inl .i64, .inl .i64, .inl .i64, .inl .i64] := by kernel_rfl
theorem pl1 : mixed Try.prog 142 = some [.inr [.inl .i64], .inr [.inl .i64], .inr [.inl .i64], .inl (.inl .i64), .inl (.inl .i64)] := by kernel_rfl
set_option maxRecDepth 100000 in
theorem lifted (os : Os) (started : os.Started) (H : Type) (enc : TypeId × Value → H) :
    ReturnsInHanded {} Try.checked os 12 .any (Rows.remapRefusesSpec.pre6 enc Try.prog Try.f12 Rows.remapRefusesRow.domain false) (Rows.remapRefusesSpec.post enc Try.prog Try.f12 false true false false) := by
  refine returnsInHanded_of_change (C := Try.checked) own started (by kernel_rfl) Try.func12
    (ChangeSpec.witness6 (enc := enc) (C := Try.checked) false ⟨#[], #[.agg #[.int .i64 0, .int .i64 0, .int .i64 0, .int .i64 0, .int .i64 0, .int .i64 0, .int .i64 0], .agg #[.slice none 0 0, .slice none 0 0, .slice none 0 0, .int .i64 0, .int .i64 0]], []⟩ 8 (by kernel_rfl) (by kernel_rfl) (by kernel_rfl) (by kernel_rfl)) ?_
  intro W base args ds gs before hval0 hW hcnd _
  have hval : ∀ (j : Nat) t v, Try.f12.params[j]? = some t → args[j]? = some v → Value.okWide Try.prog W .any base t v := hval0
  have hW' := hW
  obtain ⟨p, q, hA0, hV, rfl, hfz, hnd⟩ := hW
  have hA : DataW.TrodAll enc Try.prog W 0 (fun _ => true) true Try.f12.params.toList args.toList ds p := hA0
  rw [Try.params12] at hA hval
  obtain ⟨v0, vs0, d0, ds0, p0, q0, hargs, rfl, rfl, h0, r0⟩ := trodAll_cons hA
  obtain ⟨v1, vs1, d1, ds1, p1, q1, rfl, rfl, rfl, h1, r1⟩ := trodAll_cons r0
  obtain ⟨rfl, rfl, rfl⟩ := trodAll_nil r1
  obtain rfl : args = #[v0, v1] := by cases args; simp_all
  obtain ⟨rfl, rfl⟩ := trodVars_none hV
  have k0 := h0
  have lt0 : ∀ x ∈ p0, x.block < W.heap.size := by obtain ⟨m, hm⟩ := k0; exact DataW.trod_lt m _ _ _ hm
  obtain ⟨cs0, rfl, fit0⟩ := open_struct 6 pl0 Try.underlying69 (hval 0 69 v0 rfl rfl) h0
  simp only [fitsAll_cons, fitsAll_nil, lfFits] at fit0
  obtain ⟨_, _, rfl, ⟨a0_0, rfl, w0_0⟩, _, _, rfl, ⟨a0_1, rfl, w0_1⟩, _, _, rfl, ⟨a0_2, rfl, w0_2⟩, _, _, rfl, ⟨a0_3, rfl, w0_3⟩, _, _, rfl, ⟨a0_4, rfl, w0_4⟩, _, _, rfl, ⟨a0_5, rfl, w0_5⟩, _, _, rfl, ⟨a0_6, rfl, w0_6⟩, rfl⟩ := fit0
  have k1 := h1
  have lt1 : ∀ x ∈ p1, x.block < W.heap.size := by obtain ⟨m, hm⟩ := k1; exact DataW.trod_lt m _ _ _ hm
  obtain ⟨cs1, rfl, fit1⟩ := open_mixed pl1 Try.underlying142 (hval 1 142 v1 rfl rfl) h1
  simp only [fitsMix_cons, fitsMix_nil, fldFits, lfFits] at fit1
  obtain ⟨_, _, rfl, ⟨a1_0, len1_0, cap1_0, rows1_0, rfl, hl1_0, hm1_0, hr1_0⟩, _, _, rfl, ⟨a1_1, len1_1, cap1_1, rows1_1, rfl, hl1_1, hm1_1, hr1_1⟩, _, _, rfl, ⟨a1_2, len1_2, cap1_2, rows1_2, rfl, hl1_2, hm1_2, hr1_2⟩, _, _, rfl, ⟨a1_3, rfl, w1_3⟩, _, _, rfl, ⟨a1_4, rfl, w1_4⟩, rfl⟩ := fit1
  clear hA0 hval0
  refine (walk a0_0 a0_1 a0_2 a0_3 a0_4 a0_5 a0_6 a1_3 a1_4 a1_0 a1_1 a1_2 len1_0 cap1_0 len1_1 cap1_1 len1_2 cap1_2 rows1_0 rows1_1 rows1_2 (wf_i64 w0_0).2 (wf_i64 w0_2).2 (wf_i64 w0_3).2 (wf_i64 w0_4).2 W hl1_1 hm1_1 hr1_0 hr1_1 hr1_2).mono fun e W' ⟨he, bel⟩ => ?_
  subst he
  exact ⟨_, rfl, _, _, _, [], _, [], hW', trodAll_mk1 (shut_bool Try.underlying4 _), (trodAll_cons_mk (Below.trod laidOut (by kernel_rfl) (of_decide_eq_true (by kernel_rfl)) k0 bel lt0) (trodAll_cons_mk (Below.trod laidOut (by kernel_rfl) (of_decide_eq_true (by kernel_rfl)) k1 bel lt1) trodAll_mk0)), rfl, bel.frame _, fun h => by cases h⟩

theorem over : Rows.remapRefusesRow.holds Try.pinned (OpenSpec.ofChange Rows.remapRefusesSpec) :=
  OpenClaim.holds_of_wide 12 Try.f12 rfl rfl rfl rfl rfl rfl rfl ⟨rfl, rfl, rfl, rfl, rfl⟩ rfl rfl rfl rfl rfl (by kernel_rfl) Try.func12 (by kernel_rfl)
    (of_decide_eq_true (by kernel_rfl)) (by unfold Func.isWrapper; first | (rw [if_pos (by decide +kernel)]; kernel_rfl) | (rw [if_neg (by decide +kernel)]; exact ⟨rfl, rfl⟩))
    (fun os started H enc _ => lifted os started H enc)

/-- The statement. -/
theorem proved : Rows.RemapRefusesSaid := over
#print axioms proved
end Go.Proofs.Ytgpalgbdacoagaa.remapRefuses
