/- Any field of any word is the document's; put, it is told again, and all others stay: for every input the Go function RegsFields returns true. -/
import Derived.Test.YthmbiddnpogolaaRegs
namespace Go.Proofs.Ythmbiddnpogolaa.regsFields
open Go.ChangeShapes Go.WideShapes Go.ChangeAt Go.RowKit
set_option linter.unusedVariables false

theorem own : ownKnob Try.prog.godebug = none := by kernel_rfl

theorem anchor_any (w : World) : Calls Try.prog 15 #[] w fun e w' => e = .returned (.bool true) ∧ w = w' := by
  go_enter Try.func15, Try.ntmps15
  go_wp2
  go_ret
  exact ⟨rfl, rfl⟩

theorem walk_no (a0 a1 a2 a3 a4 a5 : Int) (h : rightB a1 a2 = false) (w : World) :
    Calls Try.prog 3 #[.int .u64 a0, .int .i64 a1, .int .i64 a2, .int .u64 a3, .int .i64 a4, .int .i64 a5] w fun e w' => e = .returned (.bool true) ∧ w = w' := by
  have h' : ¬ (0 ≤ a1 ∧ 1 ≤ a2 ∧ a1 ≤ 64 ∧ a2 ≤ 64 - a1) := by simpa [rightB] using h
  by_cases c1 : 0 ≤ a1
  · by_cases c2 : 1 ≤ a2
    · by_cases c3 : a1 ≤ 63
      · have c4 : decide (a2 ≤ 64 - a1) = false := by simp; omega
        go_enter Try.func3, Try.ntmps3
        go_wp2_with (first | (go_at_call 15; refine (anchor_any _).mono ?_; rintro e w' ⟨rfl, rfl⟩) | (go_at_call 16; refine (get_no _ _ _ h _).mono ?_; rintro e w' ⟨rfl, rfl⟩) | (go_at_call 17; refine (putW_no _ _ _ _ h _).mono ?_; rintro e w' ⟨rfl, rfl⟩))
        go_ret
        exact ⟨rfl, rfl⟩
      · go_enter Try.func3, Try.ntmps3
        go_wp2_with (first | (go_at_call 15; refine (anchor_any _).mono ?_; rintro e w' ⟨rfl, rfl⟩) | (go_at_call 16; refine (get_no _ _ _ h _).mono ?_; rintro e w' ⟨rfl, rfl⟩) | (go_at_call 17; refine (putW_no _ _ _ _ h _).mono ?_; rintro e w' ⟨rfl, rfl⟩))
        go_ret
        exact ⟨rfl, rfl⟩
    · go_enter Try.func3, Try.ntmps3
      go_wp2_with (first | (go_at_call 15; refine (anchor_any _).mono ?_; rintro e w' ⟨rfl, rfl⟩) | (go_at_call 16; refine (get_no _ _ _ h _).mono ?_; rintro e w' ⟨rfl, rfl⟩) | (go_at_call 17; refine (putW_no _ _ _ _ h _).mono ?_; rintro e w' ⟨rfl, rfl⟩))
      go_ret
      exact ⟨rfl, rfl⟩
  · go_enter Try.func3, Try.ntmps3
    go_wp2_with (first | (go_at_call 15; refine (anchor_any _).mono ?_; rintro e w' ⟨rfl, rfl⟩) | (go_at_call 16; refine (get_no _ _ _ h _).mono ?_; rintro e w' ⟨rfl, rfl⟩) | (go_at_call 17; refine (putW_no _ _ _ _ h _).mono ?_; rintro e w' ⟨rfl, rfl⟩))
    go_ret
    exact ⟨rfl, rfl⟩

theorem walk_wide (X A N V : Nat) (a4 a5 : Int) (hX : X < 18446744073709551616) (hN : 1 ≤ N) (hAN : A + N ≤ 64) (hV : 2 ^ N ≤ V) (hV2 : V < 18446744073709551616) (w : World) :
    Calls Try.prog 3 #[.int .u64 X, .int .i64 A, .int .i64 N, .int .u64 V, .int .i64 a4, .int .i64 a5] w fun e w' => e = .returned (.bool true) ∧ w = w' := by
  have hN64 : N < 64 := by
    by_cases h : N < 64
    · exact h
    · have : 2 ^ 64 ≤ 2 ^ N := Nat.pow_le_pow_right (by omega) (by omega)
      omega
  have hA : A ≤ 63 := by omega
  have hth : decide ((N : Int) ≤ 64 - A) = true := by simp; omega
  have hV' : ((2 ^ N : Nat) : Int) ≤ (V : Int) := by exact_mod_cast hV
  have hVi : (2 : Int) ^ N ≤ (V : Int) := by simpa using hV'
  clear hV'
  go_enter Try.func3, Try.ntmps3
  go_wp2_with (first | (go_at_call 15; refine (anchor_any _).mono ?_; rintro e w' ⟨rfl, rfl⟩) | (go_at_call 16; refine (get_yes _ _ _ hX hN hAN _).mono ?_; rintro e w' ⟨rfl, rfl⟩) | (go_at_call 17; refine (putW_wide _ _ _ _ hN hAN hV _).mono ?_; rintro e w' ⟨rfl, rfl⟩) | (go_at_call 18; refine (field_any _ _ _ hX hAN _).mono ?_; rintro e w' ⟨rfl, rfl⟩) | (go_at_call 19; refine (power_any _ hN64 _).mono ?_; rintro e w' ⟨rfl, rfl⟩))
  go_ret
  exact ⟨rfl, rfl⟩

set_option maxHeartbeats 2000000 in
theorem yes_far (X A N V A' N' : Nat) (hX : X < 18446744073709551616) (hN : 1 ≤ N) (hAN : A + N ≤ 64) (hV : V < 2 ^ N) (hV2 : V < 18446744073709551616) (hA' : A' ≤ 63) (hN' : 1 ≤ N') (hAN' : A' + N' ≤ 64) (hd : A' + N' ≤ A ∨ A + N ≤ A') (w : World) :
    Calls Try.prog 3 #[.int .u64 X, .int .i64 A, .int .i64 N, .int .u64 V, .int .i64 A', .int .i64 N'] w fun e w' => e = .returned (.bool true) ∧ w = w' := by
  have hA : A ≤ 63 := by omega
  have hth : decide ((N : Int) ≤ 64 - A) = true := by simp; omega
  have hth2 : decide ((64 : Int) - A' < N') = false := by simp; omega
  have hV' : (V : Int) < ((2 ^ N : Nat) : Int) := by exact_mod_cast hV
  have hVi : (V : Int) < (2 : Int) ^ N := by simpa using hV'
  clear hV'
  have hPl : P26.putV X A N V < 18446744073709551616 := P26.put_lt X A N V hX hV hAN
  have hgp := P26.get_put X A N V hX hV hAN
  have ho := P26.get_put_other X A N V A' N' hX hV hAN hd
  generalize hP : P26.putV X A N V = P at *
  have HP : Hid (P26.putV X A N V = P) := hP
  clear hP
  rcases hd with hd | hd
  · have c5 : ¬ (A : Int) < A' + N' := by omega
    by_cases c6 : N < 64
    all_goals first | (exfalso; omega) | skip
    all_goals
      go_enter Try.func3, Try.ntmps3
      go_wp2_with (first | (go_at_call 15; refine (anchor_any _).mono ?_; rintro e w' ⟨rfl, rfl⟩) | (go_at_call 16; refine (get_yes _ _ _ hX hN hAN _).mono ?_; rintro e w' ⟨rfl, rfl⟩) | (go_at_call 20; refine (getW_yes _ _ _ hPl hN hAN _).mono ?_; rintro e w' ⟨rfl, rfl⟩) | (go_at_call 17; refine (putW_yes _ _ _ _ hX hN hAN hV _).mono ?_; rw [HP.out]; rintro e w' ⟨rfl, rfl⟩) | (go_at_call 18; refine (field_any _ _ _ (by first | exact hX | exact hPl) (by omega) _).mono ?_; rintro e w' ⟨rfl, rfl⟩) | (go_at_call 19; refine (power_any _ (by assumption) _).mono ?_; rintro e w' ⟨rfl, rfl⟩))
      go_ret
      exact ⟨ret_bool (by first | rfl | simp), rfl⟩
  · have c7 : ¬ (A' : Int) < A + N := by omega
    have c7b : decide ((A' : Int) < A + N) = false := by simpa using c7
    by_cases c6 : N < 64
    all_goals first | (exfalso; omega) | skip
    all_goals
      go_enter Try.func3, Try.ntmps3
      go_wp2_with (first | (go_at_call 15; refine (anchor_any _).mono ?_; rintro e w' ⟨rfl, rfl⟩) | (go_at_call 16; refine (get_yes _ _ _ hX hN hAN _).mono ?_; rintro e w' ⟨rfl, rfl⟩) | (go_at_call 20; refine (getW_yes _ _ _ hPl hN hAN _).mono ?_; rintro e w' ⟨rfl, rfl⟩) | (go_at_call 17; refine (putW_yes _ _ _ _ hX hN hAN hV _).mono ?_; rw [HP.out]; rintro e w' ⟨rfl, rfl⟩) | (go_at_call 18; refine (field_any _ _ _ (by first | exact hX | exact hPl) (by omega) _).mono ?_; rintro e w' ⟨rfl, rfl⟩) | (go_at_call 19; refine (power_any _ (by assumption) _).mono ?_; rintro e w' ⟨rfl, rfl⟩))
      go_ret
      exact ⟨ret_bool (by first | rfl | simp), rfl⟩

set_option maxHeartbeats 4000000 in
theorem yes_near (X A N V : Nat) (a4 a5 : Int) (hX : X < 18446744073709551616) (hN : 1 ≤ N) (hAN : A + N ≤ 64) (hV : V < 2 ^ N) (hV2 : V < 18446744073709551616)
    (hd : a4 < 0 ∨ 0 ≤ a4 ∧ a5 < 1 ∨ 0 ≤ a4 ∧ 1 ≤ a5 ∧ 63 < a4 ∨ 0 ≤ a4 ∧ 1 ≤ a5 ∧ a4 ≤ 63 ∧ 64 - a4 < a5 ∨ 0 ≤ a4 ∧ 1 ≤ a5 ∧ a4 ≤ 63 ∧ a5 ≤ 64 - a4 ∧ A < a4 + a5 ∧ a4 < A + N) (w : World) :
    Calls Try.prog 3 #[.int .u64 X, .int .i64 A, .int .i64 N, .int .u64 V, .int .i64 a4, .int .i64 a5] w fun e w' => e = .returned (.bool true) ∧ w = w' := by
  have hA : A ≤ 63 := by omega
  have hth : decide ((N : Int) ≤ 64 - A) = true := by simp; omega
  have hV' : (V : Int) < ((2 ^ N : Nat) : Int) := by exact_mod_cast hV
  have hVi : (V : Int) < (2 : Int) ^ N := by simpa using hV'
  clear hV'
  have hPl : P26.putV X A N V < 18446744073709551616 := P26.put_lt X A N V hX hV hAN
  have hgp := P26.get_put X A N V hX hV hAN
  generalize hP : P26.putV X A N V = P at *
  have HP : Hid (P26.putV X A N V = P) := hP
  clear hP
  rcases hd with d | ⟨d0, d⟩ | ⟨d0, d1, d⟩ | ⟨d0, d1, d2, d⟩ | ⟨d0, d1, d2, d3, d4, d⟩
  all_goals
    first
    | have q1 : decide ((64 : Int) - a4 < a5) = false := by simp; omega
      have q2 : decide (a4 < (A : Int) + N) = true := by simp; omega
    | have q1 : decide ((64 : Int) - a4 < a5) = true := by simp; omega
    | skip
    by_cases c6 : N < 64
  all_goals first | (exfalso; omega) | skip
  all_goals
    go_enter Try.func3, Try.ntmps3
    go_wp2_with (first | (go_at_call 15; refine (anchor_any _).mono ?_; rintro e w' ⟨rfl, rfl⟩) | (go_at_call 16; refine (get_yes _ _ _ hX hN hAN _).mono ?_; rintro e w' ⟨rfl, rfl⟩) | (go_at_call 20; refine (getW_yes _ _ _ hPl hN hAN _).mono ?_; rintro e w' ⟨rfl, rfl⟩) | (go_at_call 17; refine (putW_yes _ _ _ _ hX hN hAN hV _).mono ?_; rw [HP.out]; rintro e w' ⟨rfl, rfl⟩) | (go_at_call 18; refine (field_any _ _ _ hX hAN _).mono ?_; rintro e w' ⟨rfl, rfl⟩) | (go_at_call 19; refine (power_any _ (by assumption) _).mono ?_; rintro e w' ⟨rfl, rfl⟩))
    go_ret
    exact ⟨rfl, rfl⟩

theorem wf_u64 {a : Int} (h : (Lit.int .u64 a).wf = true) : 0 ≤ a ∧ a < 18446744073709551616 := by
  simp [Lit.wf, IntKind.min, IntKind.max, IntKind.signed, IntKind.bits] at h; omega

theorem walk (a0 a1 a2 a3 a4 a5 : Int) (w0 : (Lit.int .u64 a0).wf = true) (w3 : (Lit.int .u64 a3).wf = true) (w : World) :
    Calls Try.prog 3 #[.int .u64 a0, .int .i64 a1, .int .i64 a2, .int .u64 a3, .int .i64 a4, .int .i64 a5] w fun e w' => e = .returned (.bool true) ∧ Grown w w' := by
  suffices H : Calls Try.prog 3 #[.int .u64 a0, .int .i64 a1, .int .i64 a2, .int .u64 a3, .int .i64 a4, .int .i64 a5] w fun e w' => e = .returned (.bool true) ∧ w = w' from
    H.mono fun e w' ⟨h1, h2⟩ => ⟨h1, h2 ▸ Grown.refl _⟩
  obtain ⟨p0, q0⟩ := wf_u64 w0
  obtain ⟨p3, q3⟩ := wf_u64 w3
  cases hr : rightB a1 a2 with
  | false => exact walk_no a0 a1 a2 a3 a4 a5 hr w
  | true =>
    obtain ⟨A, N, rfl, rfl, hN, hAN⟩ := rightB_nat hr
    obtain ⟨X, rfl⟩ := Int.eq_ofNat_of_zero_le p0
    obtain ⟨V, rfl⟩ := Int.eq_ofNat_of_zero_le p3
    by_cases hV : V < 2 ^ N
    · by_cases c : 0 ≤ a4 ∧ 1 ≤ a5 ∧ a4 ≤ 63 ∧ a5 ≤ 64 - a4 ∧ ¬ ((A : Int) < a4 + a5 ∧ a4 < A + N)
      · obtain ⟨c0, c1, c2, c3, c4⟩ := c
        obtain ⟨A', rfl⟩ := Int.eq_ofNat_of_zero_le c0
        obtain ⟨N', rfl⟩ := Int.eq_ofNat_of_zero_le (show 0 ≤ a5 by omega)
        exact yes_far X A N V A' N' (by omega) hN hAN hV (by omega) (by omega) (by omega) (by omega) (by omega) w
      · exact yes_near X A N V a4 a5 (by omega) hN hAN hV (by omega) (by omega) w
    · exact walk_wide X A N V a4 a5 (by omega) hN hAN (by omega) (by omega) w

/-! ### THE ROW's STEP: WRITTEN OUT: LEAVE IT -/
set_option maxRecDepth 100000 in
theorem lifted (os : Os) (started : os.Started) (H : Type) (enc : TypeId × Value → H) :
    ReturnsInHanded {} Try.checked os 3 .any (Rows.regsFieldsSpec.pre6 enc Try.prog Try.f3 Rows.regsFieldsRow.domain false) (Rows.regsFieldsSpec.post enc Try.prog Try.f3 false true false false) := by
  refine returnsInHanded_of_change (C := Try.checked) own started (by kernel_rfl) Try.func3
    (ChangeSpec.witness6 (enc := enc) (C := Try.checked) false ⟨#[], #[.int .u64 0, .int .i64 0, .int .i64 0, .int .u64 0, .int .i64 0, .int .i64 0], []⟩ 8 (by kernel_rfl) (by kernel_rfl) (by kernel_rfl) (by kernel_rfl)) ?_
  intro W base args ds gs before hval0 hW hcnd _
  have hval : ∀ (j : Nat) t v, Try.f3.params[j]? = some t → args[j]? = some v → Value.okWide Try.prog W .any base t v := hval0
  have hW' := hW
  obtain ⟨p, q, hA0, hV, rfl, hfz, hnd⟩ := hW
  have hA : DataW.TrodAll enc Try.prog W 0 (fun _ => true) true Try.f3.params.toList args.toList ds p := hA0
  rw [Try.params3] at hA hval
  obtain ⟨v0, vs0, d0, ds0, p0, q0, hargs, rfl, rfl, h0, r0⟩ := trodAll_cons hA
  obtain ⟨v1, vs1, d1, ds1, p1, q1, rfl, rfl, rfl, h1, r1⟩ := trodAll_cons r0
  obtain ⟨v2, vs2, d2, ds2, p2, q2, rfl, rfl, rfl, h2, r2⟩ := trodAll_cons r1
  obtain ⟨v3, vs3, d3, ds3, p3, q3, rfl, rfl, rfl, h3, r3⟩ := trodAll_cons r2
  obtain ⟨v4, vs4, d4, ds4, p4, q4, rfl, rfl, rfl, h4, r4⟩ := trodAll_cons r3
  obtain ⟨v5, vs5, d5, ds5, p5, q5, rfl, rfl, rfl, h5, r5⟩ := trodAll_cons r4
  obtain ⟨rfl, rfl, rfl⟩ := trodAll_nil r5
  obtain rfl : args = #[v0, v1, v2, v3, v4, v5] := by cases args; simp_all
  obtain ⟨rfl, rfl⟩ := trodVars_none hV
  obtain ⟨a0, rfl, rfl, rfl, w0⟩ := open_int Try.underlying22 (hval 0 22 v0 rfl rfl) h0
  obtain ⟨a1, rfl, rfl, rfl, w1⟩ := open_int Try.underlying3 (hval 1 3 v1 rfl rfl) h1
  obtain ⟨a2, rfl, rfl, rfl, w2⟩ := open_int Try.underlying3 (hval 2 3 v2 rfl rfl) h2
  obtain ⟨a3, rfl, rfl, rfl, w3⟩ := open_int Try.underlying22 (hval 3 22 v3 rfl rfl) h3
  obtain ⟨a4, rfl, rfl, rfl, w4⟩ := open_int Try.underlying3 (hval 4 3 v4 rfl rfl) h4
  obtain ⟨a5, rfl, rfl, rfl, w5⟩ := open_int Try.underlying3 (hval 5 3 v5 rfl rfl) h5
  clear hA0 hval0
  simp only [List.append_nil] at hW'
  refine (walk a0 a1 a2 a3 a4 a5 w0 w3 W).mono fun e W' ⟨he, hg⟩ => ?_
  subst he
  exact ⟨_, rfl, post_of_same (pa := []) (pv := []) hW' (fun _ _ _ => (trodAll_cons_mk (shut_bool Try.underlying4 _) trodAll_mk0)) (fun sp _ => (trodAll_cons_mk (shut_int Try.underlying22 w0) (trodAll_cons_mk (shut_int Try.underlying3 w1) (trodAll_cons_mk (shut_int Try.underlying3 w2) (trodAll_cons_mk (shut_int Try.underlying22 w3) (trodAll_cons_mk (shut_int Try.underlying3 w4) (trodAll_cons_mk (shut_int Try.underlying3 w5) trodAll_mk0))))))) (fun _ _ => rfl) rfl
    (hg.frame _) hg.2.1 (ok_one (by kernel_rfl) rfl (okWide_bool_mk Try.underlying4 _))⟩

theorem over : Rows.regsFieldsRow.holds Try.pinned (OpenSpec.ofChange Rows.regsFieldsSpec) :=
  OpenClaim.holds_of_wide 3 Try.f3 rfl rfl rfl rfl rfl rfl rfl ⟨rfl, rfl, rfl, rfl, rfl⟩ rfl rfl rfl rfl rfl (by kernel_rfl) Try.func3 (by kernel_rfl)
    (of_decide_eq_true (by kernel_rfl)) (by unfold Func.isWrapper; first | (rw [if_pos (by decide +kernel)]; kernel_rfl) | (rw [if_neg (by decide +kernel)]; exact ⟨rfl, rfl⟩))
    (fun os started H enc _ => lifted os started H enc)

/-- ████ THE STATEMENT ████ -/
theorem proved : Rows.RegsFieldsSaid :=
  over
#print axioms proved
end Go.Proofs.Ythmbiddnpogolaa.regsFields
