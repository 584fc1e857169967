/- Any configuration that may be is packed as the document says, and unpacked again; any word is a configuration's just if that has it: for every input the Go function RegsPacks returns true. -/
import Derived.Test.YthmbiddnpogolaaRegsPacksW
import Derived.Test.YthmbiddnpogolaaUnpackX
import Derived.Test.YthmbiddnpogolaaPackC
import Derived.Test.YthmbiddnpogolaaOpen
import Derived.Lib.Hide
namespace Go.Proofs.Ythmbiddnpogolaa.regsPacks
open Go.ChangeShapes Go.WideShapes Go.ChangeAt Go.RowKit
set_option linter.unusedVariables false

theorem anchor_any (w : World) : Calls Try.prog 15 #[] w fun e w' => e = .returned (.bool true) ∧ w = w' := by
  go_enter Try.func15, Try.ntmps15
  go_wp2
  go_ret
  exact ⟨rfl, rfl⟩
theorem getV_lt (X a n : Nat) (hn : n ≤ 11) : P26.getV X a n < 65536 := by
  have h : P26.getV X a n < 2 ^ n := by unfold P26.getV; exact Nat.mod_lt _ (Nat.two_pow_pos n)
  have h2 : 2 ^ n ≤ 2 ^ 11 := Nat.pow_le_pow_right (by omega) hn
  omega
def joined (M R S B O C W V b : Nat) : Nat := P26.joinN (packF M R S B O C W V (if decide ((b : Int) = 1) = true then 1 else 0))
def okN (M R S B O C W V b X : Nat) : Bool :=
  ((decide ((M : Int) = 1) || decide ((M : Int) = 2)) && (layoutOk R S B O C W V && decide ((joined M R S B O C W V b : Int) = (X : Int))))
def unOk (X : Nat) : Bool := okN (P26.getV X 0 2) (P26.getV X 2 4) (P26.getV X 6 4) (P26.getV X 10 5) (P26.getV X 15 11) (P26.getV X 26 7) (P26.getV X 33 2) (P26.getV X 35 7) (P26.getV X 42 1) X
theorem Unpack_any (X : Nat) (hX : X < 18446744073709551616) (w : World) : Calls Try.prog 52 #[.int .u64 X] w fun e w' =>
    e = .returned (unV (unOk X) (P26.getV X 0 2) (P26.getV X 2 4) (P26.getV X 6 4) (P26.getV X 10 5) (P26.getV X 15 11) (P26.getV X 26 7) (P26.getV X 33 2) (P26.getV X 35 7) (decide ((P26.getV X 42 1 : Int) = 1))) ∧ Below w.heap.size w w' :=
  Unpack_w X _ _ _ _ _ _ _ _ _ (parts9 X) hX ⟨getV_lt X 0 2 (by omega), getV_lt X 2 4 (by omega), getV_lt X 6 4 (by omega), getV_lt X 10 5 (by omega), getV_lt X 15 11 (by omega), getV_lt X 26 7 (by omega), getV_lt X 33 2 (by omega), getV_lt X 35 7 (by omega)⟩ _ rfl w

theorem packed_back (M R S B O C W V : Nat) (k : Bool) (hM : M = 1 ∨ M = 2) (hl : layoutOk R S B O C W V = true) (h : M < 4 ∧ R < 16 ∧ S < 16 ∧ B < 32 ∧ O < 2048 ∧ C < 128 ∧ W < 4 ∧ V < 128) (q : Nat) (hq : P26.joinN (packF M R S B O C W V (if k then 1 else 0)) = q) :
    unOk q = true ∧ P26.getV q 0 2 = M ∧ P26.getV q 2 4 = R ∧ P26.getV q 6 4 = S ∧ P26.getV q 10 5 = B ∧ P26.getV q 15 11 = O ∧ P26.getV q 26 7 = C ∧ P26.getV q 33 2 = W ∧ P26.getV q 35 7 = V ∧ decide ((P26.getV q 42 1 : Int) = 1) = k := by
  obtain ⟨h1, h2, h3, h4, h5, h6, h7, h8⟩ := h
  obtain ⟨b, hb⟩ : ∃ b : Nat, b = (if k then 1 else 0) := ⟨_, rfl⟩
  rw [← hb] at hq
  have hw : P26.wid (packF M R S B O C W V b) ≤ 64 := by simp [packF, P26.wid]
  have g0 : P26.getV (P26.joinN (packF M R S B O C W V b)) 0 2 = M % 2 ^ 2 := P26.get_join _ hw 0 (by simp [packF])
  have g1 : P26.getV (P26.joinN (packF M R S B O C W V b)) 2 4 = R % 2 ^ 4 := P26.get_join _ hw 1 (by simp [packF])
  have g2 : P26.getV (P26.joinN (packF M R S B O C W V b)) 6 4 = S % 2 ^ 4 := P26.get_join _ hw 2 (by simp [packF])
  have g3 : P26.getV (P26.joinN (packF M R S B O C W V b)) 10 5 = B % 2 ^ 5 := P26.get_join _ hw 3 (by simp [packF])
  have g4 : P26.getV (P26.joinN (packF M R S B O C W V b)) 15 11 = O % 2 ^ 11 := P26.get_join _ hw 4 (by simp [packF])
  have g5 : P26.getV (P26.joinN (packF M R S B O C W V b)) 26 7 = C % 2 ^ 7 := P26.get_join _ hw 5 (by simp [packF])
  have g6 : P26.getV (P26.joinN (packF M R S B O C W V b)) 33 2 = W % 2 ^ 2 := P26.get_join _ hw 6 (by simp [packF])
  have g7 : P26.getV (P26.joinN (packF M R S B O C W V b)) 35 7 = V % 2 ^ 7 := P26.get_join _ hw 7 (by simp [packF])
  have g8 : P26.getV (P26.joinN (packF M R S B O C W V b)) 42 1 = b % 2 ^ 1 := P26.get_join _ hw 8 (by simp [packF])
  have hb2 : b < 2 := by rw [hb]; cases k <;> decide
  rw [hq] at g0 g1 g2 g3 g4 g5 g6 g7 g8
  rw [Nat.mod_eq_of_lt (by omega)] at g0 g1 g2 g3 g4 g5 g6 g7 g8
  have hbk : decide ((b : Int) = 1) = k := by rw [hb]; cases k <;> rfl
  refine ⟨?_, g0, g1, g2, g3, g4, g5, g6, g7, by rw [g8]; exact hbk⟩
  unfold unOk okN joined
  rw [g0, g1, g2, g3, g4, g5, g6, g7, g8, hl, hbk, ← hb, hq]
  rcases hM with rfl | rfl <;> simp

theorem cfg_parts {r s b o c y z m l1 e1 l2 e2 rm hv lg : Int} (h : cfgOk r s b o c y z m l1 e1 l2 e2 rm hv lg = true) : layoutOk r s b o c y z = true ∧ (m = 1 ∨ m = 2) := by
  unfold cfgOk at h
  simp only [Bool.and_eq_true, Bool.or_eq_true, decide_eq_true_eq] at h
  exact ⟨h.1, h.2.1⟩
theorem lay_bd {r s b o c y z : Int} (h : layoutOk r s b o c y z = true) : (1 ≤ r ∧ r ≤ 8) ∧ (0 ≤ s ∧ s ≤ 8 - r) ∧ (1 ≤ b ∧ b ≤ 16) ∧ (1 ≤ o ∧ o ≤ 1024) ∧ (1 ≤ c ∧ c ≤ 64) ∧ (0 ≤ y ∧ y < 4) ∧ (0 ≤ z ∧ z ≤ 64) := by
  unfold layoutOk interOk at h
  simp only [Bool.and_eq_true, decide_eq_true_eq] at h
  obtain ⟨⟨hg, h1, h2⟩, h3, h4, _⟩ := h
  obtain ⟨d1, d2, d3, d4, d5, _⟩ := geom_bd hg
  exact ⟨d1, d2, d3, d4, d5, ⟨h1, h2⟩, h3, h4⟩

theorem walk (r s b o c y z m l1 e1 l2 e2 rm hv lg : Int) (k : Bool) (x : Int) (hr : r ≤ 9223372036854775807) (hb : b ≤ 9223372036854775807) (ho : o ≤ 9223372036854775807) (hc : c ≤ 9223372036854775807) (hx : 0 ≤ x ∧ x < 18446744073709551616) (w : World) :
    Calls Try.prog 14 #[.agg #[.int .i64 r, .int .i64 s, .int .i64 b, .int .i64 o, .int .i64 c, .int .i64 y, .int .i64 z, .int .i64 m, .int .i64 l1, .int .i64 e1, .int .i64 l2, .int .i64 e2, .int .i64 rm, .int .i64 hv, .int .i64 lg, .bool k], .int .u64 x] w fun e w' => e = .returned (.bool true) ∧ Below w.heap.size w w' := by
  obtain ⟨X, rfl⟩ := Int.eq_ofNat_of_zero_le hx.1
  have hX : X < 18446744073709551616 := by omega
  have hA := fun w => x_same (anchor_any w)
  have hU := Unpack_any X hX
  have hC := fun w => cfgRight_any r s b o c y z m l1 e1 l2 e2 rm hv lg k hr hb ho hc w
  cases hu : unOk X with
  | false =>
    rw [hu] at hU
    cases hcf : cfgOk r s b o c y z m l1 e1 l2 e2 rm hv lg with
    | false =>
      rw [hcf] at hC
      exact walk_nn r s b o c y z m l1 e1 l2 e2 rm hv lg 0 X 0 0 0 0 0 0 0 0 k k hA hC (fun w => Pack_no r s b o c y z m l1 e1 l2 e2 rm hv lg k hr hb ho hc hcf w) hU w
    | true =>
      rw [hcf] at hC
      obtain ⟨hl, hm⟩ := cfg_parts hcf
      obtain ⟨d1, d2, d3, d4, d5, d6, d7⟩ := lay_bd hl
      obtain ⟨M, rfl⟩ := Int.eq_ofNat_of_zero_le (show 0 ≤ m by omega)
      obtain ⟨R, rfl⟩ := Int.eq_ofNat_of_zero_le (show 0 ≤ r by omega)
      obtain ⟨S, rfl⟩ := Int.eq_ofNat_of_zero_le (show 0 ≤ s by omega)
      obtain ⟨B, rfl⟩ := Int.eq_ofNat_of_zero_le (show 0 ≤ b by omega)
      obtain ⟨O, rfl⟩ := Int.eq_ofNat_of_zero_le (show 0 ≤ o by omega)
      obtain ⟨C, rfl⟩ := Int.eq_ofNat_of_zero_le (show 0 ≤ c by omega)
      obtain ⟨Y, rfl⟩ := Int.eq_ofNat_of_zero_le (show 0 ≤ y by omega)
      obtain ⟨Z, rfl⟩ := Int.eq_ofNat_of_zero_le (show 0 ≤ z by omega)
      obtain ⟨q, hq⟩ : ∃ q : Nat, P26.joinN (packF M R S B O C Y Z (if k then 1 else 0)) = q := ⟨_, rfl⟩
      have hN : M < 65536 ∧ R < 65536 ∧ S < 65536 ∧ B < 65536 ∧ O < 65536 ∧ C < 65536 ∧ Y < 65536 ∧ Z < 65536 := by omega
      have hq64 : q < 18446744073709551616 := by rw [← hq]; exact pack_lt ⟨hN.1, hN.2.1, hN.2.2.1, hN.2.2.2.1, hN.2.2.2.2.1, hN.2.2.2.2.2.1, hN.2.2.2.2.2.2.1, hN.2.2.2.2.2.2.2, by cases k <;> decide⟩
      obtain ⟨p0, p1, p2, p3, p4, p5, p6, p7, p8, p9⟩ := packed_back M R S B O C Y Z k (by omega) hl (by omega) q hq
      have hQ := Unpack_any q hq64
      rw [p0, p1, p2, p3, p4, p5, p6, p7, p8, p9] at hQ
      have hP := fun w => Pack_yes M R S B O C Y Z l1 e1 l2 e2 rm hv lg k hN hcf w
      have hK := fun w => packed_any M R S B O C Y Z k hN w
      rw [hq] at hP hK
      exact walk_yn R S B O C Y Z M l1 e1 l2 e2 rm hv lg q X 0 0 0 0 0 0 0 0 k k hA hC hP hQ hK hU w
  | true =>
    rw [hu] at hU
    have hu' := hu
    unfold unOk okN at hu'
    simp only [Bool.and_eq_true, decide_eq_true_eq] at hu'
    obtain ⟨u1, u2, u3⟩ := hu'
    have hL := fun w => packed_any (P26.getV X 0 2) (P26.getV X 2 4) (P26.getV X 6 4) (P26.getV X 10 5) (P26.getV X 15 11) (P26.getV X 26 7) (P26.getV X 33 2) (P26.getV X 35 7) (decide ((P26.getV X 42 1 : Int) = 1)) ⟨getV_lt X 0 2 (by omega), getV_lt X 2 4 (by omega), getV_lt X 6 4 (by omega), getV_lt X 10 5 (by omega), getV_lt X 15 11 (by omega), getV_lt X 26 7 (by omega), getV_lt X 33 2 (by omega), getV_lt X 35 7 (by omega)⟩ w
    unfold joined at u3
    rw [u3] at hL
    have l1' := getV_lt X 2 4 (by omega)
    have l2' := getV_lt X 10 5 (by omega)
    have l3' := getV_lt X 15 11 (by omega)
    have l4' := getV_lt X 26 7 (by omega)
    have hR := fun w => R19Right_any (P26.getV X 2 4) (P26.getV X 6 4) (P26.getV X 10 5) (P26.getV X 15 11) (P26.getV X 26 7) (P26.getV X 33 2) (P26.getV X 35 7) (by omega) (by omega) (by omega) (by omega) w
    rw [u2] at hR
    cases hcf : cfgOk r s b o c y z m l1 e1 l2 e2 rm hv lg with
    | false =>
      rw [hcf] at hC
      exact walk_ny r s b o c y z m l1 e1 l2 e2 rm hv lg 0 X _ _ _ _ _ _ _ _ k _ hA hC (fun w => Pack_no r s b o c y z m l1 e1 l2 e2 rm hv lg k hr hb ho hc hcf w) hU hL hR u1 w
    | true =>
      rw [hcf] at hC
      obtain ⟨hl, hm⟩ := cfg_parts hcf
      obtain ⟨d1, d2, d3, d4, d5, d6, d7⟩ := lay_bd hl
      obtain ⟨M, rfl⟩ := Int.eq_ofNat_of_zero_le (show 0 ≤ m by omega)
      obtain ⟨R, rfl⟩ := Int.eq_ofNat_of_zero_le (show 0 ≤ r by omega)
      obtain ⟨S, rfl⟩ := Int.eq_ofNat_of_zero_le (show 0 ≤ s by omega)
      obtain ⟨B, rfl⟩ := Int.eq_ofNat_of_zero_le (show 0 ≤ b by omega)
      obtain ⟨O, rfl⟩ := Int.eq_ofNat_of_zero_le (show 0 ≤ o by omega)
      obtain ⟨C, rfl⟩ := Int.eq_ofNat_of_zero_le (show 0 ≤ c by omega)
      obtain ⟨Y, rfl⟩ := Int.eq_ofNat_of_zero_le (show 0 ≤ y by omega)
      obtain ⟨Z, rfl⟩ := Int.eq_ofNat_of_zero_le (show 0 ≤ z by omega)
      obtain ⟨q, hq⟩ : ∃ q : Nat, P26.joinN (packF M R S B O C Y Z (if k then 1 else 0)) = q := ⟨_, rfl⟩
      have hN : M < 65536 ∧ R < 65536 ∧ S < 65536 ∧ B < 65536 ∧ O < 65536 ∧ C < 65536 ∧ Y < 65536 ∧ Z < 65536 := by omega
      have hq64 : q < 18446744073709551616 := by rw [← hq]; exact pack_lt ⟨hN.1, hN.2.1, hN.2.2.1, hN.2.2.2.1, hN.2.2.2.2.1, hN.2.2.2.2.2.1, hN.2.2.2.2.2.2.1, hN.2.2.2.2.2.2.2, by cases k <;> decide⟩
      obtain ⟨p0, p1, p2, p3, p4, p5, p6, p7, p8, p9⟩ := packed_back M R S B O C Y Z k (by omega) hl (by omega) q hq
      have hQ := Unpack_any q hq64
      rw [p0, p1, p2, p3, p4, p5, p6, p7, p8, p9] at hQ
      have hP := fun w => Pack_yes M R S B O C Y Z l1 e1 l2 e2 rm hv lg k hN hcf w
      have hK := fun w => packed_any M R S B O C Y Z k hN w
      rw [hq] at hP hK
      exact walk_yy R S B O C Y Z M l1 e1 l2 e2 rm hv lg q X _ _ _ _ _ _ _ _ k _ hA hC hP hQ hK hU hL hR u1 w

theorem own : ownKnob Try.prog.godebug = none := by kernel_rfl
theorem laidOut : laidOutB Try.prog = true := by kernel_rfl
theorem pl0 : plain Try.prog 6 104 = some [.inl .i64, .inl .i64, .inl .i64, .inl .i64, .inl .i64, .inl .i64, .inl .i64, .inl .i64, .inl .i64, .inl .i64, .inl .i64, .inl .i64, .inl .i64, .inl .i64, .inl .i64, .inr false] := by kernel_rfl
set_option maxRecDepth 100000 in
theorem lifted (os : Os) (started : os.Started) (H : Type) (enc : TypeId × Value → H) :
    ReturnsInHanded {} Try.checked os 14 .any (Rows.regsPacksSpec.pre6 enc Try.prog Try.f14 Rows.regsPacksRow.domain false) (Rows.regsPacksSpec.post enc Try.prog Try.f14 false true false false) := by
  refine returnsInHanded_of_change (C := Try.checked) own started (by kernel_rfl) Try.func14
    (ChangeSpec.witness6 (enc := enc) (C := Try.checked) false ⟨#[], #[.agg #[.int .i64 0, .int .i64 0, .int .i64 0, .int .i64 0, .int .i64 0, .int .i64 0, .int .i64 0, .int .i64 0, .int .i64 0, .int .i64 0, .int .i64 0, .int .i64 0, .int .i64 0, .int .i64 0, .int .i64 0, .bool false], .int .u64 0], []⟩ 8 (by kernel_rfl) (by kernel_rfl) (by kernel_rfl) (by kernel_rfl)) ?_
  intro W base args ds gs before hval0 hW hcnd _
  have hval : ∀ (j : Nat) t v, Try.f14.params[j]? = some t → args[j]? = some v → Value.okWide Try.prog W .any base t v := hval0
  have hW' := hW
  obtain ⟨p, q, hA0, hV, rfl, hfz, hnd⟩ := hW
  have hA : DataW.TrodAll enc Try.prog W 0 (fun _ => true) true Try.f14.params.toList args.toList ds p := hA0
  rw [Try.params14] at hA hval
  obtain ⟨v0, vs0, d0, ds0, p0, q0, hargs, rfl, rfl, h0, r0⟩ := trodAll_cons hA
  obtain ⟨v1, vs1, d1, ds1, p1, q1, rfl, rfl, rfl, h1, r1⟩ := trodAll_cons r0
  obtain ⟨rfl, rfl, rfl⟩ := trodAll_nil r1
  obtain rfl : args = #[v0, v1] := by cases args; simp_all
  obtain ⟨rfl, rfl⟩ := trodVars_none hV
  have k0 := h0
  have lt0 : ∀ x ∈ p0, x.block < W.heap.size := by obtain ⟨m, hm⟩ := k0; exact DataW.trod_lt m _ _ _ hm
  obtain ⟨cs0, rfl, fit0⟩ := open_struct 6 pl0 Try.underlying104 (hval 0 104 v0 rfl rfl) h0
  simp only [fitsAll_cons, fitsAll_nil, lfFits] at fit0
  obtain ⟨_, _, rfl, ⟨a0_0, rfl, w0_0⟩, _, _, rfl, ⟨a0_1, rfl, w0_1⟩, _, _, rfl, ⟨a0_2, rfl, w0_2⟩, _, _, rfl, ⟨a0_3, rfl, w0_3⟩, _, _, rfl, ⟨a0_4, rfl, w0_4⟩, _, _, rfl, ⟨a0_5, rfl, w0_5⟩, _, _, rfl, ⟨a0_6, rfl, w0_6⟩, _, _, rfl, ⟨a0_7, rfl, w0_7⟩, _, _, rfl, ⟨a0_8, rfl, w0_8⟩, _, _, rfl, ⟨a0_9, rfl, w0_9⟩, _, _, rfl, ⟨a0_10, rfl, w0_10⟩, _, _, rfl, ⟨a0_11, rfl, w0_11⟩, _, _, rfl, ⟨a0_12, rfl, w0_12⟩, _, _, rfl, ⟨a0_13, rfl, w0_13⟩, _, _, rfl, ⟨a0_14, rfl, w0_14⟩, _, _, rfl, ⟨a0_15, rfl⟩, rfl⟩ := fit0
  obtain ⟨a1, rfl, rfl, rfl, w1⟩ := open_int Try.underlying22 (hval 1 22 v1 rfl rfl) h1
  clear hA0 hval0
  refine (walk a0_0 a0_1 a0_2 a0_3 a0_4 a0_5 a0_6 a0_7 a0_8 a0_9 a0_10 a0_11 a0_12 a0_13 a0_14 a0_15 a1 (wf_i64 w0_0).2 (wf_i64 w0_2).2 (wf_i64 w0_3).2 (wf_i64 w0_4).2 (wf_u64 w1) W).mono fun e W' ⟨he, bel⟩ => ?_
  subst he
  exact ⟨_, rfl, _, _, _, [], _, [], hW', trodAll_mk1 (shut_bool Try.underlying4 _), (trodAll_cons_mk (Below.trod laidOut (by kernel_rfl) (of_decide_eq_true (by kernel_rfl)) k0 bel lt0) (trodAll_cons_mk (shut_int Try.underlying22 w1) trodAll_mk0)), rfl, bel.frame _, fun h => by cases h⟩

theorem over : Rows.regsPacksRow.holds Try.pinned (OpenSpec.ofChange Rows.regsPacksSpec) :=
  OpenClaim.holds_of_wide 14 Try.f14 rfl rfl rfl rfl rfl rfl rfl ⟨rfl, rfl, rfl, rfl, rfl⟩ rfl rfl rfl rfl rfl (by kernel_rfl) Try.func14 (by kernel_rfl)
    (of_decide_eq_true (by kernel_rfl)) (by unfold Func.isWrapper; first | (rw [if_pos (by decide +kernel)]; kernel_rfl) | (rw [if_neg (by decide +kernel)]; exact ⟨rfl, rfl⟩))
    (fun os started H enc _ => lifted os started H enc)

/-- The statement. -/
theorem proved : Rows.RegsPacksSaid := over
#print axioms proved
end Go.Proofs.Ythmbiddnpogolaa.regsPacks
