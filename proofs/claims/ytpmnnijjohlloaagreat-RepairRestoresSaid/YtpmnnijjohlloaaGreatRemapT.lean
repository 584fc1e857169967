/- The document's layout of a map. -/
import Derived.Test.YtpmnnijjohlloaaGreatRemapC
import Derived.Test.YtpmnnijjohlloaaGreatOpenMix
import Derived.Test.YtpmnnijjohlloaaGreatPxD
import Derived.Test.YtpmnnijjohlloaaGreatPxZ
namespace Go.Proofs.YtpmnnijjohlloaaGreat
open Go Go.RowKit
set_option linter.unusedVariables false
set_option linter.unusedSimpArgs false
theorem dstep (i o : Int) (ho : 1 ≤ o) : (i % o + 1 = o ∧ (i + 1) % o = 0 ∧ (i + 1) / o = i / o + 1) ∨ (¬ i % o + 1 = o ∧ (i + 1) % o = i % o + 1 ∧ (i + 1) / o = i / o) := by
  have h1 := Int.emod_nonneg i (show o ≠ 0 by omega)
  have h2 := Int.emod_lt_of_pos i (show 0 < o by omega)
  have h3 := Int.mul_ediv_add_emod i o
  by_cases h : i % o + 1 = o
  · left
    have e : i + 1 = 0 + o * (i / o + 1) := by rw [Int.mul_add, Int.mul_one]; omega
    refine ⟨h, ?_, ?_⟩
    · rw [e, Int.add_mul_emod_self_left]; simp
    · rw [e, Int.add_mul_ediv_left _ _ (by omega)]; simp
  · right
    have e : i + 1 = (i % o + 1) + o * (i / o) := by omega
    refine ⟨h, ?_, ?_⟩
    · rw [e, Int.add_mul_emod_self_left]; exact Int.emod_eq_of_lt (by omega) (by omega)
    · rw [e, Int.add_mul_ediv_left _ _ (by omega), Int.ediv_eq_zero_of_lt (by omega) (by omega)]; omega
theorem xorStep (B R j : Nat) : (B ^^^ R) % 2 ^ (j + 1) = (B ^^^ R) % 2 ^ j + (if B / 2 ^ j % 2 = R / 2 ^ j % 2 then 0 else 2 ^ j) := by
  have h1 : (B ^^^ R) % 2 ^ (j + 1) = (B ^^^ R) % 2 ^ j + 2 ^ j * ((B ^^^ R) / 2 ^ j % 2) := by rw [Nat.pow_succ, Nat.mod_mul]
  have hb : ∀ x : Nat, x.testBit j = decide (x / 2 ^ j % 2 = 1) := fun x => by rw [Nat.testBit_eq_decide_div_mod_eq]
  have h2 := Nat.testBit_xor B R j
  rw [hb, hb, hb] at h2
  rw [h1]
  have a1 := Nat.mod_lt (B / 2 ^ j) (show 0 < 2 by decide)
  have a2 := Nat.mod_lt (R / 2 ^ j) (show 0 < 2 by decide)
  have a3 := Nat.mod_lt ((B ^^^ R) / 2 ^ j) (show 0 < 2 by decide)
  generalize B / 2 ^ j % 2 = x at *
  generalize R / 2 ^ j % 2 = y at *
  generalize (B ^^^ R) / 2 ^ j % 2 = z at *
  have hx : x = 0 ∨ x = 1 := by omega
  have hy : y = 0 ∨ y = 1 := by omega
  have hz : z = 0 ∨ z = 1 := by omega
  rcases hx with rfl | rfl <;> rcases hy with rfl | rfl <;> rcases hz with rfl | rfl <;> simp at h2 ⊢
set_option maxRecDepth 100000 in
set_option maxHeartbeats 4000000 in
theorem XorD (K : Nat) (hK : K ≤ 10) (B R : Nat) (hB : B ≤ 4096) (hR : R ≤ 4096) (w0 : World) :
    Calls Tryz.prog 86 #[.int .i64 ((B : Nat) : Int), .int .i64 ((R : Nat) : Int), .int .i64 (((2 ^ K) : Nat) : Int)] w0 fun e w' => e = .returned (.int .i64 ((((B ^^^ R) % 2 ^ K) : Nat) : Int)) ∧ Below w0.heap.size w0 w' := by
  refine z_enter Tryz.func86 rfl ?_
  have H := Hs.nil w0
  refine x_seq <| x_region <| x_b H [.m] <| x_nil <| x_then <| x_seq <| x_region ?_
  refine x_b H [.m] <| x_nil <| x_then <| x_seq <| x_seq <| x_region <| x_b H [.m] ?_
  refine x_nil <| x_then <| x_block <| x_loop (G := Nat × Int × Int) (fun gh a w' => match gh with | (j, ov, pv) => ∃ uf1 : Nat → Value, a = frm 27 uf1 [(0, .int .i64 (B : Int)), (1, .int .i64 (R : Int)), (2, .int .i64 (((2 ^ K) : Nat) : Int)), (7, .int .i64 ov), (8, .int .i64 pv)] [] ∧ Hs [] w0 w' [] ∧ (pv = (((2 ^ j) : Nat) : Int)) ∧ (ov = ((((B ^^^ R) % 2 ^ j) : Nat) : Int)) ∧ (j ≤ K)) (fun gh => match gh with | (j, ov, pv) => K - j) (0, 0, 1) ⟨_, frm_of, H, rfl, (by simp [Nat.mod_one]), (Nat.zero_le _)⟩ ?_
  clear H
  rintro ⟨j, ov, pv⟩ _ v1 ⟨uf1, rfl, H, r1, r2, r3⟩
  have hp1 : 0 < 2 ^ j := Nat.two_pow_pos j
  have hp2 : 2 ^ j ≤ 2 ^ 10 := Nat.pow_le_pow_right (by decide) (by omega)
  have hml := Nat.mod_lt (B ^^^ R) hp1
  refine x_seq <| x_seq <| x_region <| x_b H [.m, .m, .v (.bool (decide (pv < (((2 ^ K) : Nat) : Int))))] <| x_nil <| x_then ?_
  cases h1 : decide (pv < (((2 ^ K) : Nat) : Int))
  · skip
    have h1p := of_decide_eq_false h1
    have hjK : j = K := by rcases Nat.lt_or_ge j K with z | z; exact absurd (show pv < (((2 ^ K) : Nat) : Int) by rw [r1]; exact_mod_cast (Nat.pow_lt_pow_iff_right (by decide)).2 z) h1p; omega
    refine x_f (by kernel_rfl) <| x_exit <| x_then_exit <| x_then_exit <| x_blk_exit <| x_then <| x_seq ?_
    refine x_region <| x_b H [.m, .m] <| x_nil <| x_then <| x_retc <| x_ret (.int .i64 ov) (by kernel_rfl) (by kernel_rfl) ?_
    exact ⟨by rw [r2, hjK], H.below⟩
  have h1p := of_decide_eq_true h1
  have hjK : j < K := (Nat.pow_lt_pow_iff_right (by decide)).1 (show 2 ^ j < 2 ^ K by rw [r1] at h1p; exact_mod_cast h1p)
  refine x_t (by kernel_rfl) <| x_skipc <| x_then <| x_seq <| x_block <| x_seq <| z_region_whole H ?_
  refine q_b [.m, .m] <| q_quo (B : Int) pv (((B / 2 ^ j) : Nat) : Int) (by rw [r1]; exact_mod_cast rfl) (by omega) ⟨by omega, by omega⟩ (by kernel_rfl) (fun _ => by kernel_rfl) <| q_eq (.int .i64 ((((B / 2 ^ j) : Nat) : Int) % 2)) (e_rem (((B / 2 ^ j) : Nat) : Int) 2 (Int.natCast_nonneg _)) (by kernel_rfl) (fun _ => by kernel_rfl) <| q_b [.m, .m] <| q_quo (R : Int) pv (((R / 2 ^ j) : Nat) : Int) (by rw [r1]; exact_mod_cast rfl) (by omega) ⟨by omega, by omega⟩ (by kernel_rfl) (fun _ => by kernel_rfl) <| q_eq (.int .i64 ((((R / 2 ^ j) : Nat) : Int) % 2)) (e_rem (((R / 2 ^ j) : Nat) : Int) 2 (Int.natCast_nonneg _)) (by kernel_rfl) (fun _ => by kernel_rfl) <| q_b [.v (.bool (!(decide (((((B / 2 ^ j) : Nat) : Int) % 2) = ((((R / 2 ^ j) : Nat) : Int) % 2)))))] ?_
  refine q_nil ?_
  clear H
  intro v2 H
  refine x_then ?_
  cases h2 : decide (((((B / 2 ^ j) : Nat) : Int) % 2) = ((((R / 2 ^ j) : Nat) : Int) % 2))
  · skip
    have h2p := of_decide_eq_false h2
    refine x_t (by kernel_rfl) <| x_region <| x_b H [.m, .m] <| z_ar (ov + pv) <| x_b H [.m] <| x_nil <| x_blk ?_
    refine x_then <| x_region <| x_b H [.m] <| z_ar (pv * 2) <| x_b H [.m] <| x_nil <| x_then ?_
    have hst := xorStep B R j
    exact ⟨(j + 1, (ov + pv), (pv * 2)), (by dsimp only; omega), _, frm_of, H, (by rw [r1, Nat.pow_succ]; push_cast; rfl), (by rw [hst, if_neg (by have z := h2p; exact_mod_cast z), r2, r1]; push_cast; rfl), (by omega)⟩
  have h2p := of_decide_eq_true h2
  refine x_f (by kernel_rfl) <| x_skipc <| x_blk <| x_then <| x_region <| x_b H [.m] <| z_ar (pv * 2) ?_
  refine x_b H [.m] <| x_nil <| x_then ?_
  have hst := xorStep B R j
  exact ⟨(j + 1, ov, (pv * 2)), (by dsimp only; omega), _, frm_of, H, (by rw [r1, Nat.pow_succ]; push_cast; rfl), (by rw [hst, if_pos (by have z := h2p; exact_mod_cast z), r2]; push_cast; rfl), (by omega)⟩
theorem XorI {b bk rw : Int} (hb : pwB b 16 = true) (h1 : 0 ≤ bk) (h2 : bk < b) (h3 : 0 ≤ rw) (h4 : rw ≤ 4096) (w0 : World) : Calls Tryz.prog 86 #[.int .i64 bk, .int .i64 rw, .int .i64 b] w0 fun e w' => e = .returned (.int .i64 (bits .xor .i64 bk (bits .and .i64 rw (b - 1)))) ∧ Below w0.heap.size w0 w' := by
  have hbb := pw_bd hb
  obtain ⟨k, hk, rfl, -⟩ := (pwB_iff b 16 (by decide)).1 hb
  have hm := bits_mask IntKind.i64 63 (by decide) (fun n h0 h1 => by rw [IntKind.wrap_i64]; omega) k (by omega) rw h3 (by omega)
  rw [hm]
  obtain ⟨x, rfl⟩ := Int.eq_ofNat_of_zero_le h1
  obtain ⟨y, rfl⟩ := Int.eq_ofNat_of_zero_le h3
  have hx : x < 2 ^ k := by exact_mod_cast h2
  have hy : y % 2 ^ k < 2 ^ k := Nat.mod_lt _ (Nat.two_pow_pos k)
  have hp : 2 ^ k ≤ 2 ^ 63 := Nat.pow_le_pow_right (by decide) (by omega)
  rw [show ((y : Int) % 2 ^ k) = ((y % 2 ^ k : Nat) : Int) by rw [Int.natCast_emod, Int.natCast_pow]; rfl, xor_nat x _ (by omega) (by omega)]
  have e : (x ^^^ y) % 2 ^ k = x ^^^ (y % 2 ^ k) := by rw [Nat.xor_mod_two_pow, Nat.mod_eq_of_lt hx]
  have q := XorD k hk x y (by omega) (by omega) w0
  rw [e, Int.natCast_pow] at q
  exact q
set_option maxRecDepth 100000 in
set_option maxHeartbeats 4000000 in
theorem Next0 (r s b o c : Int) (i : Int) (h0 : 0 ≤ i) (h1 : i ≤ 4096) (hr : 1 ≤ r ∧ r ≤ 8) (hb : 1 ≤ b ∧ b ≤ 16) (ho : 1 ≤ o ∧ o ≤ 1024) (w0 : World) :
    Calls Tryz.prog 88 #[.agg #[.int .i64 r, .int .i64 s, .int .i64 b, .int .i64 o, .int .i64 c], .int .i64 0, .agg #[.int .i64 (i / o / b), .int .i64 (i / o % b), .int .i64 (i % o), .int .i64 0]] w0 fun e w' => e = .returned (.agg #[.int .i64 ((i + 1) / o / b), .int .i64 ((i + 1) / o % b), .int .i64 ((i + 1) % o), .int .i64 0]) ∧ Below w0.heap.size w0 w' := by
  refine z_enter Tryz.func88 rfl ?_
  have H := Hs.nil w0
  have d1 := dstep i o (by omega)
  have d2 := dstep (i / o) b (by omega)
  have e1 := emod_bd (x := i) (q := o) (by omega)
  have e2 : 0 ≤ i / o := Int.ediv_nonneg h0 (by omega)
  have e3 : i / o ≤ i := Int.ediv_le_self _ h0
  have e4 := emod_bd (x := i / o) (q := b) (by omega)
  have e5 : 0 ≤ i / o / b := Int.ediv_nonneg e2 (by omega)
  have e6 : i / o / b ≤ i / o := Int.ediv_le_self _ e2
  refine x_seq <| x_region <| z_box H #[.int .i64 r, .int .i64 s, .int .i64 b, .int .i64 o, .int .i64 c] 30 (fun v1 g1 H => ?_)
  refine z_box H #[.int .i64 (i / o / b), .int .i64 (i / o % b), .int .i64 (i % o), .int .i64 0] 135 (fun v2 g2 H => ?_)
  refine z_box H #[.int .i64 0, .int .i64 0, .int .i64 0, .int .i64 0] 135 (fun v3 g3 H => ?_)
  refine x_nil <| x_then <| x_seq <| x_seq <| x_region <| x_b H [.m, .m] <| x_nil ?_
  refine x_then <| x_t (by kernel_rfl) <| x_seq <| x_region <| x_b H [.m, .l 1 2] <| z_ar ((i % o) + 1) <| x_b H [.m] ?_
  refine z_store H 1 2 [.int .i64 ((i % o) + 1)] (fun v4 H => ?_)
  refine x_nil <| x_then <| x_seq <| x_seq <| x_region <| x_b H [.m, .l 1 2, .m, .l 2 3, .v (.bool (decide (((i % o) + 1) = o)))] <| x_nil ?_
  refine x_then ?_
  cases h1 : decide (((i % o) + 1) = o)
  · skip
    have h1p := of_decide_eq_false h1
    refine x_f (by kernel_rfl) <| x_skipc <| x_then <| x_seq <| x_seq <| x_region <| x_b H [.m, .l 1 1, .m, .l 2 2, .v (.bool (decide ((i / o % b) = b)))] ?_
    refine x_nil <| x_then ?_
    cases h2 : decide ((i / o % b) = b)
    · skip
      have h2p := of_decide_eq_false h2
      refine x_f (by kernel_rfl) <| x_skipc <| x_then <| x_seq <| x_region <| x_b H [.n 1 0 4 135] <| z_store H 0 0 [.int .i64 (i / o / b), .int .i64 (i / o % b), .int .i64 ((i % o) + 1), .int .i64 0] (fun v5 H => ?_)
      refine x_nil <| x_then <| x_retc <| x_then_ret <| x_ret (.agg #[.int .i64 (i / o / b), .int .i64 (i / o % b), .int .i64 ((i % o) + 1), .int .i64 0]) (by kernel_rfl) (x_rescell H 0 g3 0 #[.int .i64 (i / o / b), .int .i64 (i / o % b), .int .i64 ((i % o) + 1), .int .i64 0] 135 [.int .i64 (i / o / b), .int .i64 (i / o % b), .int .i64 ((i % o) + 1), .int .i64 0] (fun x => x) (by kernel_rfl) (by kernel_rfl) (by kernel_rfl)) ?_
      rcases d1 with ⟨a1, a2, a3⟩ | ⟨a1, a2, a3⟩ <;> rcases d2 with ⟨b1, b2, b3⟩ | ⟨b1, b2, b3⟩ <;> first | (exfalso; omega) | (rw [a2, a3, b2, b3]; exact ⟨rfl, H.below⟩) | (rw [a2, a3]; exact ⟨rfl, H.below⟩)
    have h2p := of_decide_eq_true h2
    refine x_t (by kernel_rfl) <| x_seq <| x_region <| x_b H [.m] <| z_store H 1 1 [.int .i64 0] (fun v6 H => ?_)
    refine x_nil <| x_then <| x_region <| x_b H [.m, .l 1 0] <| z_ar ((i / o / b) + 1) <| x_b H [.m] <| z_store H 1 0 [.int .i64 ((i / o / b) + 1)] (fun v7 H => ?_)
    refine x_nil <| x_then <| x_seq <| x_region <| x_b H [.n 1 0 4 135] <| z_store H 0 0 [.int .i64 ((i / o / b) + 1), .int .i64 0, .int .i64 ((i % o) + 1), .int .i64 0] (fun v8 H => ?_)
    refine x_nil <| x_then <| x_retc <| x_then_ret <| x_ret (.agg #[.int .i64 ((i / o / b) + 1), .int .i64 0, .int .i64 ((i % o) + 1), .int .i64 0]) (by kernel_rfl) (x_rescell H 0 g3 0 #[.int .i64 ((i / o / b) + 1), .int .i64 0, .int .i64 ((i % o) + 1), .int .i64 0] 135 [.int .i64 ((i / o / b) + 1), .int .i64 0, .int .i64 ((i % o) + 1), .int .i64 0] (fun x => x) (by kernel_rfl) (by kernel_rfl) (by kernel_rfl)) ?_
    rcases d1 with ⟨a1, a2, a3⟩ | ⟨a1, a2, a3⟩ <;> rcases d2 with ⟨b1, b2, b3⟩ | ⟨b1, b2, b3⟩ <;> first | (exfalso; omega) | (rw [a2, a3, b2, b3]; exact ⟨rfl, H.below⟩) | (rw [a2, a3]; exact ⟨rfl, H.below⟩)
  have h1p := of_decide_eq_true h1
  refine x_t (by kernel_rfl) <| x_seq <| x_region <| x_b H [.m] <| z_store H 1 2 [.int .i64 0] (fun v9 H => ?_)
  refine x_nil <| x_then <| x_region <| x_b H [.m, .l 1 1] <| z_ar ((i / o % b) + 1) <| x_b H [.m] <| z_store H 1 1 [.int .i64 ((i / o % b) + 1)] (fun v10 H => ?_)
  refine x_nil <| x_then <| x_seq <| x_seq <| x_region <| x_b H [.m, .l 1 1, .m, .l 2 2, .v (.bool (decide (((i / o % b) + 1) = b)))] <| x_nil ?_
  refine x_then ?_
  cases h3 : decide (((i / o % b) + 1) = b)
  · skip
    have h3p := of_decide_eq_false h3
    refine x_f (by kernel_rfl) <| x_skipc <| x_then <| x_seq <| x_region <| x_b H [.n 1 0 4 135] <| z_store H 0 0 [.int .i64 (i / o / b), .int .i64 ((i / o % b) + 1), .int .i64 0, .int .i64 0] (fun v11 H => ?_)
    refine x_nil <| x_then <| x_retc <| x_then_ret <| x_ret (.agg #[.int .i64 (i / o / b), .int .i64 ((i / o % b) + 1), .int .i64 0, .int .i64 0]) (by kernel_rfl) (x_rescell H 0 g3 0 #[.int .i64 (i / o / b), .int .i64 ((i / o % b) + 1), .int .i64 0, .int .i64 0] 135 [.int .i64 (i / o / b), .int .i64 ((i / o % b) + 1), .int .i64 0, .int .i64 0] (fun x => x) (by kernel_rfl) (by kernel_rfl) (by kernel_rfl)) ?_
    rcases d1 with ⟨a1, a2, a3⟩ | ⟨a1, a2, a3⟩ <;> rcases d2 with ⟨b1, b2, b3⟩ | ⟨b1, b2, b3⟩ <;> first | (exfalso; omega) | (rw [a2, a3, b2, b3]; exact ⟨rfl, H.below⟩) | (rw [a2, a3]; exact ⟨rfl, H.below⟩)
  have h3p := of_decide_eq_true h3
  refine x_t (by kernel_rfl) <| x_seq <| x_region <| x_b H [.m] <| z_store H 1 1 [.int .i64 0] (fun v12 H => ?_)
  refine x_nil <| x_then <| x_region <| x_b H [.m, .l 1 0] <| z_ar ((i / o / b) + 1) <| x_b H [.m] <| z_store H 1 0 [.int .i64 ((i / o / b) + 1)] (fun v13 H => ?_)
  refine x_nil <| x_then <| x_seq <| x_region <| x_b H [.n 1 0 4 135] <| z_store H 0 0 [.int .i64 ((i / o / b) + 1), .int .i64 0, .int .i64 0, .int .i64 0] (fun v14 H => ?_)
  refine x_nil <| x_then <| x_retc <| x_then_ret <| x_ret (.agg #[.int .i64 ((i / o / b) + 1), .int .i64 0, .int .i64 0, .int .i64 0]) (by kernel_rfl) (x_rescell H 0 g3 0 #[.int .i64 ((i / o / b) + 1), .int .i64 0, .int .i64 0, .int .i64 0] 135 [.int .i64 ((i / o / b) + 1), .int .i64 0, .int .i64 0, .int .i64 0] (fun x => x) (by kernel_rfl) (by kernel_rfl) (by kernel_rfl)) ?_
  rcases d1 with ⟨a1, a2, a3⟩ | ⟨a1, a2, a3⟩ <;> rcases d2 with ⟨b1, b2, b3⟩ | ⟨b1, b2, b3⟩ <;> first | (exfalso; omega) | (rw [a2, a3, b2, b3]; exact ⟨rfl, H.below⟩) | (rw [a2, a3]; exact ⟨rfl, H.below⟩)
set_option maxRecDepth 100000 in
set_option maxHeartbeats 4000000 in
theorem Next1 (r s b o c : Int) (i : Int) (h0 : 0 ≤ i) (h1 : i ≤ 4096) (hr : 1 ≤ r ∧ r ≤ 8) (hb : 1 ≤ b ∧ b ≤ 16) (ho : 1 ≤ o ∧ o ≤ 1024) (w0 : World) :
    Calls Tryz.prog 88 #[.agg #[.int .i64 r, .int .i64 s, .int .i64 b, .int .i64 o, .int .i64 c], .int .i64 1, .agg #[.int .i64 (i / b / o), .int .i64 (i % b), .int .i64 (i / b % o), .int .i64 0]] w0 fun e w' => e = .returned (.agg #[.int .i64 ((i + 1) / b / o), .int .i64 ((i + 1) % b), .int .i64 ((i + 1) / b % o), .int .i64 0]) ∧ Below w0.heap.size w0 w' := by
  refine z_enter Tryz.func88 rfl ?_
  have H := Hs.nil w0
  have d1 := dstep i b (by omega)
  have d2 := dstep (i / b) o (by omega)
  have e1 := emod_bd (x := i) (q := b) (by omega)
  have e2 : 0 ≤ i / b := Int.ediv_nonneg h0 (by omega)
  have e3 : i / b ≤ i := Int.ediv_le_self _ h0
  have e4 := emod_bd (x := i / b) (q := o) (by omega)
  have e5 : 0 ≤ i / b / o := Int.ediv_nonneg e2 (by omega)
  have e6 : i / b / o ≤ i / b := Int.ediv_le_self _ e2
  refine x_seq <| x_region <| z_box H #[.int .i64 r, .int .i64 s, .int .i64 b, .int .i64 o, .int .i64 c] 30 (fun v1 g1 H => ?_)
  refine z_box H #[.int .i64 (i / b / o), .int .i64 (i % b), .int .i64 (i / b % o), .int .i64 0] 135 (fun v2 g2 H => ?_)
  refine z_box H #[.int .i64 0, .int .i64 0, .int .i64 0, .int .i64 0] 135 (fun v3 g3 H => ?_)
  refine x_nil <| x_then <| x_seq <| x_seq <| x_region <| x_b H [.m, .m] <| x_nil ?_
  refine x_then <| x_f (by kernel_rfl) <| x_skipc <| x_then <| x_seq <| x_seq <| x_region ?_
  refine x_b H [.m, .m] <| x_nil <| x_then <| x_t (by kernel_rfl) <| x_seq <| x_region <| x_b H [.m, .l 1 1] ?_
  refine z_ar ((i % b) + 1) <| x_b H [.m] <| z_store H 1 1 [.int .i64 ((i % b) + 1)] (fun v4 H => ?_)
  refine x_nil <| x_then <| x_seq <| x_seq <| x_region <| x_b H [.m, .l 1 1, .m, .l 2 2, .v (.bool (decide (((i % b) + 1) = b)))] <| x_nil ?_
  refine x_then ?_
  cases h1 : decide (((i % b) + 1) = b)
  · skip
    have h1p := of_decide_eq_false h1
    refine x_f (by kernel_rfl) <| x_skipc <| x_then <| x_seq <| x_seq <| x_region <| x_b H [.m, .l 1 2, .m, .l 2 3, .v (.bool (decide ((i / b % o) = o)))] ?_
    refine x_nil <| x_then ?_
    cases h2 : decide ((i / b % o) = o)
    · skip
      have h2p := of_decide_eq_false h2
      refine x_f (by kernel_rfl) <| x_skipc <| x_then <| x_seq <| x_region <| x_b H [.n 1 0 4 135] <| z_store H 0 0 [.int .i64 (i / b / o), .int .i64 ((i % b) + 1), .int .i64 (i / b % o), .int .i64 0] (fun v5 H => ?_)
      refine x_nil <| x_then <| x_retc <| x_then_ret <| x_ret (.agg #[.int .i64 (i / b / o), .int .i64 ((i % b) + 1), .int .i64 (i / b % o), .int .i64 0]) (by kernel_rfl) (x_rescell H 0 g3 0 #[.int .i64 (i / b / o), .int .i64 ((i % b) + 1), .int .i64 (i / b % o), .int .i64 0] 135 [.int .i64 (i / b / o), .int .i64 ((i % b) + 1), .int .i64 (i / b % o), .int .i64 0] (fun x => x) (by kernel_rfl) (by kernel_rfl) (by kernel_rfl)) ?_
      rcases d1 with ⟨a1, a2, a3⟩ | ⟨a1, a2, a3⟩ <;> rcases d2 with ⟨b1, b2, b3⟩ | ⟨b1, b2, b3⟩ <;> first | (exfalso; omega) | (rw [a2, a3, b2, b3]; exact ⟨rfl, H.below⟩) | (rw [a2, a3]; exact ⟨rfl, H.below⟩)
    have h2p := of_decide_eq_true h2
    refine x_t (by kernel_rfl) <| x_seq <| x_region <| x_b H [.m] <| z_store H 1 2 [.int .i64 0] (fun v6 H => ?_)
    refine x_nil <| x_then <| x_region <| x_b H [.m, .l 1 0] <| z_ar ((i / b / o) + 1) <| x_b H [.m] <| z_store H 1 0 [.int .i64 ((i / b / o) + 1)] (fun v7 H => ?_)
    refine x_nil <| x_then <| x_seq <| x_region <| x_b H [.n 1 0 4 135] <| z_store H 0 0 [.int .i64 ((i / b / o) + 1), .int .i64 ((i % b) + 1), .int .i64 0, .int .i64 0] (fun v8 H => ?_)
    refine x_nil <| x_then <| x_retc <| x_then_ret <| x_ret (.agg #[.int .i64 ((i / b / o) + 1), .int .i64 ((i % b) + 1), .int .i64 0, .int .i64 0]) (by kernel_rfl) (x_rescell H 0 g3 0 #[.int .i64 ((i / b / o) + 1), .int .i64 ((i % b) + 1), .int .i64 0, .int .i64 0] 135 [.int .i64 ((i / b / o) + 1), .int .i64 ((i % b) + 1), .int .i64 0, .int .i64 0] (fun x => x) (by kernel_rfl) (by kernel_rfl) (by kernel_rfl)) ?_
    rcases d1 with ⟨a1, a2, a3⟩ | ⟨a1, a2, a3⟩ <;> rcases d2 with ⟨b1, b2, b3⟩ | ⟨b1, b2, b3⟩ <;> first | (exfalso; omega) | (rw [a2, a3, b2, b3]; exact ⟨rfl, H.below⟩) | (rw [a2, a3]; exact ⟨rfl, H.below⟩)
  have h1p := of_decide_eq_true h1
  refine x_t (by kernel_rfl) <| x_seq <| x_region <| x_b H [.m] <| z_store H 1 1 [.int .i64 0] (fun v9 H => ?_)
  refine x_nil <| x_then <| x_region <| x_b H [.m, .l 1 2] <| z_ar ((i / b % o) + 1) <| x_b H [.m] <| z_store H 1 2 [.int .i64 ((i / b % o) + 1)] (fun v10 H => ?_)
  refine x_nil <| x_then <| x_seq <| x_seq <| x_region <| x_b H [.m, .l 1 2, .m, .l 2 3, .v (.bool (decide (((i / b % o) + 1) = o)))] <| x_nil ?_
  refine x_then ?_
  cases h3 : decide (((i / b % o) + 1) = o)
  · skip
    have h3p := of_decide_eq_false h3
    refine x_f (by kernel_rfl) <| x_skipc <| x_then <| x_seq <| x_region <| x_b H [.n 1 0 4 135] <| z_store H 0 0 [.int .i64 (i / b / o), .int .i64 0, .int .i64 ((i / b % o) + 1), .int .i64 0] (fun v11 H => ?_)
    refine x_nil <| x_then <| x_retc <| x_then_ret <| x_ret (.agg #[.int .i64 (i / b / o), .int .i64 0, .int .i64 ((i / b % o) + 1), .int .i64 0]) (by kernel_rfl) (x_rescell H 0 g3 0 #[.int .i64 (i / b / o), .int .i64 0, .int .i64 ((i / b % o) + 1), .int .i64 0] 135 [.int .i64 (i / b / o), .int .i64 0, .int .i64 ((i / b % o) + 1), .int .i64 0] (fun x => x) (by kernel_rfl) (by kernel_rfl) (by kernel_rfl)) ?_
    rcases d1 with ⟨a1, a2, a3⟩ | ⟨a1, a2, a3⟩ <;> rcases d2 with ⟨b1, b2, b3⟩ | ⟨b1, b2, b3⟩ <;> first | (exfalso; omega) | (rw [a2, a3, b2, b3]; exact ⟨rfl, H.below⟩) | (rw [a2, a3]; exact ⟨rfl, H.below⟩)
  have h3p := of_decide_eq_true h3
  refine x_t (by kernel_rfl) <| x_seq <| x_region <| x_b H [.m] <| z_store H 1 2 [.int .i64 0] (fun v12 H => ?_)
  refine x_nil <| x_then <| x_region <| x_b H [.m, .l 1 0] <| z_ar ((i / b / o) + 1) <| x_b H [.m] <| z_store H 1 0 [.int .i64 ((i / b / o) + 1)] (fun v13 H => ?_)
  refine x_nil <| x_then <| x_seq <| x_region <| x_b H [.n 1 0 4 135] <| z_store H 0 0 [.int .i64 ((i / b / o) + 1), .int .i64 0, .int .i64 0, .int .i64 0] (fun v14 H => ?_)
  refine x_nil <| x_then <| x_retc <| x_then_ret <| x_ret (.agg #[.int .i64 ((i / b / o) + 1), .int .i64 0, .int .i64 0, .int .i64 0]) (by kernel_rfl) (x_rescell H 0 g3 0 #[.int .i64 ((i / b / o) + 1), .int .i64 0, .int .i64 0, .int .i64 0] 135 [.int .i64 ((i / b / o) + 1), .int .i64 0, .int .i64 0, .int .i64 0] (fun x => x) (by kernel_rfl) (by kernel_rfl) (by kernel_rfl)) ?_
  rcases d1 with ⟨a1, a2, a3⟩ | ⟨a1, a2, a3⟩ <;> rcases d2 with ⟨b1, b2, b3⟩ | ⟨b1, b2, b3⟩ <;> first | (exfalso; omega) | (rw [a2, a3, b2, b3]; exact ⟨rfl, H.below⟩) | (rw [a2, a3]; exact ⟨rfl, H.below⟩)
set_option maxRecDepth 100000 in
set_option maxHeartbeats 4000000 in
theorem Next2 (r s b o c : Int) (i : Int) (h0 : 0 ≤ i) (h1 : i ≤ 4096) (hr : 1 ≤ r ∧ r ≤ 8) (hb : 1 ≤ b ∧ b ≤ 16) (ho : 1 ≤ o ∧ o ≤ 1024) (y : Int) (hy : ¬ y = 0 ∧ ¬ y = 1) (w0 : World) :
    Calls Tryz.prog 88 #[.agg #[.int .i64 r, .int .i64 s, .int .i64 b, .int .i64 o, .int .i64 c], .int .i64 y, .agg #[.int .i64 (i % r), .int .i64 (i / r % b), .int .i64 (i / r / b), .int .i64 0]] w0 fun e w' => e = .returned (.agg #[.int .i64 ((i + 1) % r), .int .i64 ((i + 1) / r % b), .int .i64 ((i + 1) / r / b), .int .i64 0]) ∧ Below w0.heap.size w0 w' := by
  refine z_enter Tryz.func88 rfl ?_
  have H := Hs.nil w0
  have d1 := dstep i r (by omega)
  have d2 := dstep (i / r) b (by omega)
  have e1 := emod_bd (x := i) (q := r) (by omega)
  have e2 : 0 ≤ i / r := Int.ediv_nonneg h0 (by omega)
  have e3 : i / r ≤ i := Int.ediv_le_self _ h0
  have e4 := emod_bd (x := i / r) (q := b) (by omega)
  have e5 : 0 ≤ i / r / b := Int.ediv_nonneg e2 (by omega)
  have e6 : i / r / b ≤ i / r := Int.ediv_le_self _ e2
  refine x_seq <| x_region <| z_box H #[.int .i64 r, .int .i64 s, .int .i64 b, .int .i64 o, .int .i64 c] 30 (fun v1 g1 H => ?_)
  refine z_box H #[.int .i64 (i % r), .int .i64 (i / r % b), .int .i64 (i / r / b), .int .i64 0] 135 (fun v2 g2 H => ?_)
  refine z_box H #[.int .i64 0, .int .i64 0, .int .i64 0, .int .i64 0] 135 (fun v3 g3 H => ?_)
  refine x_nil <| x_then <| x_seq <| x_seq <| x_region <| x_b H [.m, .v (.bool (decide (y = 0)))] <| x_nil ?_
  refine x_then ?_
  cases h1 : decide (y = 0)
  · skip
    have h1p := of_decide_eq_false h1
    refine x_f (by kernel_rfl) <| x_skipc <| x_then <| x_seq <| x_seq <| x_region <| x_b H [.m, .v (.bool (decide (y = 1)))] ?_
    refine x_nil <| x_then ?_
    cases h2 : decide (y = 1)
    · skip
      have h2p := of_decide_eq_false h2
      refine x_f (by kernel_rfl) <| x_skipc <| x_then <| x_seq <| x_region <| x_b H [.m, .l 1 0] <| z_ar ((i % r) + 1) ?_
      refine x_b H [.m] <| z_store H 1 0 [.int .i64 ((i % r) + 1)] (fun v4 H => ?_)
      refine x_nil <| x_then <| x_seq <| x_seq <| x_region <| x_b H [.m, .l 1 0, .m, .l 2 0, .v (.bool (decide (((i % r) + 1) = r)))] <| x_nil ?_
      refine x_then ?_
      cases h3 : decide (((i % r) + 1) = r)
      · skip
        have h3p := of_decide_eq_false h3
        refine x_f (by kernel_rfl) <| x_skipc <| x_then <| x_seq <| x_seq <| x_region <| x_b H [.m, .l 1 1, .m, .l 2 2, .v (.bool (decide ((i / r % b) = b)))] ?_
        refine x_nil <| x_then ?_
        cases h4 : decide ((i / r % b) = b)
        · skip
          have h4p := of_decide_eq_false h4
          refine x_f (by kernel_rfl) <| x_skipc <| x_then <| x_seq <| x_region <| x_b H [.n 1 0 4 135] <| z_store H 0 0 [.int .i64 ((i % r) + 1), .int .i64 (i / r % b), .int .i64 (i / r / b), .int .i64 0] (fun v5 H => ?_)
          refine x_nil <| x_then <| x_retc <| x_ret (.agg #[.int .i64 ((i % r) + 1), .int .i64 (i / r % b), .int .i64 (i / r / b), .int .i64 0]) (by kernel_rfl) (x_rescell H 0 g3 0 #[.int .i64 ((i % r) + 1), .int .i64 (i / r % b), .int .i64 (i / r / b), .int .i64 0] 135 [.int .i64 ((i % r) + 1), .int .i64 (i / r % b), .int .i64 (i / r / b), .int .i64 0] (fun x => x) (by kernel_rfl) (by kernel_rfl) (by kernel_rfl)) ?_
          rcases d1 with ⟨a1, a2, a3⟩ | ⟨a1, a2, a3⟩ <;> rcases d2 with ⟨b1, b2, b3⟩ | ⟨b1, b2, b3⟩ <;> first | (exfalso; omega) | (rw [a2, a3, b2, b3]; exact ⟨rfl, H.below⟩) | (rw [a2, a3]; exact ⟨rfl, H.below⟩)
        have h4p := of_decide_eq_true h4
        refine x_t (by kernel_rfl) <| x_seq <| x_region <| x_b H [.m] <| z_store H 1 1 [.int .i64 0] (fun v6 H => ?_)
        refine x_nil <| x_then <| x_region <| x_b H [.m, .l 1 2] <| z_ar ((i / r / b) + 1) <| x_b H [.m] <| z_store H 1 2 [.int .i64 ((i / r / b) + 1)] (fun v7 H => ?_)
        refine x_nil <| x_then <| x_seq <| x_region <| x_b H [.n 1 0 4 135] <| z_store H 0 0 [.int .i64 ((i % r) + 1), .int .i64 0, .int .i64 ((i / r / b) + 1), .int .i64 0] (fun v8 H => ?_)
        refine x_nil <| x_then <| x_retc <| x_ret (.agg #[.int .i64 ((i % r) + 1), .int .i64 0, .int .i64 ((i / r / b) + 1), .int .i64 0]) (by kernel_rfl) (x_rescell H 0 g3 0 #[.int .i64 ((i % r) + 1), .int .i64 0, .int .i64 ((i / r / b) + 1), .int .i64 0] 135 [.int .i64 ((i % r) + 1), .int .i64 0, .int .i64 ((i / r / b) + 1), .int .i64 0] (fun x => x) (by kernel_rfl) (by kernel_rfl) (by kernel_rfl)) ?_
        rcases d1 with ⟨a1, a2, a3⟩ | ⟨a1, a2, a3⟩ <;> rcases d2 with ⟨b1, b2, b3⟩ | ⟨b1, b2, b3⟩ <;> first | (exfalso; omega) | (rw [a2, a3, b2, b3]; exact ⟨rfl, H.below⟩) | (rw [a2, a3]; exact ⟨rfl, H.below⟩)
      have h3p := of_decide_eq_true h3
      refine x_t (by kernel_rfl) <| x_seq <| x_region <| x_b H [.m] <| z_store H 1 0 [.int .i64 0] (fun v9 H => ?_)
      refine x_nil <| x_then <| x_region <| x_b H [.m, .l 1 1] <| z_ar ((i / r % b) + 1) <| x_b H [.m] <| z_store H 1 1 [.int .i64 ((i / r % b) + 1)] (fun v10 H => ?_)
      refine x_nil <| x_then <| x_seq <| x_seq <| x_region <| x_b H [.m, .l 1 1, .m, .l 2 2, .v (.bool (decide (((i / r % b) + 1) = b)))] <| x_nil ?_
      refine x_then ?_
      cases h5 : decide (((i / r % b) + 1) = b)
      · skip
        have h5p := of_decide_eq_false h5
        refine x_f (by kernel_rfl) <| x_skipc <| x_then <| x_seq <| x_region <| x_b H [.n 1 0 4 135] <| z_store H 0 0 [.int .i64 0, .int .i64 ((i / r % b) + 1), .int .i64 (i / r / b), .int .i64 0] (fun v11 H => ?_)
        refine x_nil <| x_then <| x_retc <| x_ret (.agg #[.int .i64 0, .int .i64 ((i / r % b) + 1), .int .i64 (i / r / b), .int .i64 0]) (by kernel_rfl) (x_rescell H 0 g3 0 #[.int .i64 0, .int .i64 ((i / r % b) + 1), .int .i64 (i / r / b), .int .i64 0] 135 [.int .i64 0, .int .i64 ((i / r % b) + 1), .int .i64 (i / r / b), .int .i64 0] (fun x => x) (by kernel_rfl) (by kernel_rfl) (by kernel_rfl)) ?_
        rcases d1 with ⟨a1, a2, a3⟩ | ⟨a1, a2, a3⟩ <;> rcases d2 with ⟨b1, b2, b3⟩ | ⟨b1, b2, b3⟩ <;> first | (exfalso; omega) | (rw [a2, a3, b2, b3]; exact ⟨rfl, H.below⟩) | (rw [a2, a3]; exact ⟨rfl, H.below⟩)
      have h5p := of_decide_eq_true h5
      refine x_t (by kernel_rfl) <| x_seq <| x_region <| x_b H [.m] <| z_store H 1 1 [.int .i64 0] (fun v12 H => ?_)
      refine x_nil <| x_then <| x_region <| x_b H [.m, .l 1 2] <| z_ar ((i / r / b) + 1) <| x_b H [.m] <| z_store H 1 2 [.int .i64 ((i / r / b) + 1)] (fun v13 H => ?_)
      refine x_nil <| x_then <| x_seq <| x_region <| x_b H [.n 1 0 4 135] <| z_store H 0 0 [.int .i64 0, .int .i64 0, .int .i64 ((i / r / b) + 1), .int .i64 0] (fun v14 H => ?_)
      refine x_nil <| x_then <| x_retc <| x_ret (.agg #[.int .i64 0, .int .i64 0, .int .i64 ((i / r / b) + 1), .int .i64 0]) (by kernel_rfl) (x_rescell H 0 g3 0 #[.int .i64 0, .int .i64 0, .int .i64 ((i / r / b) + 1), .int .i64 0] 135 [.int .i64 0, .int .i64 0, .int .i64 ((i / r / b) + 1), .int .i64 0] (fun x => x) (by kernel_rfl) (by kernel_rfl) (by kernel_rfl)) ?_
      rcases d1 with ⟨a1, a2, a3⟩ | ⟨a1, a2, a3⟩ <;> rcases d2 with ⟨b1, b2, b3⟩ | ⟨b1, b2, b3⟩ <;> first | (exfalso; omega) | (rw [a2, a3, b2, b3]; exact ⟨rfl, H.below⟩) | (rw [a2, a3]; exact ⟨rfl, H.below⟩)
    have h2p := of_decide_eq_true h2
    refine x_t (by kernel_rfl) <| x_seq <| x_region <| x_b H [.m, .l 1 1] <| z_ar ((i / r % b) + 1) <| x_b H [.m] <| z_store H 1 1 [.int .i64 ((i / r % b) + 1)] (fun v15 H => ?_)
    refine x_nil <| x_then <| x_seq <| x_seq <| x_region <| x_b H [.m, .l 1 1, .m, .l 2 2, .v (.bool (decide (((i / r % b) + 1) = b)))] <| x_nil ?_
    refine x_then ?_
    cases h6 : decide (((i / r % b) + 1) = b)
    · skip
      have h6p := of_decide_eq_false h6
      refine x_f (by kernel_rfl) <| x_skipc <| x_then <| x_seq <| x_seq <| x_region <| x_b H [.m, .l 1 2, .m, .l 2 3, .v (.bool (decide ((i / r / b) = o)))] ?_
      refine x_nil <| x_then ?_
      cases h7 : decide ((i / r / b) = o)
      · skip
        have h7p := of_decide_eq_false h7
        refine x_f (by kernel_rfl) <| x_skipc <| x_then <| x_seq <| x_region <| x_b H [.n 1 0 4 135] <| z_store H 0 0 [.int .i64 (i % r), .int .i64 ((i / r % b) + 1), .int .i64 (i / r / b), .int .i64 0] (fun v16 H => ?_)
        refine x_nil <| x_then <| x_retc <| x_then_ret <| x_ret (.agg #[.int .i64 (i % r), .int .i64 ((i / r % b) + 1), .int .i64 (i / r / b), .int .i64 0]) (by kernel_rfl) (x_rescell H 0 g3 0 #[.int .i64 (i % r), .int .i64 ((i / r % b) + 1), .int .i64 (i / r / b), .int .i64 0] 135 [.int .i64 (i % r), .int .i64 ((i / r % b) + 1), .int .i64 (i / r / b), .int .i64 0] (fun x => x) (by kernel_rfl) (by kernel_rfl) (by kernel_rfl)) ?_
        rcases d1 with ⟨a1, a2, a3⟩ | ⟨a1, a2, a3⟩ <;> rcases d2 with ⟨b1, b2, b3⟩ | ⟨b1, b2, b3⟩ <;> first | (exfalso; omega) | (rw [a2, a3, b2, b3]; exact ⟨rfl, H.below⟩) | (rw [a2, a3]; exact ⟨rfl, H.below⟩)
      have h7p := of_decide_eq_true h7
      refine x_t (by kernel_rfl) <| x_seq <| x_region <| x_b H [.m] <| z_store H 1 2 [.int .i64 0] (fun v17 H => ?_)
      refine x_nil <| x_then <| x_region <| x_b H [.m, .l 1 0] <| z_ar ((i % r) + 1) <| x_b H [.m] <| z_store H 1 0 [.int .i64 ((i % r) + 1)] (fun v18 H => ?_)
      refine x_nil <| x_then <| x_seq <| x_region <| x_b H [.n 1 0 4 135] <| z_store H 0 0 [.int .i64 ((i % r) + 1), .int .i64 ((i / r % b) + 1), .int .i64 0, .int .i64 0] (fun v19 H => ?_)
      refine x_nil <| x_then <| x_retc <| x_then_ret <| x_ret (.agg #[.int .i64 ((i % r) + 1), .int .i64 ((i / r % b) + 1), .int .i64 0, .int .i64 0]) (by kernel_rfl) (x_rescell H 0 g3 0 #[.int .i64 ((i % r) + 1), .int .i64 ((i / r % b) + 1), .int .i64 0, .int .i64 0] 135 [.int .i64 ((i % r) + 1), .int .i64 ((i / r % b) + 1), .int .i64 0, .int .i64 0] (fun x => x) (by kernel_rfl) (by kernel_rfl) (by kernel_rfl)) ?_
      rcases d1 with ⟨a1, a2, a3⟩ | ⟨a1, a2, a3⟩ <;> rcases d2 with ⟨b1, b2, b3⟩ | ⟨b1, b2, b3⟩ <;> first | (exfalso; omega) | (rw [a2, a3, b2, b3]; exact ⟨rfl, H.below⟩) | (rw [a2, a3]; exact ⟨rfl, H.below⟩)
    have h6p := of_decide_eq_true h6
    refine x_t (by kernel_rfl) <| x_seq <| x_region <| x_b H [.m] <| z_store H 1 1 [.int .i64 0] (fun v20 H => ?_)
    refine x_nil <| x_then <| x_region <| x_b H [.m, .l 1 2] <| z_ar ((i / r / b) + 1) <| x_b H [.m] <| z_store H 1 2 [.int .i64 ((i / r / b) + 1)] (fun v21 H => ?_)
    refine x_nil <| x_then <| x_seq <| x_seq <| x_region <| x_b H [.m, .l 1 2, .m, .l 2 3, .v (.bool (decide (((i / r / b) + 1) = o)))] <| x_nil ?_
    refine x_then ?_
    cases h8 : decide (((i / r / b) + 1) = o)
    · skip
      have h8p := of_decide_eq_false h8
      refine x_f (by kernel_rfl) <| x_skipc <| x_then <| x_seq <| x_region <| x_b H [.n 1 0 4 135] <| z_store H 0 0 [.int .i64 (i % r), .int .i64 0, .int .i64 ((i / r / b) + 1), .int .i64 0] (fun v22 H => ?_)
      refine x_nil <| x_then <| x_retc <| x_then_ret <| x_ret (.agg #[.int .i64 (i % r), .int .i64 0, .int .i64 ((i / r / b) + 1), .int .i64 0]) (by kernel_rfl) (x_rescell H 0 g3 0 #[.int .i64 (i % r), .int .i64 0, .int .i64 ((i / r / b) + 1), .int .i64 0] 135 [.int .i64 (i % r), .int .i64 0, .int .i64 ((i / r / b) + 1), .int .i64 0] (fun x => x) (by kernel_rfl) (by kernel_rfl) (by kernel_rfl)) ?_
      rcases d1 with ⟨a1, a2, a3⟩ | ⟨a1, a2, a3⟩ <;> rcases d2 with ⟨b1, b2, b3⟩ | ⟨b1, b2, b3⟩ <;> first | (exfalso; omega) | (rw [a2, a3, b2, b3]; exact ⟨rfl, H.below⟩) | (rw [a2, a3]; exact ⟨rfl, H.below⟩)
    have h8p := of_decide_eq_true h8
    refine x_t (by kernel_rfl) <| x_seq <| x_region <| x_b H [.m] <| z_store H 1 2 [.int .i64 0] (fun v23 H => ?_)
    refine x_nil <| x_then <| x_region <| x_b H [.m, .l 1 0] <| z_ar ((i % r) + 1) <| x_b H [.m] <| z_store H 1 0 [.int .i64 ((i % r) + 1)] (fun v24 H => ?_)
    refine x_nil <| x_then <| x_seq <| x_region <| x_b H [.n 1 0 4 135] <| z_store H 0 0 [.int .i64 ((i % r) + 1), .int .i64 0, .int .i64 0, .int .i64 0] (fun v25 H => ?_)
    refine x_nil <| x_then <| x_retc <| x_then_ret <| x_ret (.agg #[.int .i64 ((i % r) + 1), .int .i64 0, .int .i64 0, .int .i64 0]) (by kernel_rfl) (x_rescell H 0 g3 0 #[.int .i64 ((i % r) + 1), .int .i64 0, .int .i64 0, .int .i64 0] 135 [.int .i64 ((i % r) + 1), .int .i64 0, .int .i64 0, .int .i64 0] (fun x => x) (by kernel_rfl) (by kernel_rfl) (by kernel_rfl)) ?_
    rcases d1 with ⟨a1, a2, a3⟩ | ⟨a1, a2, a3⟩ <;> rcases d2 with ⟨b1, b2, b3⟩ | ⟨b1, b2, b3⟩ <;> first | (exfalso; omega) | (rw [a2, a3, b2, b3]; exact ⟨rfl, H.below⟩) | (rw [a2, a3]; exact ⟨rfl, H.below⟩)
  have h1p := of_decide_eq_true h1
  refine x_t (by kernel_rfl) <| x_seq <| x_region <| x_b H [.m, .l 1 2] <| z_ar ((i / r / b) + 1) <| x_b H [.m] <| z_store H 1 2 [.int .i64 ((i / r / b) + 1)] (fun v26 H => ?_)
  refine x_nil <| x_then <| x_seq <| x_seq <| x_region <| x_b H [.m, .l 1 2, .m, .l 2 3, .v (.bool (decide (((i / r / b) + 1) = o)))] <| x_nil ?_
  refine x_then ?_
  cases h9 : decide (((i / r / b) + 1) = o)
  · skip
    have h9p := of_decide_eq_false h9
    refine x_f (by kernel_rfl) <| x_skipc <| x_then <| x_seq <| x_seq <| x_region <| x_b H [.m, .l 1 1, .m, .l 2 2, .v (.bool (decide ((i / r % b) = b)))] ?_
    refine x_nil <| x_then ?_
    cases h10 : decide ((i / r % b) = b)
    · skip
      have h10p := of_decide_eq_false h10
      refine x_f (by kernel_rfl) <| x_skipc <| x_then <| x_seq <| x_region <| x_b H [.n 1 0 4 135] <| z_store H 0 0 [.int .i64 (i % r), .int .i64 (i / r % b), .int .i64 ((i / r / b) + 1), .int .i64 0] (fun v27 H => ?_)
      refine x_nil <| x_then <| x_retc <| x_then_ret <| x_ret (.agg #[.int .i64 (i % r), .int .i64 (i / r % b), .int .i64 ((i / r / b) + 1), .int .i64 0]) (by kernel_rfl) (x_rescell H 0 g3 0 #[.int .i64 (i % r), .int .i64 (i / r % b), .int .i64 ((i / r / b) + 1), .int .i64 0] 135 [.int .i64 (i % r), .int .i64 (i / r % b), .int .i64 ((i / r / b) + 1), .int .i64 0] (fun x => x) (by kernel_rfl) (by kernel_rfl) (by kernel_rfl)) ?_
      rcases d1 with ⟨a1, a2, a3⟩ | ⟨a1, a2, a3⟩ <;> rcases d2 with ⟨b1, b2, b3⟩ | ⟨b1, b2, b3⟩ <;> first | (exfalso; omega) | (rw [a2, a3, b2, b3]; exact ⟨rfl, H.below⟩) | (rw [a2, a3]; exact ⟨rfl, H.below⟩)
    have h10p := of_decide_eq_true h10
    refine x_t (by kernel_rfl) <| x_seq <| x_region <| x_b H [.m] <| z_store H 1 1 [.int .i64 0] (fun v28 H => ?_)
    refine x_nil <| x_then <| x_region <| x_b H [.m, .l 1 0] <| z_ar ((i % r) + 1) <| x_b H [.m] <| z_store H 1 0 [.int .i64 ((i % r) + 1)] (fun v29 H => ?_)
    refine x_nil <| x_then <| x_seq <| x_region <| x_b H [.n 1 0 4 135] <| z_store H 0 0 [.int .i64 ((i % r) + 1), .int .i64 0, .int .i64 ((i / r / b) + 1), .int .i64 0] (fun v30 H => ?_)
    refine x_nil <| x_then <| x_retc <| x_then_ret <| x_ret (.agg #[.int .i64 ((i % r) + 1), .int .i64 0, .int .i64 ((i / r / b) + 1), .int .i64 0]) (by kernel_rfl) (x_rescell H 0 g3 0 #[.int .i64 ((i % r) + 1), .int .i64 0, .int .i64 ((i / r / b) + 1), .int .i64 0] 135 [.int .i64 ((i % r) + 1), .int .i64 0, .int .i64 ((i / r / b) + 1), .int .i64 0] (fun x => x) (by kernel_rfl) (by kernel_rfl) (by kernel_rfl)) ?_
    rcases d1 with ⟨a1, a2, a3⟩ | ⟨a1, a2, a3⟩ <;> rcases d2 with ⟨b1, b2, b3⟩ | ⟨b1, b2, b3⟩ <;> first | (exfalso; omega) | (rw [a2, a3, b2, b3]; exact ⟨rfl, H.below⟩) | (rw [a2, a3]; exact ⟨rfl, H.below⟩)
  have h9p := of_decide_eq_true h9
  refine x_t (by kernel_rfl) <| x_seq <| x_region <| x_b H [.m] <| z_store H 1 2 [.int .i64 0] (fun v31 H => ?_)
  refine x_nil <| x_then <| x_region <| x_b H [.m, .l 1 1] <| z_ar ((i / r % b) + 1) <| x_b H [.m] <| z_store H 1 1 [.int .i64 ((i / r % b) + 1)] (fun v32 H => ?_)
  refine x_nil <| x_then <| x_seq <| x_seq <| x_region <| x_b H [.m, .l 1 1, .m, .l 2 2, .v (.bool (decide (((i / r % b) + 1) = b)))] <| x_nil ?_
  refine x_then ?_
  cases h11 : decide (((i / r % b) + 1) = b)
  · skip
    have h11p := of_decide_eq_false h11
    refine x_f (by kernel_rfl) <| x_skipc <| x_then <| x_seq <| x_region <| x_b H [.n 1 0 4 135] <| z_store H 0 0 [.int .i64 (i % r), .int .i64 ((i / r % b) + 1), .int .i64 0, .int .i64 0] (fun v33 H => ?_)
    refine x_nil <| x_then <| x_retc <| x_then_ret <| x_ret (.agg #[.int .i64 (i % r), .int .i64 ((i / r % b) + 1), .int .i64 0, .int .i64 0]) (by kernel_rfl) (x_rescell H 0 g3 0 #[.int .i64 (i % r), .int .i64 ((i / r % b) + 1), .int .i64 0, .int .i64 0] 135 [.int .i64 (i % r), .int .i64 ((i / r % b) + 1), .int .i64 0, .int .i64 0] (fun x => x) (by kernel_rfl) (by kernel_rfl) (by kernel_rfl)) ?_
    rcases d1 with ⟨a1, a2, a3⟩ | ⟨a1, a2, a3⟩ <;> rcases d2 with ⟨b1, b2, b3⟩ | ⟨b1, b2, b3⟩ <;> first | (exfalso; omega) | (rw [a2, a3, b2, b3]; exact ⟨rfl, H.below⟩) | (rw [a2, a3]; exact ⟨rfl, H.below⟩)
  have h11p := of_decide_eq_true h11
  refine x_t (by kernel_rfl) <| x_seq <| x_region <| x_b H [.m] <| z_store H 1 1 [.int .i64 0] (fun v34 H => ?_)
  refine x_nil <| x_then <| x_region <| x_b H [.m, .l 1 0] <| z_ar ((i % r) + 1) <| x_b H [.m] <| z_store H 1 0 [.int .i64 ((i % r) + 1)] (fun v35 H => ?_)
  refine x_nil <| x_then <| x_seq <| x_region <| x_b H [.n 1 0 4 135] <| z_store H 0 0 [.int .i64 ((i % r) + 1), .int .i64 0, .int .i64 0, .int .i64 0] (fun v36 H => ?_)
  refine x_nil <| x_then <| x_retc <| x_then_ret <| x_ret (.agg #[.int .i64 ((i % r) + 1), .int .i64 0, .int .i64 0, .int .i64 0]) (by kernel_rfl) (x_rescell H 0 g3 0 #[.int .i64 ((i % r) + 1), .int .i64 0, .int .i64 0, .int .i64 0] 135 [.int .i64 ((i % r) + 1), .int .i64 0, .int .i64 0, .int .i64 0] (fun x => x) (by kernel_rfl) (by kernel_rfl) (by kernel_rfl)) ?_
  rcases d1 with ⟨a1, a2, a3⟩ | ⟨a1, a2, a3⟩ <;> rcases d2 with ⟨b1, b2, b3⟩ | ⟨b1, b2, b3⟩ <;> first | (exfalso; omega) | (rw [a2, a3, b2, b3]; exact ⟨rfl, H.below⟩) | (rw [a2, a3]; exact ⟨rfl, H.below⟩)
def rkG (y r b o i : Int) : Int := if y = 0 then i / o / b else if y = 1 then i / b / o else i % r
def rwG (y r b o i : Int) : Int := if y = 0 then i % o else if y = 1 then i / b % o else i / r / b
theorem Next_any (y : Int) (r s b o c : Int) (i : Int) (h0 : 0 ≤ i) (h1 : i ≤ 4096) (hr : 1 ≤ r ∧ r ≤ 8) (hb : 1 ≤ b ∧ b ≤ 16) (ho : 1 ≤ o ∧ o ≤ 1024) (w0 : World) : Calls Tryz.prog 88 #[.agg #[.int .i64 r, .int .i64 s, .int .i64 b, .int .i64 o, .int .i64 c], .int .i64 y, .agg #[.int .i64 (rkG y r b o i), .int .i64 (pgBank0 y r b o i), .int .i64 (rwG y r b o i), .int .i64 0]] w0 fun e w' => e = .returned (.agg #[.int .i64 (rkG y r b o (i + 1)), .int .i64 (pgBank0 y r b o (i + 1)), .int .i64 (rwG y r b o (i + 1)), .int .i64 0]) ∧ Below w0.heap.size w0 w' := by
  unfold rkG rwG pgBank0
  by_cases y0 : y = 0
  · subst y0; simp only [if_true]; exact Next0 r s b o c i h0 h1 hr hb ho w0
  · by_cases y1 : y = 1
    · subst y1; simp only [if_neg y0, if_true]; exact Next1 r s b o c i h0 h1 hr hb ho w0
    · simp only [if_neg y0, if_neg y1]; exact Next2 r s b o c i h0 h1 hr hb ho y ⟨y0, y1⟩ w0
theorem div_lt3 {i r b o : Int} (h0 : 0 ≤ i) (hi : i < r * b * o) (hb : 1 ≤ b) (ho : 1 ≤ o) : 0 ≤ i / o / b ∧ i / o / b < r := by
  have h1 : i / o < r * b := Int.ediv_lt_of_lt_mul (by omega) hi
  have h2 : 0 ≤ i / o := Int.ediv_nonneg h0 (by omega)
  exact ⟨Int.ediv_nonneg h2 (by omega), Int.ediv_lt_of_lt_mul (by omega) h1⟩
theorem G_pg {y r b o i : Int} (h0 : 0 ≤ i) (hi : i < r * b * o) (hr : 1 ≤ r) (hb : 1 ≤ b) (ho : 1 ≤ o) : rkG y r b o i = pgRank y r b o i ∧ rwG y r b o i = pgRow y r b o i := by
  unfold rkG rwG pgRank pgRow
  by_cases y0 : y = 0
  · simp only [if_pos y0]
    have := div_lt3 h0 hi hb ho
    exact ⟨(Int.emod_eq_of_lt this.1 this.2).symm, trivial⟩
  · by_cases y1 : y = 1
    · simp only [if_neg y0, if_pos y1]
      have := div_lt3 (r := r) (b := o) (o := b) h0 (by rw [Int.mul_assoc, Int.mul_comm o b, ← Int.mul_assoc]; exact hi) ho hb
      exact ⟨(Int.emod_eq_of_lt this.1 this.2).symm, trivial⟩
    · simp only [if_neg y0, if_neg y1]
      have := div_lt3 (r := o) (b := b) (o := r) h0 (by rw [Int.mul_comm (o * b) r, Int.mul_comm o b, ← Int.mul_assoc]; exact hi) hb hr
      exact ⟨trivial, (Int.emod_eq_of_lt this.1 this.2).symm⟩
/-- Where the pages lie. -/
def layL (y r b o : Int) : Nat → List Int
  | 0 => []
  | k + 1 => layL y r b o k ++ [pgAt y r b o ((k : Nat) : Int)]
theorem layL_len (y r b o : Int) : ∀ k, (layL y r b o k).length = k
  | 0 => rfl
  | k + 1 => by rw [layL, List.length_append, layL_len y r b o k]; rfl
theorem layL_get (y r b o : Int) : ∀ (n k : Nat), k < n → (layL y r b o n).getD k 0 = pgAt y r b o ((k : Nat) : Int)
  | 0, k, h => by omega
  | n + 1, k, h => by
    rw [layL]
    by_cases e : k = n
    · subst e; simp [List.getD, layL_len, List.getElem?_append_right]
    · have := layL_get y r b o n k (by omega)
      simp only [List.getD, List.getElem?_append_left (show k < (layL y r b o n).length by rw [layL_len]; omega)] at this ⊢
      exact this
set_option maxRecDepth 100000 in
set_option maxHeartbeats 4000000 in
theorem Idx7 (rk bk rw : Int) (h1 : 0 ≤ rk ∧ rk ≤ 4096) (h2 : 0 ≤ bk ∧ bk ≤ 4096) (h3 : 0 ≤ rw ∧ rw ≤ 4096) (w0 : World) :
    Calls Tryz.prog 87 #[.agg #[.int .i64 rk, .int .i64 bk, .int .i64 rw, .int .i64 0]] w0 fun e w' => e = .returned (.int .i64 (1048576 * rk + 65536 * bk + 64 * rw + 0)) ∧ Below w0.heap.size w0 w' := by
  refine z_enter Tryz.func87 rfl ?_
  have H := Hs.nil w0
  refine x_seq <| x_region <| z_box H #[.int .i64 rk, .int .i64 bk, .int .i64 rw, .int .i64 0] 135 (fun v1 g1 H => ?_)
  refine x_b H [.m] <| x_nil <| x_then <| x_seq <| x_region <| x_b H [.m, .l 0 0] <| z_ar (1048576 * rk) ?_
  refine x_b H [.m, .l 0 1] <| z_ar (65536 * bk) <| z_ar ((1048576 * rk) + (65536 * bk)) <| x_b H [.m, .l 0 2] <| z_ar (64 * rw) <| z_ar (((1048576 * rk) + (65536 * bk)) + (64 * rw)) <| x_b H [.m, .l 0 3] ?_
  refine z_ar ((((1048576 * rk) + (65536 * bk)) + (64 * rw)) + 0) <| x_b H [.m] <| x_nil <| x_then <| x_retc <| x_ret (.int .i64 ((((1048576 * rk) + (65536 * bk)) + (64 * rw)) + 0)) (by kernel_rfl) (by kernel_rfl) ?_
  exact ⟨rfl, H.below⟩
set_option maxRecDepth 100000 in
set_option maxHeartbeats 4000000 in
theorem Layout8 {r s b o c y z : Int} {pg sn ns : Nat} (hL : Lay r s b o c y z pg sn ns) (w0 : World) :
    Calls Tryz.prog 48 #[.agg #[.int .i64 r, .int .i64 s, .int .i64 b, .int .i64 o, .int .i64 c], .int .i64 y] w0 fun e w' => ∃ u cu, e = .returned (.slice (some ⟨u, 0, none⟩) pg cu) ∧ Hs [] w0 w' [.row (.slice (some ⟨u, 0, none⟩) pg cu) 3 1 pg (List.map (Value.int .i64) (layL y r b o pg))] := by
  refine z_enter Tryz.func48 rfl ?_
  have H := Hs.nil w0
  have hg : geomOk r s b o c = true := by have h := hL.ok; unfold layoutOk interOk at h; simp only [Bool.and_eq_true] at h; exact h.1.1
  obtain ⟨-, rr1, r8, s0, s8, b1, b2, o1, o2, c1, c2, y0, y4, z0, z2, hpg, hsn, hns, sn1, pg2, ln0, ln2⟩ := id hL
  have hpw : pwB b 16 = true := by unfold geomOk at hg; simp only [Bool.and_eq_true] at hg; exact hg.2.2.2.1
  have hm1 := mul_bd (x := r) (y := b) (p := 8) (q := 16) (by omega) r8 (by omega) b2
  refine x_seq <| x_region <| z_box H #[.int .i64 r, .int .i64 s, .int .i64 b, .int .i64 o, .int .i64 c] 30 (fun v1 g1 H => ?_)
  refine x_b H [.m] <| x_nil <| x_then <| x_seq <| x_region <| x_b H [.m] <| x_nil ?_
  refine x_then <| x_seq <| x_region <| x_b H [.m, .l 0 0, .m, .l 0 2] <| z_ar (r * b) <| x_b H [.m, .l 0 3] <| z_ar ((r * b) * o) ?_
  refine x_b H [.m] <| x_nil <| x_then <| x_seq <| x_region <| x_b H [.m] <| z_box H #[.int .i64 0, .int .i64 0, .int .i64 0, .int .i64 0] 135 (fun v2 g2 H => ?_)
  refine z_store H 0 0 [.int .i64 0, .int .i64 0, .int .i64 0, .int .i64 0] (fun v3 H => ?_)
  refine x_nil <| x_then <| x_seq <| x_seq <| x_region <| x_b H [.m] <| x_nil ?_
  refine x_then <| x_block ?_
  replace H := H.pk [0, 1]
  have z1 : rkG y r b o ((0 : Nat) : Int) = 0 := by simp [rkG]
  have z2 : pgBank0 y r b o ((0 : Nat) : Int) = 0 := by simp [pgBank0]
  have z3 : rwG y r b o ((0 : Nat) : Int) = 0 := by simp [rwG]
  replace H : Hs [] w0 v3 [.blk g2 #[.int .i64 (rkG y r b o ((0 : Nat) : Int)), .int .i64 (pgBank0 y r b o ((0 : Nat) : Int)), .int .i64 (rwG y r b o ((0 : Nat) : Int)), .int .i64 0] 135, .blk g1 #[.int .i64 r, .int .i64 s, .int .i64 b, .int .i64 o, .int .i64 c] 30] := by rw [z1, z2, z3]; exact H
  replace H := H.nilRow 3 1
  refine x_loop (G := Nat × Value) (fun gh a w' => match gh with | (k, ov) => ∃ uf1 : Nat → Value, a = frm 46 uf1 [(1, .int .i64 y), (2, .pointer (some ⟨g1, 0, none⟩)), (5, ov), (6, .int .i64 ((r * b) * o)), (7, .pointer (some ⟨g2, 0, none⟩)), (8, .int .i64 (k : Int))] [] ∧ Hs [] w0 w' [.row (ov) 3 1 (List.length (layL y r b o k)) (List.map (Value.int .i64) (layL y r b o k)), .blk g2 #[.int .i64 (rkG y r b o (k : Int)), .int .i64 (pgBank0 y r b o (k : Int)), .int .i64 (rwG y r b o (k : Int)), .int .i64 0] 135, .blk g1 #[.int .i64 r, .int .i64 s, .int .i64 b, .int .i64 o, .int .i64 c] 30] ∧ (k ≤ pg)) (fun gh => match gh with | (k, ov) => pg - k) (0, .slice none 0 0) ⟨_, frm_of, H, (Nat.zero_le _)⟩ ?_
  clear H
  rintro ⟨k, ov⟩ _ v4 ⟨uf1, rfl, H, r1⟩
  have hki : (k : Int) ≤ 4096 := by omega
  have hb0 : 0 ≤ pgBank0 y r b o (k : Int) ∧ pgBank0 y r b o (k : Int) < b := by unfold pgBank0; split; exact emod_bd b1; split; exact emod_bd b1; exact emod_bd b1
  refine x_seq <| x_seq <| x_region <| x_b H [.m, .m, .v (.bool (decide ((k : Int) < ((r * b) * o))))] <| x_nil <| x_then ?_
  cases h1 : decide ((k : Int) < ((r * b) * o))
  · skip
    have h1p := of_decide_eq_false h1
    refine x_f (by kernel_rfl) <| x_exit <| x_then_exit <| x_then_exit <| x_blk_exit <| x_then <| x_seq ?_
    refine x_region <| x_b H [.m, .m] <| x_nil <| x_then <| x_retc <| x_ret (ov) (by kernel_rfl) (by kernel_rfl) ?_
    have hkp : k = pg := by omega
    rw [hkp, layL_len] at H
    rcases H.rowForm 0 rfl with ⟨rfl, h0⟩ | ⟨gw, cw, rfl, hcw, -⟩
    · exfalso; omega
    exact ⟨_, _, rfl, H.pick [0] _ (by decide) (by kernel_rfl)⟩
  have h1p := of_decide_eq_true h1
  have hgg := G_pg (y := y) (r := r) (b := b) (o := o) (i := (k : Int)) (by omega) (by omega) rr1 b1 o1
  have hpb := pg_bd y (k : Int) hg
  rw [← hgg.1, ← hgg.2] at hpb
  refine x_t (by kernel_rfl) <| x_skipc <| x_then <| x_seq <| x_block <| x_seq <| x_region ?_
  refine x_b H [.n 1 0 4 135] <| z_box H #[.int .i64 0, .int .i64 0, .int .i64 0, .int .i64 0] 135 (fun v5 g3 H => ?_)
  refine z_store H 0 0 [.int .i64 (rkG y r b o (k : Int)), .int .i64 (pgBank0 y r b o (k : Int)), .int .i64 (rwG y r b o (k : Int)), .int .i64 0] (fun v6 H => ?_)
  refine x_nil <| x_then <| x_seq <| x_seq <| x_region <| x_b H [.m, .v (.bool (decide (y = 3)))] <| x_nil ?_
  refine x_then ?_
  cases h2 : decide (y = 3)
  · skip
    have h2p := of_decide_eq_false h2
    refine x_f (by kernel_rfl) <| x_skipc <| x_then <| x_seq <| x_region <| x_b H [.m, .n 0 0 4 135] ?_
    have hbk : 0 ≤ (pgBank0 y r b o (k : Int)) ∧ (pgBank0 y r b o (k : Int)) ≤ 4096 := by omega
    refine z_callB (v := .int .i64 (1048576 * (rkG y r b o (k : Int)) + 65536 * (pgBank0 y r b o (k : Int)) + 64 * (rwG y r b o (k : Int)) + 0)) H (Idx7 (rkG y r b o (k : Int)) (pgBank0 y r b o (k : Int)) (rwG y r b o (k : Int)) (by omega) hbk (by omega) _) fun v7 H => x_eq (.int .i64 ((1048576 * (rkG y r b o (k : Int)) + 65536 * (pgBank0 y r b o (k : Int)) + 64 * (rwG y r b o (k : Int)) + 0) / 64)) (e_quo (1048576 * (rkG y r b o (k : Int)) + 65536 * (pgBank0 y r b o (k : Int)) + 64 * (rwG y r b o (k : Int)) + 0) 64 (by omega) (by omega) (by omega)) (by kernel_rfl) rfl (by kernel_rfl) <| x_box' H #[.int .i64 ((1048576 * (rkG y r b o (k : Int)) + 65536 * (pgBank0 y r b o (k : Int)) + 64 * (rwG y r b o (k : Int)) + 0) / 64)] 3 1 (by kernel_rfl) rfl (by kernel_rfl) ?_
    clear H
    intro v8 g4 H
    refine x_append H 2 (ov) 31 3 1 8 (List.length (layL y r b o k)) (.int .i64 0) (List.map (Value.int .i64) (layL y r b o k)) ⟨g4, 0, none⟩ 1 1 [.int .i64 ((1048576 * (rkG y r b o (k : Int)) + 65536 * (pgBank0 y r b o (k : Int)) + 64 * (rwG y r b o (k : Int)) + 0) / 64)] rfl (by kernel_rfl) (by kernel_rfl) rfl (by decide) (by decide) rfl (fun j u hj => by rw [add_none]; exact cellOf (H.blk 0 rfl) (by simpa using hj)) (List.all_eq_true.1 (by kernel_rfl)) (by rw [layL_len]; unfold maxLen; omega) (by rw [layL_len]; omega) (by kernel_rfl) rfl (by kernel_rfl) ?_
    clear H
    intro v9 g5 c5 hc5 H
    rw [show (((List.length (layL y r b o k)) + 1) : Nat) = (List.length (layL y r b o (k + 1))) from (by rw [layL_len, layL_len])] at H ⊢
    rw [show (List.map (Value.int .i64) (layL y r b o k)) ++ [.int .i64 ((1048576 * (rkG y r b o (k : Int)) + 65536 * (pgBank0 y r b o (k : Int)) + 64 * (rwG y r b o (k : Int)) + 0) / 64)] = (List.map (Value.int .i64) (layL y r b o (k + 1))) from (by rw [layL, List.map_append, show pgAt y r b o (k : Int) = (1048576 * (rkG y r b o (k : Int)) + 65536 * (pgBank0 y r b o (k : Int)) + 64 * (rwG y r b o (k : Int)) + 0) / 64 from by unfold pgAt pgBank; rw [← hgg.1, ← hgg.2, if_neg h2p]; omega]; rfl)] at H
    replace H := H.pk [1, 2, 3, 4]
    refine x_b H [.m] <| x_nil <| x_then <| x_region <| x_b H [.n 3 0 5 30, .m, .n 2 0 4 135] <| z_callB (v := .agg #[.int .i64 (rkG y r b o ((k : Int) + 1)), .int .i64 (pgBank0 y r b o ((k : Int) + 1)), .int .i64 (rwG y r b o ((k : Int) + 1)), .int .i64 0]) H (Next_any y r s b o c (k : Int) (by omega) (by omega) ⟨rr1, r8⟩ ⟨b1, b2⟩ ⟨o1, o2⟩ _) fun v10 H => z_store H 2 0 [.int .i64 (rkG y r b o ((k : Int) + 1)), .int .i64 (pgBank0 y r b o ((k : Int) + 1)), .int .i64 (rwG y r b o ((k : Int) + 1)), .int .i64 0] (fun v11 H => ?_)
    refine x_nil <| x_blk <| x_then <| x_region <| x_b H [.m] <| z_ar ((k : Int) + 1) <| x_b H [.m] ?_
    refine x_nil <| x_then ?_
    replace H := H.pk [1, 2, 3]
    exact ⟨(k + 1, .slice (some ⟨g5, 0, none⟩) (List.length (layL y r b o (k + 1))) c5), (by dsimp only; omega), _, frm_of, H, (by omega)⟩
  have h2p := of_decide_eq_true h2
  refine x_t (by kernel_rfl) <| x_region <| x_b H [.m, .l 2 1, .m, .l 2 2, .m, .l 3 2] <| z_callB (v := .int .i64 (bits .xor .i64 (pgBank0 y r b o (k : Int)) (bits .and .i64 (rwG y r b o (k : Int)) (b - 1)))) H (XorI hpw hb0.1 hb0.2 (by omega) (by omega) _) fun v12 H => x_b H [.m] <| z_store H 0 1 [.int .i64 (bits .xor .i64 (pgBank0 y r b o (k : Int)) (bits .and .i64 (rwG y r b o (k : Int)) (b - 1)))] (fun v13 H => ?_)
  refine x_nil <| x_then <| x_seq <| x_region <| x_b H [.m, .n 0 0 4 135] ?_
  have hbk : 0 ≤ (bits .xor .i64 (pgBank0 y r b o (k : Int)) (bits .and .i64 (rwG y r b o (k : Int)) (b - 1))) ∧ (bits .xor .i64 (pgBank0 y r b o (k : Int)) (bits .and .i64 (rwG y r b o (k : Int)) (b - 1))) ≤ 4096 := by have := xor_bd hpw hb0.1 hb0.2 (show 0 ≤ (rwG y r b o (k : Int)) by omega) (by omega); omega
  refine z_callB (v := .int .i64 (1048576 * (rkG y r b o (k : Int)) + 65536 * (bits .xor .i64 (pgBank0 y r b o (k : Int)) (bits .and .i64 (rwG y r b o (k : Int)) (b - 1))) + 64 * (rwG y r b o (k : Int)) + 0)) H (Idx7 (rkG y r b o (k : Int)) (bits .xor .i64 (pgBank0 y r b o (k : Int)) (bits .and .i64 (rwG y r b o (k : Int)) (b - 1))) (rwG y r b o (k : Int)) (by omega) hbk (by omega) _) fun v14 H => x_eq (.int .i64 ((1048576 * (rkG y r b o (k : Int)) + 65536 * (bits .xor .i64 (pgBank0 y r b o (k : Int)) (bits .and .i64 (rwG y r b o (k : Int)) (b - 1))) + 64 * (rwG y r b o (k : Int)) + 0) / 64)) (e_quo (1048576 * (rkG y r b o (k : Int)) + 65536 * (bits .xor .i64 (pgBank0 y r b o (k : Int)) (bits .and .i64 (rwG y r b o (k : Int)) (b - 1))) + 64 * (rwG y r b o (k : Int)) + 0) 64 (by omega) (by omega) (by omega)) (by kernel_rfl) rfl (by kernel_rfl) <| x_box' H #[.int .i64 ((1048576 * (rkG y r b o (k : Int)) + 65536 * (bits .xor .i64 (pgBank0 y r b o (k : Int)) (bits .and .i64 (rwG y r b o (k : Int)) (b - 1))) + 64 * (rwG y r b o (k : Int)) + 0) / 64)] 3 1 (by kernel_rfl) rfl (by kernel_rfl) ?_
  clear H
  intro v15 g6 H
  refine x_append H 2 (ov) 31 3 1 8 (List.length (layL y r b o k)) (.int .i64 0) (List.map (Value.int .i64) (layL y r b o k)) ⟨g6, 0, none⟩ 1 1 [.int .i64 ((1048576 * (rkG y r b o (k : Int)) + 65536 * (bits .xor .i64 (pgBank0 y r b o (k : Int)) (bits .and .i64 (rwG y r b o (k : Int)) (b - 1))) + 64 * (rwG y r b o (k : Int)) + 0) / 64)] rfl (by kernel_rfl) (by kernel_rfl) rfl (by decide) (by decide) rfl (fun j u hj => by rw [add_none]; exact cellOf (H.blk 0 rfl) (by simpa using hj)) (List.all_eq_true.1 (by kernel_rfl)) (by rw [layL_len]; unfold maxLen; omega) (by rw [layL_len]; omega) (by kernel_rfl) rfl (by kernel_rfl) ?_
  clear H
  intro v16 g7 c7 hc7 H
  rw [show (((List.length (layL y r b o k)) + 1) : Nat) = (List.length (layL y r b o (k + 1))) from (by rw [layL_len, layL_len])] at H ⊢
  rw [show (List.map (Value.int .i64) (layL y r b o k)) ++ [.int .i64 ((1048576 * (rkG y r b o (k : Int)) + 65536 * (bits .xor .i64 (pgBank0 y r b o (k : Int)) (bits .and .i64 (rwG y r b o (k : Int)) (b - 1))) + 64 * (rwG y r b o (k : Int)) + 0) / 64)] = (List.map (Value.int .i64) (layL y r b o (k + 1))) from (by rw [layL, List.map_append, show pgAt y r b o (k : Int) = (1048576 * (rkG y r b o (k : Int)) + 65536 * (bits .xor .i64 (pgBank0 y r b o (k : Int)) (bits .and .i64 (rwG y r b o (k : Int)) (b - 1))) + 64 * (rwG y r b o (k : Int)) + 0) / 64 from by unfold pgAt pgBank; rw [← hgg.1, ← hgg.2, if_pos h2p]; omega]; rfl)] at H
  replace H := H.pk [1, 2, 3, 4]
  refine x_b H [.m] <| x_nil <| x_then <| x_region <| x_b H [.n 3 0 5 30, .m, .n 2 0 4 135] <| z_callB (v := .agg #[.int .i64 (rkG y r b o ((k : Int) + 1)), .int .i64 (pgBank0 y r b o ((k : Int) + 1)), .int .i64 (rwG y r b o ((k : Int) + 1)), .int .i64 0]) H (Next_any y r s b o c (k : Int) (by omega) (by omega) ⟨rr1, r8⟩ ⟨b1, b2⟩ ⟨o1, o2⟩ _) fun v17 H => z_store H 2 0 [.int .i64 (rkG y r b o ((k : Int) + 1)), .int .i64 (pgBank0 y r b o ((k : Int) + 1)), .int .i64 (rwG y r b o ((k : Int) + 1)), .int .i64 0] (fun v18 H => ?_)
  refine x_nil <| x_blk <| x_then <| x_region <| x_b H [.m] <| z_ar ((k : Int) + 1) <| x_b H [.m] ?_
  refine x_nil <| x_then ?_
  replace H := H.pk [1, 2, 3]
  exact ⟨(k + 1, .slice (some ⟨g7, 0, none⟩) (List.length (layL y r b o (k + 1))) c7), (by dsimp only; omega), _, frm_of, H, (by omega)⟩
end Go.Proofs.YtpmnnijjohlloaaGreat
