/- The document's rights of a geometry, of a layout. -/
import Derived.Test.YtpmnnijjohlloaaRemapC
import Derived.Test.YtpmnnijjohlloaaPxD
import Derived.Test.YtpmnnijjohlloaaOpen
import Derived.Test.YtpmnnijjohlloaaBase
import Derived.Test.YtpmnnijjohlloaaPx
import Derived.Test.YtpmnnijjohlloaaPxZ
namespace Go.Proofs.Ytpmnnijjohlloaa
open Go Go.RowKit
set_option linter.unusedVariables false
set_option linter.unusedSimpArgs false
set_option maxRecDepth 100000 in
set_option maxHeartbeats 4000000 in
theorem Power7 (n m : Int) (hm : m ≤ 1024) (w0 : World) :
    Calls Try.prog 108 #[.int .i64 n, .int .i64 m] w0 fun e w' => e = .returned (.bool (pwB n m)) ∧ Below w0.heap.size w0 w' := by
  refine z_enter Try.func108 rfl ?_
  have H := Hs.nil w0
  refine x_seq <| x_region <| x_b H [.m] <| x_nil <| x_then <| x_seq <| x_seq ?_
  refine x_region <| x_b H [.m] <| x_nil <| x_then <| x_block <| x_loop (G := Nat × Int) (fun gh a w' => match gh with | (k, pv) => ∃ uf1 : Nat → Value, a = frm 14 uf1 [(0, .int .i64 n), (1, .int .i64 m), (5, .int .i64 pv)] [] ∧ Hs [] w0 w' [] ∧ (pv = (((2 ^ k) : Nat) : Int)) ∧ (∀ j, j < k → ¬ n = (((2 ^ j) : Nat) : Int)) ∧ (k ≤ 11)) (fun gh => match gh with | (k, pv) => 11 - k) (0, 1) ⟨_, frm_of, H, rfl, (fun j hj => absurd hj (Nat.not_lt_zero _)), (Nat.zero_le _)⟩ ?_
  clear H
  rintro ⟨k, pv⟩ _ v1 ⟨uf1, rfl, H, r1, r2, r3⟩
  have hp2 : 2 ^ k ≤ 2 ^ 11 := Nat.pow_le_pow_right (by decide) r3
  have hp1 : 0 < 2 ^ k := Nat.two_pow_pos k
  have hk10 : pv ≤ m → k ≤ 10 := fun h => by rcases Nat.lt_or_ge 10 k with z | z; have z1 : 2 ^ 11 ≤ 2 ^ k := Nat.pow_le_pow_right (by decide) z; omega; exact z
  refine x_seq <| x_seq <| x_region <| x_b H [.m, .m, .v (.bool (decide (pv ≤ m)))] <| x_nil <| x_then ?_
  cases h1 : decide (pv ≤ m)
  · skip
    have h1p := of_decide_eq_false h1
    refine x_f (by kernel_rfl) <| x_exit <| x_then_exit <| x_then_exit <| x_blk_exit <| x_then <| x_seq ?_
    refine x_region <| x_b H [.m] <| x_nil <| x_then <| x_retc <| x_ret (.bool false) (by kernel_rfl) (by kernel_rfl) ?_
    have e : pwB n m = false := by
      rw [Bool.eq_false_iff]; intro hb
      obtain ⟨j, hj, e1, e2⟩ := (pwB_iff n m hm).1 hb
      rcases Nat.lt_or_ge j k with z | z
      · exact r2 j z (by rw [e1]; push_cast; rfl)
      · have z1 : 2 ^ k ≤ 2 ^ j := Nat.pow_le_pow_right (by decide) z
        have z2 : pv ≤ n := by rw [r1, e1]; exact_mod_cast z1
        omega
    exact ⟨by rw [e], H.below⟩
  have h1p := of_decide_eq_true h1
  refine x_t (by kernel_rfl) <| x_skipc <| x_then <| x_seq <| x_block <| x_seq <| x_region ?_
  refine x_b H [.m, .m, .v (.bool (decide (n = pv)))] <| x_nil <| x_then ?_
  cases h2 : decide (n = pv)
  · skip
    have h2p := of_decide_eq_false h2
    refine x_f (by kernel_rfl) <| x_skipc <| x_blk <| x_then <| x_region <| x_b H [.m] <| z_ar (pv * 2) ?_
    refine x_b H [.m] <| x_nil <| x_then ?_
    exact ⟨(k + 1, (pv * 2)), (by have := hk10 (by omega); dsimp only; omega), _, frm_of, H, (by rw [r1, Nat.pow_succ]; push_cast; rfl), (fun j hj => by by_cases e : j = k; (subst e; rw [← r1]; exact (by omega)); exact r2 j (by omega)), (by have := hk10 (by omega); omega)⟩
  have h2p := of_decide_eq_true h2
  refine x_t (by kernel_rfl) <| x_seq <| x_region <| x_b H [.m] <| x_nil <| x_then <| x_retc ?_
  refine x_blk_ret <| x_then_ret <| x_then_ret <| x_blk_ret <| x_then_ret <| x_ret (.bool true) (by kernel_rfl) (by kernel_rfl) ?_
  have e : pwB n m = true := (pwB_iff n m hm).2 ⟨k, hk10 (by omega), by rw [show n = pv by omega, r1]; push_cast; rfl, by omega⟩
  exact ⟨by rw [e], H.below⟩
set_option maxRecDepth 100000 in
set_option maxHeartbeats 4000000 in
theorem G7Right (r s b o c : Int) (w0 : World) :
    Calls Try.prog 70 #[.agg #[.int .i64 r, .int .i64 s, .int .i64 b, .int .i64 o, .int .i64 c]] w0 fun e w' => e = .returned (.bool (geomOk r s b o c)) ∧ Below w0.heap.size w0 w' := by
  refine z_enter Try.func70 rfl ?_
  have H := Hs.nil w0
  refine x_seq <| x_region <| z_box H #[.int .i64 r, .int .i64 s, .int .i64 b, .int .i64 o, .int .i64 c] 38 (fun v1 g1 H => ?_)
  refine x_b H [.m] <| x_nil <| x_then <| x_seq <| x_seq <| x_region <| x_b H [.m, .l 0 0] ?_
  refine z_callB (v := .bool (pwB r 8)) H (Power7 r 8 (by decide) _) fun v2 H => x_b H [.v (.bool (!(pwB r 8))), .v (.bool (!(pwB r 8)))] ?_
  cases h1 : pwB r 8
  · skip
    refine x_b H [.k, .k, .k, .k, .m, .m, .k, .k, .k, .k, .m, .m, .k, .k, .k, .k, .m, .m, .k, .k, .k, .m, .m, .k, .k, .k, .k, .k, .k, .m] <| x_nil <| x_then <| x_t (by kernel_rfl) <| x_seq <| x_region <| x_b H [.m] ?_
    refine x_nil <| x_then <| x_retc <| x_then_ret <| x_ret (.bool false) (by kernel_rfl) (by kernel_rfl) ?_
    have e : geomOk r s b o c = false := by unfold geomOk; first | (simp [h1] <;> intros <;> omega) | (rw [Bool.eq_iff_iff]; simp [h1] <;> intros <;> omega)
    exact ⟨by rw [e], H.below⟩
  have hr1 := pw_bd h1
  refine x_b H [.m, .l 0 2] <| z_callB (v := .bool (pwB b 16)) H (Power7 b 16 (by decide) _) fun v3 H => x_b H [.v (.bool (!(pwB b 16))), .v (.bool (!(pwB b 16))), .v (.bool (!(pwB b 16)))] ?_
  cases h2 : pwB b 16
  · skip
    refine x_b H [.k, .k, .k, .k, .m, .m, .k, .k, .k, .k, .m, .m, .k, .k, .k, .m, .m, .k, .k, .k, .k, .k, .k, .m] <| x_nil <| x_then <| x_t (by kernel_rfl) <| x_seq <| x_region <| x_b H [.m] ?_
    refine x_nil <| x_then <| x_retc <| x_then_ret <| x_ret (.bool false) (by kernel_rfl) (by kernel_rfl) ?_
    have e : geomOk r s b o c = false := by unfold geomOk; first | (simp [h1, h2] <;> intros <;> omega) | (rw [Bool.eq_iff_iff]; simp [h1, h2] <;> intros <;> omega)
    exact ⟨by rw [e], H.below⟩
  refine x_b H [.m, .l 0 3] <| z_callB (v := .bool (pwB o 1024)) H (Power7 o 1024 (by decide) _) fun v4 H => x_b H [.v (.bool (!(pwB o 1024))), .v (.bool (!(pwB o 1024))), .v (.bool (!(pwB o 1024)))] ?_
  cases h3 : pwB o 1024
  · skip
    refine x_b H [.k, .k, .k, .k, .m, .m, .k, .k, .k, .m, .m, .k, .k, .k, .k, .k, .k, .m] <| x_nil <| x_then <| x_t (by kernel_rfl) <| x_seq <| x_region <| x_b H [.m] ?_
    refine x_nil <| x_then <| x_retc <| x_then_ret <| x_ret (.bool false) (by kernel_rfl) (by kernel_rfl) ?_
    have e : geomOk r s b o c = false := by unfold geomOk; first | (simp [h1, h2, h3] <;> intros <;> omega) | (rw [Bool.eq_iff_iff]; simp [h1, h2, h3] <;> intros <;> omega)
    exact ⟨by rw [e], H.below⟩
  refine x_b H [.m, .l 0 4] <| z_callB (v := .bool (pwB c 64)) H (Power7 c 64 (by decide) _) fun v5 H => x_b H [.v (.bool (!(pwB c 64))), .v (.bool (!(pwB c 64))), .v (.bool (!(pwB c 64)))] ?_
  cases h4 : pwB c 64
  · skip
    refine x_b H [.k, .k, .k, .m, .m, .k, .k, .k, .k, .k, .k, .m] <| x_nil <| x_then <| x_t (by kernel_rfl) <| x_seq <| x_region <| x_b H [.m] ?_
    refine x_nil <| x_then <| x_retc <| x_then_ret <| x_ret (.bool false) (by kernel_rfl) (by kernel_rfl) ?_
    have e : geomOk r s b o c = false := by unfold geomOk; first | (simp [h1, h2, h3, h4] <;> intros <;> omega) | (rw [Bool.eq_iff_iff]; simp [h1, h2, h3, h4] <;> intros <;> omega)
    exact ⟨by rw [e], H.below⟩
  refine x_b H [.m, .l 0 1, .v (.bool (decide (s < 0))), .v (.bool (decide (s < 0))), .v (.bool (decide (s < 0)))] ?_
  cases h5 : decide (s < 0)
  · skip
    have h5p := of_decide_eq_false h5
    refine x_b H [.m, .l 0 1, .m, .l 0 0] <| z_ar (8 - r) <| x_b H [.v (.bool (decide ((8 - r) < s))), .v (.bool (decide ((8 - r) < s)))] <| x_nil <| x_then ?_
    cases h6 : decide ((8 - r) < s)
    · skip
      have h6p := of_decide_eq_false h6
      refine x_f (by kernel_rfl) <| x_skipc <| x_then <| x_seq <| x_region ?_
      have hb1 := pw_bd h2
      have ho1 := pw_bd h3
      have hc1 := pw_bd h4
      have hm1 := mul_bd (x := r + s) (y := b) (p := 8) (q := 16) (by omega) (by omega) (by omega) hb1.2
      have hm2 := mul_bd (x := (r + s) * b) (y := o) (p := 128) (q := 1024) (by omega) (by omega) (by omega) ho1.2
      have hm3 := mul_bd (x := (r + s) * b * o) (y := c) (p := 131072) (q := 64) (by omega) (by omega) (by omega) hc1.2
      refine x_b H [.m, .l 0 0, .m, .l 0 1] <| z_ar (r + s) <| x_b H [.m, .l 0 2] <| z_ar ((r + s) * b) <| x_b H [.m, .l 0 3] <| z_ar (((r + s) * b) * o) <| x_b H [.m, .l 0 4] ?_
      refine z_ar ((((r + s) * b) * o) * c) <| x_b H [.v (.bool (decide (((((r + s) * b) * o) * c) ≤ 4096))), .v (.bool (decide (((((r + s) * b) * o) * c) ≤ 4096)))] <| x_nil <| z_fr 53 [(2, .bool (decide (((((r + s) * b) * o) * c) ≤ 4096)))] [] fun uf1 => x_then <| x_retc <| x_ret (.bool (decide (((((r + s) * b) * o) * c) ≤ 4096))) (by kernel_rfl) (by kernel_rfl) ?_
      have e : geomOk r s b o c = (decide (((((r + s) * b) * o) * c) ≤ 4096)) := by unfold geomOk; first | (simp [h1, h2, h3, h4, h5, h6] <;> intros <;> omega) | (rw [Bool.eq_iff_iff]; simp [h1, h2, h3, h4, h5, h6] <;> intros <;> omega)
      exact ⟨by rw [e], H.below⟩
    have h6p := of_decide_eq_true h6
    refine x_t (by kernel_rfl) <| x_seq <| x_region <| x_b H [.m] <| x_nil <| x_then <| x_retc ?_
    refine x_then_ret <| x_ret (.bool false) (by kernel_rfl) (by kernel_rfl) ?_
    have e : geomOk r s b o c = false := by unfold geomOk; first | (simp [h1, h2, h3, h4, h5, h6] <;> intros <;> omega) | (rw [Bool.eq_iff_iff]; simp [h1, h2, h3, h4, h5, h6] <;> intros <;> omega)
    exact ⟨by rw [e], H.below⟩
  have h5p := of_decide_eq_true h5
  refine x_b H [.k, .k, .k, .k, .k, .k, .m] <| x_nil <| x_then <| x_t (by kernel_rfl) <| x_seq <| x_region <| x_b H [.m] ?_
  refine x_nil <| x_then <| x_retc <| x_then_ret <| x_ret (.bool false) (by kernel_rfl) (by kernel_rfl) ?_
  have e : geomOk r s b o c = false := by unfold geomOk; first | (simp [h1, h2, h3, h4, h5] <;> intros <;> omega) | (rw [Bool.eq_iff_iff]; simp [h1, h2, h3, h4, h5] <;> intros <;> omega)
  exact ⟨by rw [e], H.below⟩
end Go.Proofs.Ytpmnnijjohlloaa
