/- Contracts: all indices; the document's index of a line. -/
import Derived.Test.YtpmnnijjohlloaaCplP
import Derived.Test.YtpmnnijjohlloaaRprD
import Derived.Test.YtpmnnijjohlloaaPxZ
namespace Go.Proofs.Ytpmnnijjohlloaa
open Go Go.RowKit
set_option linter.unusedVariables false
set_option linter.unusedSimpArgs false
set_option maxRecDepth 100000 in
set_option maxHeartbeats 4000000 in
theorem G7Index (k B R C : Int) (hk : 0 ≤ k ∧ k ≤ 16) (hB : 0 ≤ B ∧ B ≤ 16) (hR : 0 ≤ R ∧ R ≤ 1024) (hC : 0 ≤ C ∧ C ≤ 64) (w0 : World) :
    Calls Try.prog 110 #[.agg #[.int .i64 k, .int .i64 B, .int .i64 R, .int .i64 C]] w0 fun e w' => e = .returned (.int .i64 (1048576 * k + 65536 * B + 64 * R + C)) ∧ Below w0.heap.size w0 w' := by
  refine z_enter Try.func110 rfl ?_
  have H := Hs.nil w0
  refine x_seq <| x_region <| z_box H #[.int .i64 k, .int .i64 B, .int .i64 R, .int .i64 C] 151 (fun v1 g1 H => ?_)
  refine x_b H [.m] <| x_nil <| x_then <| x_seq <| x_region <| x_b H [.m, .l 0 0] <| z_ar (1048576 * k) ?_
  refine x_b H [.m, .l 0 1] <| z_ar (65536 * B) <| z_ar ((1048576 * k) + (65536 * B)) <| x_b H [.m, .l 0 2] <| z_ar (64 * R) <| z_ar (((1048576 * k) + (65536 * B)) + (64 * R)) <| x_b H [.m, .l 0 3] ?_
  refine z_ar ((((1048576 * k) + (65536 * B)) + (64 * R)) + C) <| x_b H [.m] <| x_nil <| x_then <| x_retc <| x_ret (.int .i64 ((((1048576 * k) + (65536 * B)) + (64 * R)) + C)) (by kernel_rfl) (by kernel_rfl) ?_
  exact ⟨by congr 2, H.below⟩
set_option maxRecDepth 100000 in
set_option maxHeartbeats 4000000 in
theorem G7All {r s : Int} {bn on cn tn : Nat} (hg : geomOk r s ((bn : Nat) : Int) ((on : Nat) : Int) ((cn : Nat) : Int) = true) (ht : (tn : Int) = r + s) (w0 : World) :
    Calls Try.prog 101 #[.agg #[.int .i64 r, .int .i64 s, .int .i64 ((bn : Nat) : Int), .int .i64 ((on : Nat) : Int), .int .i64 ((cn : Nat) : Int)]] w0 fun e w' => ∃ u, e = .returned u ∧ Hs [] w0 w' [.row (u) 3 1 (List.length (allL ((on : Nat) : Int) ((cn : Nat) : Int) (((bn : Nat) : Int) * ((on : Nat) : Int) * ((cn : Nat) : Int)) (tn * (bn * on * cn)))) (List.map (Value.int .i64) (allL ((on : Nat) : Int) ((cn : Nat) : Int) (((bn : Nat) : Int) * ((on : Nat) : Int) * ((cn : Nat) : Int)) (tn * (bn * on * cn))))] := by
  refine z_enter Try.func101 rfl ?_
  have H := Hs.nil w0
  obtain ⟨⟨d1, d2⟩, ⟨d3, d4⟩, ⟨d5, d6⟩, ⟨d7, d8⟩, ⟨d9, d10⟩, _⟩ := geom_bd hg
  have htot : tn * (bn * on * cn) ≤ 4096 := by have h := (pr_bd hg).2.2.2.2.1; rw [← ht] at h; exact_mod_cast h
  have hpn : (bn * on * cn) = bn * (on * cn) := Nat.mul_assoc _ _ _
  refine x_seq <| x_region <| z_box H #[.int .i64 r, .int .i64 s, .int .i64 (bn : Int), .int .i64 (on : Int), .int .i64 (cn : Int)] 38 (fun v1 g1 H => ?_)
  refine x_b H [.m] <| x_nil <| x_then <| x_seq <| x_region <| x_b H [.m] <| x_nil ?_
  refine x_then <| x_seq <| x_seq <| x_region <| x_b H [.n 0 0 5 38] <| z_callB (v := .bool (geomOk r s (bn : Int) (on : Int) (cn : Int))) H (G7Right _ _ _ _ _ _) fun v2 H => x_b H [.v (.bool (!(geomOk r s (bn : Int) (on : Int) (cn : Int))))] ?_
  refine x_nil <| x_then ?_
  rw [hg]
  refine x_f (by kernel_rfl) <| x_skipc <| x_then <| x_seq <| x_seq <| x_region <| x_b H [.m] ?_
  refine x_nil <| x_then <| x_block ?_
  replace H := H.nilRow 3 1
  replace H := hsCast (H.pk [0, 1]) (L2 := [.row (.slice none 0 0) 3 1 (List.length (allL (on : Int) (cn : Int) ((bn : Int) * (on : Int) * (cn : Int)) 0)) (List.map (Value.int .i64) (allL (on : Int) (cn : Int) ((bn : Int) * (on : Int) * (cn : Int)) 0)), .blk g1 #[.int .i64 r, .int .i64 s, .int .i64 (bn : Int), .int .i64 (on : Int), .int .i64 (cn : Int)] 38]) (by kernel_rfl)
  replace H := hsCast H (L2 := [.row (.slice none 0 0) 3 1 (List.length (allL (on : Int) (cn : Int) ((bn : Int) * (on : Int) * (cn : Int)) (0 * (bn * on * cn)))) (List.map (Value.int .i64) (allL (on : Int) (cn : Int) ((bn : Int) * (on : Int) * (cn : Int)) (0 * (bn * on * cn)))), .blk g1 #[.int .i64 r, .int .i64 s, .int .i64 (bn : Int), .int .i64 (on : Int), .int .i64 (cn : Int)] 38]) (by rw [show 0 * (bn * on * cn) = 0 by omega])
  refine x_loop (G := Nat × Value) (fun gh a w' => match gh with | (K, o0) => ∃ uf1 : Nat → Value, a = frm 49 uf1 [(1, .pointer (some ⟨g1, 0, none⟩)), (3, o0), (4, .int .i64 (K : Int))] [] ∧ Hs [] w0 w' [.row (o0) 3 1 (List.length (allL (on : Int) (cn : Int) ((bn : Int) * (on : Int) * (cn : Int)) (K * (bn * on * cn)))) (List.map (Value.int .i64) (allL (on : Int) (cn : Int) ((bn : Int) * (on : Int) * (cn : Int)) (K * (bn * on * cn)))), .blk g1 #[.int .i64 r, .int .i64 s, .int .i64 (bn : Int), .int .i64 (on : Int), .int .i64 (cn : Int)] 38] ∧ (K ≤ tn)) (fun gh => match gh with | (K, o0) => tn - K) (0, .slice none 0 0) ⟨_, frm_of, H, (Nat.zero_le _)⟩ ?_
  clear H
  rintro ⟨K, o0⟩ _ v3 ⟨uf1, rfl, H, r1⟩
  refine x_seq <| x_seq <| x_region <| x_b H [.m, .m, .l 1 0, .m, .l 1 1] <| z_ar (r + s) <| x_b H [.v (.bool (decide ((K : Int) < (r + s))))] <| x_nil ?_
  refine x_then ?_
  cases h1 : decide ((K : Int) < (r + s))
  · skip
    have h1p := of_decide_eq_false h1
    refine x_f (by kernel_rfl) <| x_exit <| x_then_exit <| x_then_exit <| x_blk_exit <| x_then <| x_seq ?_
    refine x_region <| x_b H [.m, .m] <| x_nil <| x_then <| x_retc <| x_ret (o0) (by kernel_rfl) (by kernel_rfl) ?_
    have hK : K = tn := by omega
    rw [hK] at H
    exact ⟨_, rfl, H.pk [0]⟩
  have h1p := of_decide_eq_true h1
  refine x_t (by kernel_rfl) <| x_skipc <| x_then <| x_seq <| x_block <| x_seq <| x_region ?_
  refine x_b H [.m] <| x_nil <| x_then <| x_block ?_
  replace H := hsCast (H.pk [0, 1]) (L2 := [.row (o0) 3 1 (List.length (allL (on : Int) (cn : Int) ((bn : Int) * (on : Int) * (cn : Int)) (K * (bn * on * cn)))) (List.map (Value.int .i64) (allL (on : Int) (cn : Int) ((bn : Int) * (on : Int) * (cn : Int)) (K * (bn * on * cn)))), .blk g1 #[.int .i64 r, .int .i64 s, .int .i64 (bn : Int), .int .i64 (on : Int), .int .i64 (cn : Int)] 38]) (by kernel_rfl)
  replace H := hsCast H (L2 := [.row (o0) 3 1 (List.length (allL (on : Int) (cn : Int) ((bn : Int) * (on : Int) * (cn : Int)) (K * (bn * on * cn) + 0 * (on * cn)))) (List.map (Value.int .i64) (allL (on : Int) (cn : Int) ((bn : Int) * (on : Int) * (cn : Int)) (K * (bn * on * cn) + 0 * (on * cn)))), .blk g1 #[.int .i64 r, .int .i64 s, .int .i64 (bn : Int), .int .i64 (on : Int), .int .i64 (cn : Int)] 38]) (by rw [show K * (bn * on * cn) + 0 * (on * cn) = (K * (bn * on * cn)) by omega])
  have hbK := Nat.mul_le_mul_right (bn * on * cn) (show K + 1 ≤ tn by omega)
  rw [Nat.succ_mul] at hbK
  refine x_loop (G := Nat × Value) (fun gh a w' => match gh with | (B, o1) => ∃ uf2 : Nat → Value, a = frm 49 uf2 [(1, .pointer (some ⟨g1, 0, none⟩)), (3, o1), (4, .int .i64 (K : Int)), (5, .int .i64 (B : Int))] [] ∧ Hs [] w0 w' [.row (o1) 3 1 (List.length (allL (on : Int) (cn : Int) ((bn : Int) * (on : Int) * (cn : Int)) (K * (bn * on * cn) + B * (on * cn)))) (List.map (Value.int .i64) (allL (on : Int) (cn : Int) ((bn : Int) * (on : Int) * (cn : Int)) (K * (bn * on * cn) + B * (on * cn)))), .blk g1 #[.int .i64 r, .int .i64 s, .int .i64 (bn : Int), .int .i64 (on : Int), .int .i64 (cn : Int)] 38] ∧ (B ≤ bn)) (fun gh => match gh with | (B, o1) => bn - B) (0, o0) ⟨_, frm_of, H, (Nat.zero_le _)⟩ ?_
  clear H
  rintro ⟨B, o1⟩ _ v4 ⟨uf2, rfl, H, r1⟩
  refine x_seq <| x_seq <| x_region <| x_b H [.m, .m, .l 1 2, .v (.bool (decide ((B : Int) < (bn : Int))))] <| x_nil <| x_then ?_
  cases h2 : decide ((B : Int) < (bn : Int))
  · skip
    have h2p := of_decide_eq_false h2
    refine x_f (by kernel_rfl) <| x_exit <| x_then_exit <| x_then_exit <| x_blk_exit <| x_blk <| x_then ?_
    refine x_region <| x_b H [.m] <| z_ar ((K : Int) + 1) <| x_b H [.m] <| x_nil <| x_then ?_
    replace H := hsCast (H.pk [0, 1]) (L2 := [.row (o1) 3 1 (List.length (allL (on : Int) (cn : Int) ((bn : Int) * (on : Int) * (cn : Int)) (K * (bn * on * cn) + B * (on * cn)))) (List.map (Value.int .i64) (allL (on : Int) (cn : Int) ((bn : Int) * (on : Int) * (cn : Int)) (K * (bn * on * cn) + B * (on * cn)))), .blk g1 #[.int .i64 r, .int .i64 s, .int .i64 (bn : Int), .int .i64 (on : Int), .int .i64 (cn : Int)] 38]) (by kernel_rfl)
    have hin : B = bn := by omega
    have eN : (K + 1) * (bn * on * cn) = (K * (bn * on * cn) + B * (on * cn)) := by rw [hin, Nat.succ_mul]; omega
    replace H := hsCast H (L2 := [.row (o1) 3 1 (List.length (allL (on : Int) (cn : Int) ((bn : Int) * (on : Int) * (cn : Int)) ((K + 1) * (bn * on * cn)))) (List.map (Value.int .i64) (allL (on : Int) (cn : Int) ((bn : Int) * (on : Int) * (cn : Int)) ((K + 1) * (bn * on * cn)))), .blk g1 #[.int .i64 r, .int .i64 s, .int .i64 (bn : Int), .int .i64 (on : Int), .int .i64 (cn : Int)] 38]) (by rw [eN])
    exact ⟨(K + 1, o1), (by dsimp only; omega), _, frm_of, H, (by omega)⟩
  have h2p := of_decide_eq_true h2
  refine x_t (by kernel_rfl) <| x_skipc <| x_then <| x_seq <| x_block <| x_seq <| x_region ?_
  refine x_b H [.m] <| x_nil <| x_then <| x_block ?_
  replace H := hsCast (H.pk [0, 1]) (L2 := [.row (o1) 3 1 (List.length (allL (on : Int) (cn : Int) ((bn : Int) * (on : Int) * (cn : Int)) (K * (bn * on * cn) + B * (on * cn)))) (List.map (Value.int .i64) (allL (on : Int) (cn : Int) ((bn : Int) * (on : Int) * (cn : Int)) (K * (bn * on * cn) + B * (on * cn)))), .blk g1 #[.int .i64 r, .int .i64 s, .int .i64 (bn : Int), .int .i64 (on : Int), .int .i64 (cn : Int)] 38]) (by kernel_rfl)
  replace H := hsCast H (L2 := [.row (o1) 3 1 (List.length (allL (on : Int) (cn : Int) ((bn : Int) * (on : Int) * (cn : Int)) (K * (bn * on * cn) + B * (on * cn) + 0 * cn))) (List.map (Value.int .i64) (allL (on : Int) (cn : Int) ((bn : Int) * (on : Int) * (cn : Int)) (K * (bn * on * cn) + B * (on * cn) + 0 * cn))), .blk g1 #[.int .i64 r, .int .i64 s, .int .i64 (bn : Int), .int .i64 (on : Int), .int .i64 (cn : Int)] 38]) (by rw [show K * (bn * on * cn) + B * (on * cn) + 0 * cn = (K * (bn * on * cn) + B * (on * cn)) by omega])
  have hbB := Nat.mul_le_mul_right (on * cn) (show B + 1 ≤ bn by omega)
  rw [Nat.succ_mul] at hbB
  refine x_loop (G := Nat × Value) (fun gh a w' => match gh with | (R, o2) => ∃ uf3 : Nat → Value, a = frm 49 uf3 [(1, .pointer (some ⟨g1, 0, none⟩)), (3, o2), (4, .int .i64 (K : Int)), (5, .int .i64 (B : Int)), (6, .int .i64 (R : Int))] [] ∧ Hs [] w0 w' [.row (o2) 3 1 (List.length (allL (on : Int) (cn : Int) ((bn : Int) * (on : Int) * (cn : Int)) (K * (bn * on * cn) + B * (on * cn) + R * cn))) (List.map (Value.int .i64) (allL (on : Int) (cn : Int) ((bn : Int) * (on : Int) * (cn : Int)) (K * (bn * on * cn) + B * (on * cn) + R * cn))), .blk g1 #[.int .i64 r, .int .i64 s, .int .i64 (bn : Int), .int .i64 (on : Int), .int .i64 (cn : Int)] 38] ∧ (R ≤ on)) (fun gh => match gh with | (R, o2) => on - R) (0, o1) ⟨_, frm_of, H, (Nat.zero_le _)⟩ ?_
  clear H
  rintro ⟨R, o2⟩ _ v5 ⟨uf3, rfl, H, r1⟩
  refine x_seq <| x_seq <| x_region <| x_b H [.m, .m, .l 1 3, .v (.bool (decide ((R : Int) < (on : Int))))] <| x_nil <| x_then ?_
  cases h3 : decide ((R : Int) < (on : Int))
  · skip
    have h3p := of_decide_eq_false h3
    refine x_f (by kernel_rfl) <| x_exit <| x_then_exit <| x_then_exit <| x_blk_exit <| x_blk <| x_then ?_
    refine x_region <| x_b H [.m] <| z_ar ((B : Int) + 1) <| x_b H [.m] <| x_nil <| x_then ?_
    replace H := hsCast (H.pk [0, 1]) (L2 := [.row (o2) 3 1 (List.length (allL (on : Int) (cn : Int) ((bn : Int) * (on : Int) * (cn : Int)) (K * (bn * on * cn) + B * (on * cn) + R * cn))) (List.map (Value.int .i64) (allL (on : Int) (cn : Int) ((bn : Int) * (on : Int) * (cn : Int)) (K * (bn * on * cn) + B * (on * cn) + R * cn))), .blk g1 #[.int .i64 r, .int .i64 s, .int .i64 (bn : Int), .int .i64 (on : Int), .int .i64 (cn : Int)] 38]) (by kernel_rfl)
    have hin : R = on := by omega
    have eN : K * (bn * on * cn) + (B + 1) * (on * cn) = (K * (bn * on * cn) + B * (on * cn) + R * cn) := by rw [hin, Nat.succ_mul]; omega
    replace H := hsCast H (L2 := [.row (o2) 3 1 (List.length (allL (on : Int) (cn : Int) ((bn : Int) * (on : Int) * (cn : Int)) (K * (bn * on * cn) + (B + 1) * (on * cn)))) (List.map (Value.int .i64) (allL (on : Int) (cn : Int) ((bn : Int) * (on : Int) * (cn : Int)) (K * (bn * on * cn) + (B + 1) * (on * cn)))), .blk g1 #[.int .i64 r, .int .i64 s, .int .i64 (bn : Int), .int .i64 (on : Int), .int .i64 (cn : Int)] 38]) (by rw [eN])
    exact ⟨(B + 1, o2), (by dsimp only; omega), _, frm_of, H, (by omega)⟩
  have h3p := of_decide_eq_true h3
  refine x_t (by kernel_rfl) <| x_skipc <| x_then <| x_seq <| x_block <| x_seq <| x_region ?_
  refine x_b H [.m] <| x_nil <| x_then <| x_block ?_
  replace H := hsCast (H.pk [0, 1]) (L2 := [.row (o2) 3 1 (List.length (allL (on : Int) (cn : Int) ((bn : Int) * (on : Int) * (cn : Int)) (K * (bn * on * cn) + B * (on * cn) + R * cn))) (List.map (Value.int .i64) (allL (on : Int) (cn : Int) ((bn : Int) * (on : Int) * (cn : Int)) (K * (bn * on * cn) + B * (on * cn) + R * cn))), .blk g1 #[.int .i64 r, .int .i64 s, .int .i64 (bn : Int), .int .i64 (on : Int), .int .i64 (cn : Int)] 38]) (by kernel_rfl)
  replace H := hsCast H (L2 := [.row (o2) 3 1 (List.length (allL (on : Int) (cn : Int) ((bn : Int) * (on : Int) * (cn : Int)) (K * (bn * on * cn) + B * (on * cn) + R * cn + 0))) (List.map (Value.int .i64) (allL (on : Int) (cn : Int) ((bn : Int) * (on : Int) * (cn : Int)) (K * (bn * on * cn) + B * (on * cn) + R * cn + 0))), .blk g1 #[.int .i64 r, .int .i64 s, .int .i64 (bn : Int), .int .i64 (on : Int), .int .i64 (cn : Int)] 38]) (by rw [show K * (bn * on * cn) + B * (on * cn) + R * cn + 0 = (K * (bn * on * cn) + B * (on * cn) + R * cn) by omega])
  have hbR := Nat.mul_le_mul_right cn (show R + 1 ≤ on by omega)
  rw [Nat.succ_mul] at hbR
  refine x_loop (G := Nat × Value) (fun gh a w' => match gh with | (C, o3) => ∃ uf4 : Nat → Value, a = frm 49 uf4 [(1, .pointer (some ⟨g1, 0, none⟩)), (3, o3), (4, .int .i64 (K : Int)), (5, .int .i64 (B : Int)), (6, .int .i64 (R : Int)), (7, .int .i64 (C : Int))] [] ∧ Hs [] w0 w' [.row (o3) 3 1 (List.length (allL (on : Int) (cn : Int) ((bn : Int) * (on : Int) * (cn : Int)) (K * (bn * on * cn) + B * (on * cn) + R * cn + C))) (List.map (Value.int .i64) (allL (on : Int) (cn : Int) ((bn : Int) * (on : Int) * (cn : Int)) (K * (bn * on * cn) + B * (on * cn) + R * cn + C))), .blk g1 #[.int .i64 r, .int .i64 s, .int .i64 (bn : Int), .int .i64 (on : Int), .int .i64 (cn : Int)] 38] ∧ (C ≤ cn)) (fun gh => match gh with | (C, o3) => cn - C) (0, o2) ⟨_, frm_of, H, (Nat.zero_le _)⟩ ?_
  clear H
  rintro ⟨C, o3⟩ _ v6 ⟨uf4, rfl, H, r1⟩
  refine x_seq <| x_seq <| x_region <| x_b H [.m, .m, .l 1 4, .v (.bool (decide ((C : Int) < (cn : Int))))] <| x_nil <| x_then ?_
  cases h4 : decide ((C : Int) < (cn : Int))
  · skip
    have h4p := of_decide_eq_false h4
    refine x_f (by kernel_rfl) <| x_exit <| x_then_exit <| x_then_exit <| x_blk_exit <| x_blk <| x_then ?_
    refine x_region <| x_b H [.m] <| z_ar ((R : Int) + 1) <| x_b H [.m] <| x_nil <| x_then ?_
    replace H := hsCast (H.pk [0, 1]) (L2 := [.row (o3) 3 1 (List.length (allL (on : Int) (cn : Int) ((bn : Int) * (on : Int) * (cn : Int)) (K * (bn * on * cn) + B * (on * cn) + R * cn + C))) (List.map (Value.int .i64) (allL (on : Int) (cn : Int) ((bn : Int) * (on : Int) * (cn : Int)) (K * (bn * on * cn) + B * (on * cn) + R * cn + C))), .blk g1 #[.int .i64 r, .int .i64 s, .int .i64 (bn : Int), .int .i64 (on : Int), .int .i64 (cn : Int)] 38]) (by kernel_rfl)
    have hin : C = cn := by omega
    have eN : K * (bn * on * cn) + B * (on * cn) + (R + 1) * cn = (K * (bn * on * cn) + B * (on * cn) + R * cn + C) := by rw [hin, Nat.succ_mul]; omega
    replace H := hsCast H (L2 := [.row (o3) 3 1 (List.length (allL (on : Int) (cn : Int) ((bn : Int) * (on : Int) * (cn : Int)) (K * (bn * on * cn) + B * (on * cn) + (R + 1) * cn))) (List.map (Value.int .i64) (allL (on : Int) (cn : Int) ((bn : Int) * (on : Int) * (cn : Int)) (K * (bn * on * cn) + B * (on * cn) + (R + 1) * cn))), .blk g1 #[.int .i64 r, .int .i64 s, .int .i64 (bn : Int), .int .i64 (on : Int), .int .i64 (cn : Int)] 38]) (by rw [eN])
    exact ⟨(R + 1, o3), (by dsimp only; omega), _, frm_of, H, (by omega)⟩
  have h4p := of_decide_eq_true h4
  refine x_t (by kernel_rfl) <| x_skipc <| x_then <| x_seq <| x_block <| x_region <| x_b H [.m, .m, .m, .m, .m, .m] ?_
  have hm : ((B : Int) * (on : Int) + (R : Int)) * (cn : Int) = (B : Int) * ((on : Int) * (cn : Int)) + (R : Int) * (cn : Int) := by rw [Int.add_mul, Int.mul_assoc]
  have haI := aI_at hg (k := (K : Int)) (B := (B : Int)) (R := (R : Int)) (C := (C : Int)) (N := K * (bn * on * cn) + B * (on * cn) + R * cn + C) (by omega) ⟨by omega, by omega⟩ ⟨by omega, by omega⟩ ⟨by omega, by omega⟩ (by push_cast; rw [hm]; omega)
  refine z_callB (v := .int .i64 (aI (on : Int) (cn : Int) ((bn : Int) * (on : Int) * (cn : Int)) (K * (bn * on * cn) + B * (on * cn) + R * cn + C))) H (by rw [haI]; exact G7Index (K : Int) (B : Int) (R : Int) (C : Int) (by omega) (by omega) (by omega) (by omega) _) fun v7 H => x_box' H #[.int .i64 (aI (on : Int) (cn : Int) ((bn : Int) * (on : Int) * (cn : Int)) (K * (bn * on * cn) + B * (on * cn) + R * cn + C))] 3 1 (by kernel_rfl) rfl (by kernel_rfl) ?_
  clear H
  intro v8 g2 H
  refine x_append H 1 (o3) 40 3 1 8 (List.length (allL (on : Int) (cn : Int) ((bn : Int) * (on : Int) * (cn : Int)) (K * (bn * on * cn) + B * (on * cn) + R * cn + C))) (.int .i64 0) (List.map (Value.int .i64) (allL (on : Int) (cn : Int) ((bn : Int) * (on : Int) * (cn : Int)) (K * (bn * on * cn) + B * (on * cn) + R * cn + C))) ⟨g2, 0, none⟩ 1 1 [.int .i64 (aI (on : Int) (cn : Int) ((bn : Int) * (on : Int) * (cn : Int)) (K * (bn * on * cn) + B * (on * cn) + R * cn + C))] rfl (by kernel_rfl) (by kernel_rfl) rfl (by decide) (by decide) rfl (fun j u hj => by rw [add_none]; exact cellOf (H.blk 0 rfl) (by simpa using hj)) (List.all_eq_true.1 (by kernel_rfl)) (by rw [allL_len]; unfold maxLen; omega) (by rw [allL_len]; omega) (by kernel_rfl) rfl (by kernel_rfl) ?_
  clear H
  intro v9 g3 c3 hc3 H
  rw [show (((List.length (allL (on : Int) (cn : Int) ((bn : Int) * (on : Int) * (cn : Int)) (K * (bn * on * cn) + B * (on * cn) + R * cn + C))) + 1) : Nat) = (List.length (allL (on : Int) (cn : Int) ((bn : Int) * (on : Int) * (cn : Int)) (K * (bn * on * cn) + B * (on * cn) + R * cn + C + 1))) from (by rw [allL_succ, List.length_append]; rfl)] at H ⊢
  rw [show (List.map (Value.int .i64) (allL (on : Int) (cn : Int) ((bn : Int) * (on : Int) * (cn : Int)) (K * (bn * on * cn) + B * (on * cn) + R * cn + C))) ++ [.int .i64 (aI (on : Int) (cn : Int) ((bn : Int) * (on : Int) * (cn : Int)) (K * (bn * on * cn) + B * (on * cn) + R * cn + C))] = (List.map (Value.int .i64) (allL (on : Int) (cn : Int) ((bn : Int) * (on : Int) * (cn : Int)) (K * (bn * on * cn) + B * (on * cn) + R * cn + C + 1))) from (by rw [allL_succ, List.map_append]; rfl)] at H
  replace H := H.pk [1, 2]
  refine x_b H [.m] <| x_nil <| x_blk <| x_then <| x_region <| x_b H [.m] <| z_ar ((C : Int) + 1) ?_
  refine x_b H [.m] <| x_nil <| x_then ?_
  replace H := hsCast (H.pk [0, 1]) (L2 := [.row (.slice (some ⟨g3, 0, none⟩) (List.length (allL (on : Int) (cn : Int) ((bn : Int) * (on : Int) * (cn : Int)) (K * (bn * on * cn) + B * (on * cn) + R * cn + C + 1))) c3) 3 1 (List.length (allL (on : Int) (cn : Int) ((bn : Int) * (on : Int) * (cn : Int)) (K * (bn * on * cn) + B * (on * cn) + R * cn + C + 1))) (List.map (Value.int .i64) (allL (on : Int) (cn : Int) ((bn : Int) * (on : Int) * (cn : Int)) (K * (bn * on * cn) + B * (on * cn) + R * cn + C + 1))), .blk g1 #[.int .i64 r, .int .i64 s, .int .i64 (bn : Int), .int .i64 (on : Int), .int .i64 (cn : Int)] 38]) (by kernel_rfl)
  have eN : K * (bn * on * cn) + B * (on * cn) + R * cn + (C + 1) = (K * (bn * on * cn) + B * (on * cn) + R * cn + C + 1) := by omega
  replace H := hsCast H (L2 := [.row (.slice (some ⟨g3, 0, none⟩) (List.length (allL (on : Int) (cn : Int) ((bn : Int) * (on : Int) * (cn : Int)) (K * (bn * on * cn) + B * (on * cn) + R * cn + C + 1))) c3) 3 1 (List.length (allL (on : Int) (cn : Int) ((bn : Int) * (on : Int) * (cn : Int)) (K * (bn * on * cn) + B * (on * cn) + R * cn + (C + 1)))) (List.map (Value.int .i64) (allL (on : Int) (cn : Int) ((bn : Int) * (on : Int) * (cn : Int)) (K * (bn * on * cn) + B * (on * cn) + R * cn + (C + 1)))), .blk g1 #[.int .i64 r, .int .i64 s, .int .i64 (bn : Int), .int .i64 (on : Int), .int .i64 (cn : Int)] 38]) (by rw [eN])
  exact ⟨(C + 1, .slice (some ⟨g3, 0, none⟩) (List.length (allL (on : Int) (cn : Int) ((bn : Int) * (on : Int) * (cn : Int)) (K * (bn * on * cn) + B * (on * cn) + R * cn + C + 1))) c3), (by dsimp only; omega), _, frm_of, H, (by omega)⟩
set_option maxRecDepth 100000 in
set_option maxHeartbeats 4000000 in
theorem ix20_page (r s b o c w i : Int) (hw : 0 ≤ w ∧ w ≤ 2000000) (hi : 0 ≤ i ∧ i ≤ 100) (w0 : World) :
    Calls Try.prog 52 #[.agg #[.int .i64 r, .int .i64 s, .int .i64 b, .int .i64 o, .int .i64 c], .int .i64 1, .int .i64 w, .int .i64 i] w0 fun e w' => e = .returned (.int .i64 (w * 64 + i)) ∧ Below w0.heap.size w0 w' := by
  refine z_enter Try.func52 rfl ?_
  have H := Hs.nil w0
  refine x_seq <| x_region <| z_box H #[.int .i64 r, .int .i64 s, .int .i64 b, .int .i64 o, .int .i64 c] 38 (fun v1 g1 H => ?_)
  refine x_b H [.m] <| x_nil <| x_then <| x_seq <| x_seq <| x_region <| x_b H [.m, .m] ?_
  refine x_nil <| x_then <| x_t (by kernel_rfl) <| x_seq <| x_region <| x_b H [.m] <| z_ar (64 * w) ?_
  refine x_b H [.m] <| z_ar ((64 * w) + i) <| x_b H [.m] <| x_nil <| x_then <| x_retc <| x_then_ret ?_
  refine x_ret (.int .i64 ((64 * w) + i)) (by kernel_rfl) (by kernel_rfl) ?_
  have e : (64 * w) + i = w * 64 + i := by omega
  exact ⟨by rw [e], H.below⟩
set_option maxRecDepth 100000 in
set_option maxHeartbeats 4000000 in
theorem ix20_rank {r s : Int} {bn on cn tn : Nat} (hg : geomOk r s ((bn : Nat) : Int) ((on : Nat) : Int) ((cn : Nat) : Int) = true) (ht : (tn : Int) = r + s) (w i : Int) (hw : 0 ≤ w ∧ w < r + s) (hi : 0 ≤ i ∧ i < (((bn : Nat) : Int) * ((on : Nat) : Int) * ((cn : Nat) : Int))) (w0 : World) :
    Calls Try.prog 52 #[.agg #[.int .i64 r, .int .i64 s, .int .i64 ((bn : Nat) : Int), .int .i64 ((on : Nat) : Int), .int .i64 ((cn : Nat) : Int)], .int .i64 2, .int .i64 w, .int .i64 i] w0 fun e w' => e = .returned (.int .i64 (nthI ((on : Nat) : Int) ((cn : Nat) : Int) w i)) ∧ Below w0.heap.size w0 w' := by
  refine z_enter Try.func52 rfl ?_
  have H := Hs.nil w0
  obtain ⟨⟨d1, d2⟩, ⟨d3, d4⟩, ⟨d5, d6⟩, ⟨d7, d8⟩, ⟨d9, d10⟩, _⟩ := geom_bd hg
  have htot : tn * (bn * on * cn) ≤ 4096 := by have h := (pr_bd hg).2.2.2.2.1; rw [← ht] at h; exact_mod_cast h
  have hpn : (bn * on * cn) = bn * (on * cn) := Nat.mul_assoc _ _ _
  obtain ⟨p1, p2, p3, p4, p5, p6⟩ := pr_bd hg
  obtain ⟨W0, hW⟩ := Int.eq_ofNat_of_zero_le (Int.mul_nonneg hw.1 (show 0 ≤ ((bn : Int) * (on : Int) * (cn : Int)) by omega))
  have hWt : (W0 : Int) + ((bn : Int) * (on : Int) * (cn : Int)) ≤ ((tn * (bn * on * cn) : Nat) : Int) := by rw [← hW]; push_cast; rw [ht]; have h := Int.mul_le_mul_of_nonneg_right (show w + 1 ≤ r + s by omega) (show 0 ≤ ((bn : Int) * (on : Int) * (cn : Int)) by omega); rw [Int.add_mul, Int.one_mul] at h; exact h
  have hpc : (((bn * on * cn) : Nat) : Int) = ((bn : Int) * (on : Int) * (cn : Int)) := by push_cast; rfl
  have hal := allL_len (on : Int) (cn : Int) ((bn : Int) * (on : Int) * (cn : Int)) (tn * (bn * on * cn))
  refine x_seq <| x_region <| z_box H #[.int .i64 r, .int .i64 s, .int .i64 (bn : Int), .int .i64 (on : Int), .int .i64 (cn : Int)] 38 (fun v1 g1 H => ?_)
  refine x_b H [.m] <| x_nil <| x_then <| x_seq <| x_seq <| x_region <| x_b H [.m, .m] ?_
  refine x_nil <| x_then <| x_f (by kernel_rfl) <| x_skipc <| x_then <| x_seq <| x_region ?_
  refine x_b H [.n 0 0 5 38] <| z_call (G7All hg ht _) ?_
  rintro _ v2 ⟨u, rfl, hN'⟩
  refine ⟨_, rfl, ?_⟩
  replace H := H.more hN'
  clear hN'
  refine x_b H [.m] <| x_nil <| x_then <| x_seq <| x_seq <| x_region <| x_b H [.m] ?_
  refine x_nil <| x_then <| x_block ?_
  rcases H.rowForm 0 rfl with ⟨rfl, hf0⟩ | ⟨gf1, cf1, rfl, hcf1, -⟩
  · exfalso; (rw [allL_len] at hf0; omega)
  refine x_loop (G := Nat × Int) (fun gh a w' => match gh with | (k, ic) => ∃ uf1 : Nat → Value, a = frm 40 uf1 [(2, .int .i64 w), (3, .int .i64 ic), (9, .slice (some ⟨gf1, 0, none⟩) (List.length (allL (on : Int) (cn : Int) ((bn : Int) * (on : Int) * (cn : Int)) (tn * (bn * on * cn)))) cf1), (10, .int .i64 (k : Int))] [] ∧ Hs [] w0 w' [.row (.slice (some ⟨gf1, 0, none⟩) (List.length (allL (on : Int) (cn : Int) ((bn : Int) * (on : Int) * (cn : Int)) (tn * (bn * on * cn)))) cf1) 3 1 (List.length (allL (on : Int) (cn : Int) ((bn : Int) * (on : Int) * (cn : Int)) (tn * (bn * on * cn)))) (List.map (Value.int .i64) (allL (on : Int) (cn : Int) ((bn : Int) * (on : Int) * (cn : Int)) (tn * (bn * on * cn)))), .blk g1 #[.int .i64 r, .int .i64 s, .int .i64 (bn : Int), .int .i64 (on : Int), .int .i64 (cn : Int)] 38] ∧ (k ≤ tn * (bn * on * cn)) ∧ ((k ≤ W0 → ic = i)) ∧ ((W0 ≤ k → ic = i - ((k : Int) - (W0 : Int)))) ∧ ((k : Int) ≤ W0 + i)) (fun gh => match gh with | (k, ic) => tn * (bn * on * cn) - k) (0, i) ⟨_, frm_of, H, (Nat.zero_le _), (fun _ => rfl), (fun h => by omega), (by omega)⟩ ?_
  clear H
  rintro ⟨k, ic⟩ _ v3 ⟨uf1, rfl, H, r1, r2, r3, r4⟩
  obtain ⟨har, har0⟩ := aI_rank hg (N := k)
  have hkd : (k : Int) / ((bn : Int) * (on : Int) * (cn : Int)) ≤ (k : Int) := Int.ediv_le_self _ (by omega)
  have hq1 : (k : Int) < (W0 : Int) → (k : Int) / ((bn : Int) * (on : Int) * (cn : Int)) < w := fun h => Int.ediv_lt_of_lt_mul (by omega) (by rw [hW]; exact h)
  have hq2 : (W0 : Int) ≤ (k : Int) → w ≤ (k : Int) / ((bn : Int) * (on : Int) * (cn : Int)) := fun h => Int.le_ediv_of_mul_le (by omega) (by rw [hW]; exact h)
  have hq3 : (k : Int) / ((bn : Int) * (on : Int) * (cn : Int)) < w + 1 := Int.ediv_lt_of_lt_mul (by omega) (by rw [Int.add_mul, Int.one_mul, hW]; omega)
  refine x_seq <| x_seq <| x_region <| x_b H [.m, .m, .m, .v (.bool (decide ((k : Int) < (((List.length (allL (on : Int) (cn : Int) ((bn : Int) * (on : Int) * (cn : Int)) (tn * (bn * on * cn)))) : Nat) : Int))))] <| x_nil <| x_then ?_
  cases h1 : decide ((k : Int) < (((List.length (allL (on : Int) (cn : Int) ((bn : Int) * (on : Int) * (cn : Int)) (tn * (bn * on * cn)))) : Nat) : Int))
  · skip
    have h1p := of_decide_eq_false h1
    refine x_f (by kernel_rfl) <| x_exit <| x_then_exit <| x_then_exit <| x_blk_exit <| x_then <| x_seq ?_
    refine x_region <| x_b H [.m] <| x_nil <| x_then <| x_retc <| x_ret (.int .i64 0) (by kernel_rfl) (by kernel_rfl) ?_
    exfalso; omega
  have h1p := of_decide_eq_true h1
  refine x_t (by kernel_rfl) <| x_skipc <| x_then <| x_seq <| x_block <| x_seq <| x_region ?_
  refine x_b H [.m, .m] <| x_ix (t := 40) gf1 0 k (List.length (allL (on : Int) (cn : Int) ((bn : Int) * (on : Int) * (cn : Int)) (tn * (bn * on * cn)))) cf1 3 1 k (by rw [allL_len]; omega) (by omega) (by kernel_rfl) (by kernel_rfl) (by kernel_rfl) rfl (by kernel_rfl) <| x_loadc gf1 k (.int .i64 (aI (on : Int) (cn : Int) ((bn : Int) * (on : Int) * (cn : Int)) k)) (cell_as (H.rowCell 0 rfl k (mapAt 0 (by omega))) (by rw [allL_get _ _ _ (by omega)])) (by kernel_rfl) rfl (by kernel_rfl) <| x_eq (.int .i64 ((aI (on : Int) (cn : Int) ((bn : Int) * (on : Int) * (cn : Int)) k) / 1048576)) (e_quo (aI (on : Int) (cn : Int) ((bn : Int) * (on : Int) * (cn : Int)) k) 1048576 (by omega) (by omega) (by omega)) (by kernel_rfl) rfl (by kernel_rfl) <| x_b H [.m, .v (.bool (decide (((aI (on : Int) (cn : Int) ((bn : Int) * (on : Int) * (cn : Int)) k) / 1048576) = w)))] <| x_nil <| x_then ?_
  cases h2 : decide (((aI (on : Int) (cn : Int) ((bn : Int) * (on : Int) * (cn : Int)) k) / 1048576) = w)
  · skip
    have h2p := of_decide_eq_false h2
    refine x_f (by kernel_rfl) <| x_skipc <| x_blk <| x_then <| x_region <| x_b H [.m] <| z_ar ((k : Int) + 1) ?_
    refine x_b H [.m] <| x_nil <| x_then ?_
    replace H := H.pk [0, 1]
    exact ⟨(k + 1, ic), (by dsimp only; omega), _, frm_of, H, (by omega), (fun h => by omega), (fun h => by omega), (by omega)⟩
  have h2p := of_decide_eq_true h2
  refine x_t (by kernel_rfl) <| x_seq <| x_seq <| x_region <| x_b H [.m, .v (.bool (decide (ic = 0)))] <| x_nil <| x_then ?_
  cases h3 : decide (ic = 0)
  · skip
    have h3p := of_decide_eq_false h3
    refine x_f (by kernel_rfl) <| x_skipc <| x_then <| x_region <| x_b H [.m] <| z_ar (ic - 1) <| x_b H [.m] ?_
    refine x_nil <| x_blk <| x_then <| x_region <| x_b H [.m] <| z_ar ((k : Int) + 1) <| x_b H [.m] ?_
    refine x_nil <| x_then ?_
    replace H := H.pk [0, 1]
    exact ⟨(k + 1, ic - 1), (by dsimp only; omega), _, frm_of, H, (by omega), (fun h => by omega), (fun h => by omega), (by omega)⟩
  have h3p := of_decide_eq_true h3
  refine x_t (by kernel_rfl) <| x_seq <| x_region <| x_b H [.m, .m] <| x_ix (t := 40) gf1 0 k (List.length (allL (on : Int) (cn : Int) ((bn : Int) * (on : Int) * (cn : Int)) (tn * (bn * on * cn)))) cf1 3 1 k (by rw [allL_len]; omega) (by omega) (by kernel_rfl) (by kernel_rfl) (by kernel_rfl) rfl (by kernel_rfl) <| x_loadc gf1 k (.int .i64 (aI (on : Int) (cn : Int) ((bn : Int) * (on : Int) * (cn : Int)) k)) (cell_as (H.rowCell 0 rfl k (mapAt 0 (by omega))) (by rw [allL_get _ _ _ (by omega)])) (by kernel_rfl) rfl (by kernel_rfl) <| x_b H [.m] ?_
  refine x_nil <| x_then <| x_retc <| x_then_ret <| x_blk_ret <| x_then_ret <| x_then_ret ?_
  refine x_blk_ret <| x_then_ret <| x_ret (.int .i64 (aI (on : Int) (cn : Int) ((bn : Int) * (on : Int) * (cn : Int)) k)) (by kernel_rfl) (by kernel_rfl) ?_
  have hk : (k : Int) = w * ((bn : Int) * (on : Int) * (cn : Int)) + i := by rw [hW]; omega
  have e : (aI (on : Int) (cn : Int) ((bn : Int) * (on : Int) * (cn : Int)) k) = nthI (on : Int) (cn : Int) w i := aI_nth hg hi.1 hi.2 hk
  exact ⟨by rw [e], H.below⟩
end Go.Proofs.Ytpmnnijjohlloaa
