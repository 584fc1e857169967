/- The document's line of a step, all kinds. -/
import Derived.Test.YtjbaabffilejeaaDoorDrW
import Derived.Test.YtjbaabffilejeaaDoorPxZ
namespace Go.Proofs.YtjbaabffilejeaaDoor
open Go Go.RowKit
set_option linter.unusedVariables false
set_option linter.unusedSimpArgs false
open Go.Lib (decDigits itoa)
set_option maxRecDepth 100000 in
set_option maxHeartbeats 4000000 in
theorem shown_1 {sl fk rk bk ro co ch bi va : Int} {sd : Nat → Nat} {sm : Nat} (hx : Rng (⟨1, sl, sd, sm, fk, rk, bk, ro, co, ch, bi, va⟩ : Stp)) (w0 : World) :
    Calls Tryd.prog 16 #[.agg (stepA ⟨1, sl, sd, sm, fk, rk, bk, ro, co, ch, bi, va⟩)] w0 fun e w' => e = .returned (.tuple #[S (txtS (⟨1, sl, sd, sm, fk, rk, bk, ro, co, ch, bi, va⟩ : Stp)), .bool (decide (SEQ (⟨1, sl, sd, sm, fk, rk, bk, ro, co, ch, bi, va⟩ : Stp) (bareS (⟨1, sl, sd, sm, fk, rk, bk, ro, co, ch, bi, va⟩ : Stp))))]) ∧ Below w0.heap.size w0 w' := by
  refine z_enter Tryd.func16 rfl ?_
  have H := Hs.nil w0
  have l_sl : (itoa sl).length ≤ 22 := itl hx.l
  have hh := hexL_len sd 64
  have hdm : (decDigits sm).length ≤ 21 := decLen64 hx.m
  refine x_seq <| x_region <| z_box H (stepA ⟨1, sl, sd, sm, fk, rk, bk, ro, co, ch, bi, va⟩) 41 (fun v1 g1 H => ?_)
  refine x_b H [.m, .m] <| x_nil <| x_then <| x_seq <| x_region <| x_b H [.m, .l 0 0, .m] <| z_box H (stepA ⟨0, 0, (fun _ => 0), 0, 0, 0, 0, 0, 0, 0, 0, 0⟩) 41 (fun v2 g2 H => ?_)
  refine z_store H 0 0 ((stepA ⟨1, 0, (fun _ => 0), 0, 0, 0, 0, 0, 0, 0, 0, 0⟩)).toList (fun v3 H => ?_)
  refine x_nil <| x_then <| x_seq <| x_region <| x_b H [.m] <| x_nil <| x_then ?_
  refine x_seq <| x_seq <| x_region <| x_b H [.m, .l 1 0] <| x_nil <| x_then <| x_block ?_
  refine x_seq <| x_region <| x_b H [.m, .m] <| x_nil <| x_then <| x_t (by kernel_rfl) <| x_seq ?_
  refine x_region <| x_b H [.m, .l 1 1, .m] <| z_store H 0 1 [.int .i64 sl] (fun v4 H => ?_)
  refine x_nil <| x_then <| x_region <| x_b H [.m, .l 1 1] <| z_callB H (Number_of hx.l _) fun v5 H => x_val (S (([114, 101, 97, 100, 32] : List UInt8) ++ (itoa sl))) (by kernel_rfl) rfl (Eq.trans (by kernel_rfl) (strAdd (P := Tryd.prog) (t := 9) (a := ([114, 101, 97, 100, 32] : List UInt8)) (b := itoa sl) (by simp only [List.length_append, List.length_cons, List.length_nil]; omega))) <| x_b H [.m] ?_
  refine x_nil <| x_blk <| x_then <| x_seq <| z_region_whole H <| q_b [.m, .n 1 0 75 41, .n 0 0 75 41] <| q_val (.bool (decide (SEQ ⟨1, sl, sd, sm, fk, rk, bk, ro, co, ch, bi, va⟩ ⟨1, sl, (fun _ => 0), 0, 0, 0, 0, 0, 0, 0, 0, 0⟩))) (by kernel_rfl) (fun _ => (run_eqT (P := Tryd.prog) (t := 41) (x := .tmp 88) (y := .tmp 89) (xs := stepA ⟨1, sl, sd, sm, fk, rk, bk, ro, co, ch, bi, va⟩) (ys := stepA ⟨1, sl, (fun _ => 0), 0, 0, 0, 0, 0, 0, 0, 0, 0⟩) (B := decide (SEQ ⟨1, sl, sd, sm, fk, rk, bk, ro, co, ch, bi, va⟩ ⟨1, sl, (fun _ => 0), 0, 0, 0, 0, 0, 0, 0, 0, 0⟩)) (by kernel_rfl) (by kernel_rfl) (stepEq ⟨1, sl, sd, sm, fk, rk, bk, ro, co, ch, bi, va⟩ ⟨1, sl, (fun _ => 0), 0, 0, 0, 0, 0, 0, 0, 0, 0⟩))) ?_
  refine q_b [.m, .v (.bool (decide (SEQ ⟨1, sl, sd, sm, fk, rk, bk, ro, co, ch, bi, va⟩ ⟨1, sl, (fun _ => 0), 0, 0, 0, 0, 0, 0, 0, 0, 0⟩)))] <| q_nil ?_
  clear H
  intro v6 H
  refine x_then <| x_retc <| x_ret (.tuple #[S (([114, 101, 97, 100, 32] : List UInt8) ++ (itoa sl)), .bool (decide (SEQ ⟨1, sl, sd, sm, fk, rk, bk, ro, co, ch, bi, va⟩ ⟨1, sl, (fun _ => 0), 0, 0, 0, 0, 0, 0, 0, 0, 0⟩))]) (by kernel_rfl) (by kernel_rfl) ?_
  have etx : (([114, 101, 97, 100, 32] : List UInt8) ++ (itoa sl) : List UInt8) = txtS (⟨1, sl, sd, sm, fk, rk, bk, ro, co, ch, bi, va⟩ : Stp) := (by show _ = Lib.join [wordB 1, itoa sl] [32]; simp [Lib.join, List.intercalate]; rfl)
  exact ⟨by rw [etx]; rfl, H.below⟩
set_option maxRecDepth 100000 in
set_option maxHeartbeats 4000000 in
theorem shown_2 {sl fk rk bk ro co ch bi va : Int} {sd : Nat → Nat} {sm : Nat} (hx : Rng (⟨2, sl, sd, sm, fk, rk, bk, ro, co, ch, bi, va⟩ : Stp)) (w0 : World) :
    Calls Tryd.prog 16 #[.agg (stepA ⟨2, sl, sd, sm, fk, rk, bk, ro, co, ch, bi, va⟩)] w0 fun e w' => e = .returned (.tuple #[S (txtS (⟨2, sl, sd, sm, fk, rk, bk, ro, co, ch, bi, va⟩ : Stp)), .bool (decide (SEQ (⟨2, sl, sd, sm, fk, rk, bk, ro, co, ch, bi, va⟩ : Stp) (bareS (⟨2, sl, sd, sm, fk, rk, bk, ro, co, ch, bi, va⟩ : Stp))))]) ∧ Below w0.heap.size w0 w' := by
  refine z_enter Tryd.func16 rfl ?_
  have H := Hs.nil w0
  have l_sl : (itoa sl).length ≤ 22 := itl hx.l
  have hh := hexL_len sd 64
  have hdm : (decDigits sm).length ≤ 21 := decLen64 hx.m
  refine x_seq <| x_region <| z_box H (stepA ⟨2, sl, sd, sm, fk, rk, bk, ro, co, ch, bi, va⟩) 41 (fun v1 g1 H => ?_)
  refine x_b H [.m, .m] <| x_nil <| x_then <| x_seq <| x_region <| x_b H [.m, .l 0 0, .m] <| z_box H (stepA ⟨0, 0, (fun _ => 0), 0, 0, 0, 0, 0, 0, 0, 0, 0⟩) 41 (fun v2 g2 H => ?_)
  refine z_store H 0 0 ((stepA ⟨2, 0, (fun _ => 0), 0, 0, 0, 0, 0, 0, 0, 0, 0⟩)).toList (fun v3 H => ?_)
  refine x_nil <| x_then <| x_seq <| x_region <| x_b H [.m] <| x_nil <| x_then ?_
  refine x_seq <| x_seq <| x_region <| x_b H [.m, .l 1 0] <| x_nil <| x_then <| x_block ?_
  refine x_seq <| x_region <| x_b H [.m, .m] <| x_nil <| x_then <| x_f (by kernel_rfl) <| x_seq ?_
  refine x_region <| x_b H [.m, .m] <| x_nil <| x_then <| x_t (by kernel_rfl) <| x_seq <| z_region_s H 8 [1] ?_
  refine s_b [(0, .m), (1, .l 0 1), (2, .m), (3, .n 0 2 64 34), (4, .m)] 3 <| s_one 5 rfl (by kernel_rfl) rfl ?_
  clear H
  intro v4 H
  refine z_store H 0 1 [.int .i64 sl] (fun v5 H => ?_)
  refine x_nil <| x_then <| z_next H [1] [0] rfl <| s_b [(6, .m)] 1 <| s_one 7 rfl (by kernel_rfl) rfl ?_
  clear H
  intro v6 H
  refine z_store H 0 2 ((arrL sd 64 0).toArray).toList (fun v7 H => ?_)
  refine x_nil <| x_then <| z_next H [0, 1] [1] rfl <| s_done (by kernel_rfl) ?_
  clear H
  intro v8 H
  refine x_then <| z_region_whole H <| q_b [.m, .l 1 1] <| q_callB (S (itoa sl)) (by kernel_rfl) (fun _ => by kernel_rfl) (fun _ => (Number_of hx.l _)) <| q_val (S (([119, 114, 105, 116, 101, 32] : List UInt8) ++ (itoa sl))) (by kernel_rfl) (fun _ => (Eq.trans (by kernel_rfl) (strAdd (P := Tryd.prog) (t := 9) (a := ([119, 114, 105, 116, 101, 32] : List UInt8)) (b := itoa sl) (by simp only [List.length_append, List.length_cons, List.length_nil]; omega)))) <| q_val (S ((([119, 114, 105, 116, 101, 32] : List UInt8) ++ (itoa sl)) ++ ([32] : List UInt8))) (by kernel_rfl) (fun _ => (Eq.trans (by kernel_rfl) (strAdd (P := Tryd.prog) (t := 9) (a := ([119, 114, 105, 116, 101, 32] : List UInt8) ++ (itoa sl)) (b := ([32] : List UInt8)) (by simp only [List.length_append, List.length_cons, List.length_nil]; omega)))) <| q_b [.m, .n 1 2 64 34] ?_
  refine q_callB (S (hexL sd 64)) (by kernel_rfl) (fun _ => by kernel_rfl) (fun _ => (Hex_ref hx.d _)) <| q_val (S (((([119, 114, 105, 116, 101, 32] : List UInt8) ++ (itoa sl)) ++ ([32] : List UInt8)) ++ (hexL sd 64))) (by kernel_rfl) (fun _ => (Eq.trans (by kernel_rfl) (strAdd (P := Tryd.prog) (t := 9) (a := (([119, 114, 105, 116, 101, 32] : List UInt8) ++ (itoa sl)) ++ ([32] : List UInt8)) (b := hexL sd 64) (by simp only [List.length_append, List.length_cons, List.length_nil]; omega)))) <| q_b [.m] <| q_nil ?_
  clear H
  intro v9 H
  refine x_blk <| x_then <| x_seq <| z_region_whole H <| q_b [.m, .n 1 0 75 41, .n 0 0 75 41] <| q_val (.bool (decide (SEQ ⟨2, sl, sd, sm, fk, rk, bk, ro, co, ch, bi, va⟩ ⟨2, sl, sd, 0, 0, 0, 0, 0, 0, 0, 0, 0⟩))) (by kernel_rfl) (fun _ => (run_eqT (P := Tryd.prog) (t := 41) (x := .tmp 88) (y := .tmp 89) (xs := stepA ⟨2, sl, sd, sm, fk, rk, bk, ro, co, ch, bi, va⟩) (ys := stepA ⟨2, sl, sd, 0, 0, 0, 0, 0, 0, 0, 0, 0⟩) (B := decide (SEQ ⟨2, sl, sd, sm, fk, rk, bk, ro, co, ch, bi, va⟩ ⟨2, sl, sd, 0, 0, 0, 0, 0, 0, 0, 0, 0⟩)) (by kernel_rfl) (by kernel_rfl) (stepEq ⟨2, sl, sd, sm, fk, rk, bk, ro, co, ch, bi, va⟩ ⟨2, sl, sd, 0, 0, 0, 0, 0, 0, 0, 0, 0⟩))) <| q_b [.m, .v (.bool (decide (SEQ ⟨2, sl, sd, sm, fk, rk, bk, ro, co, ch, bi, va⟩ ⟨2, sl, sd, 0, 0, 0, 0, 0, 0, 0, 0, 0⟩)))] ?_
  refine q_nil ?_
  clear H
  intro v10 H
  refine x_then <| x_retc <| x_ret (.tuple #[S (((([119, 114, 105, 116, 101, 32] : List UInt8) ++ (itoa sl)) ++ ([32] : List UInt8)) ++ (hexL sd 64)), .bool (decide (SEQ ⟨2, sl, sd, sm, fk, rk, bk, ro, co, ch, bi, va⟩ ⟨2, sl, sd, 0, 0, 0, 0, 0, 0, 0, 0, 0⟩))]) (by kernel_rfl) (by kernel_rfl) ?_
  have etx : (((([119, 114, 105, 116, 101, 32] : List UInt8) ++ (itoa sl)) ++ ([32] : List UInt8)) ++ (hexL sd 64) : List UInt8) = txtS (⟨2, sl, sd, sm, fk, rk, bk, ro, co, ch, bi, va⟩ : Stp) := (by show _ = Lib.join [wordB 2, itoa sl, hexL sd 64] [32]; simp [Lib.join, List.intercalate]; rfl)
  exact ⟨by rw [etx]; rfl, H.below⟩
set_option maxRecDepth 100000 in
set_option maxHeartbeats 4000000 in
theorem shown_3 {sl fk rk bk ro co ch bi va : Int} {sd : Nat → Nat} {sm : Nat} (hx : Rng (⟨3, sl, sd, sm, fk, rk, bk, ro, co, ch, bi, va⟩ : Stp)) (w0 : World) :
    Calls Tryd.prog 16 #[.agg (stepA ⟨3, sl, sd, sm, fk, rk, bk, ro, co, ch, bi, va⟩)] w0 fun e w' => e = .returned (.tuple #[S (txtS (⟨3, sl, sd, sm, fk, rk, bk, ro, co, ch, bi, va⟩ : Stp)), .bool (decide (SEQ (⟨3, sl, sd, sm, fk, rk, bk, ro, co, ch, bi, va⟩ : Stp) (bareS (⟨3, sl, sd, sm, fk, rk, bk, ro, co, ch, bi, va⟩ : Stp))))]) ∧ Below w0.heap.size w0 w' := by
  refine z_enter Tryd.func16 rfl ?_
  have H := Hs.nil w0
  have l_sl : (itoa sl).length ≤ 22 := itl hx.l
  have hh := hexL_len sd 64
  have hdm : (decDigits sm).length ≤ 21 := decLen64 hx.m
  refine x_seq <| x_region <| z_box H (stepA ⟨3, sl, sd, sm, fk, rk, bk, ro, co, ch, bi, va⟩) 41 (fun v1 g1 H => ?_)
  refine x_b H [.m, .m] <| x_nil <| x_then <| x_seq <| x_region <| x_b H [.m, .l 0 0, .m] <| z_box H (stepA ⟨0, 0, (fun _ => 0), 0, 0, 0, 0, 0, 0, 0, 0, 0⟩) 41 (fun v2 g2 H => ?_)
  refine z_store H 0 0 ((stepA ⟨3, 0, (fun _ => 0), 0, 0, 0, 0, 0, 0, 0, 0, 0⟩)).toList (fun v3 H => ?_)
  refine x_nil <| x_then <| x_seq <| x_region <| x_b H [.m] <| x_nil <| x_then ?_
  refine x_seq <| x_seq <| x_region <| x_b H [.m, .l 1 0] <| x_nil <| x_then <| x_block ?_
  refine x_seq <| x_region <| x_b H [.m, .m] <| x_nil <| x_then <| x_f (by kernel_rfl) <| x_seq ?_
  refine x_region <| x_b H [.m, .m] <| x_nil <| x_then <| x_f (by kernel_rfl) <| x_seq <| x_region ?_
  refine x_b H [.m, .m] <| x_nil <| x_then <| x_t (by kernel_rfl) <| x_seq <| z_region_s H 12 [1] <| s_b [(0, .m), (1, .l 0 1), (2, .m), (3, .n 0 2 64 34), (4, .m), (5, .l 0 66), (6, .m)] 5 ?_
  refine s_one 7 rfl (by kernel_rfl) rfl ?_
  clear H
  intro v4 H
  refine z_store H 0 1 [.int .i64 sl] (fun v5 H => ?_)
  refine x_nil <| x_then <| z_next H [1] [0] rfl <| s_b [(8, .m)] 3 <| s_one 9 rfl (by kernel_rfl) rfl ?_
  clear H
  intro v6 H
  refine z_store H 0 2 ((arrL sd 64 0).toArray).toList (fun v7 H => ?_)
  refine x_nil <| x_then <| z_next H [1] [0] rfl <| s_b [(10, .m)] 1 <| s_one 11 rfl (by kernel_rfl) rfl ?_
  clear H
  intro v8 H
  refine z_store H 0 66 [.int .u64 (sm : Int)] (fun v9 H => ?_)
  refine x_nil <| x_then <| z_next H [0, 1] [1] rfl <| s_done (by kernel_rfl) ?_
  clear H
  intro v10 H
  refine x_then <| z_region_whole H <| q_b [.m, .l 1 1] <| q_callB (S (itoa sl)) (by kernel_rfl) (fun _ => by kernel_rfl) (fun _ => (Number_of hx.l _)) <| q_val (S (([109, 97, 115, 107, 32] : List UInt8) ++ (itoa sl))) (by kernel_rfl) (fun _ => (Eq.trans (by kernel_rfl) (strAdd (P := Tryd.prog) (t := 9) (a := ([109, 97, 115, 107, 32] : List UInt8)) (b := itoa sl) (by simp only [List.length_append, List.length_cons, List.length_nil]; omega)))) <| q_val (S ((([109, 97, 115, 107, 32] : List UInt8) ++ (itoa sl)) ++ ([32] : List UInt8))) (by kernel_rfl) (fun _ => (Eq.trans (by kernel_rfl) (strAdd (P := Tryd.prog) (t := 9) (a := ([109, 97, 115, 107, 32] : List UInt8) ++ (itoa sl)) (b := ([32] : List UInt8)) (by simp only [List.length_append, List.length_cons, List.length_nil]; omega)))) <| q_b [.m, .n 1 2 64 34] ?_
  refine q_callB (S (hexL sd 64)) (by kernel_rfl) (fun _ => by kernel_rfl) (fun _ => (Hex_ref hx.d _)) <| q_val (S (((([109, 97, 115, 107, 32] : List UInt8) ++ (itoa sl)) ++ ([32] : List UInt8)) ++ (hexL sd 64))) (by kernel_rfl) (fun _ => (Eq.trans (by kernel_rfl) (strAdd (P := Tryd.prog) (t := 9) (a := (([109, 97, 115, 107, 32] : List UInt8) ++ (itoa sl)) ++ ([32] : List UInt8)) (b := hexL sd 64) (by simp only [List.length_append, List.length_cons, List.length_nil]; omega)))) <| q_val (S ((((([109, 97, 115, 107, 32] : List UInt8) ++ (itoa sl)) ++ ([32] : List UInt8)) ++ (hexL sd 64)) ++ ([32] : List UInt8))) (by kernel_rfl) (fun _ => (Eq.trans (by kernel_rfl) (strAdd (P := Tryd.prog) (t := 9) (a := ((([109, 97, 115, 107, 32] : List UInt8) ++ (itoa sl)) ++ ([32] : List UInt8)) ++ (hexL sd 64)) (b := ([32] : List UInt8)) (by simp only [List.length_append, List.length_cons, List.length_nil]; omega)))) ?_
  refine q_b [.m, .l 1 66] <| q_callB (S (decDigits sm)) (by kernel_rfl) (fun _ => by kernel_rfl) (fun _ => (Digits64_of hx.m _)) <| q_val (S (((((([109, 97, 115, 107, 32] : List UInt8) ++ (itoa sl)) ++ ([32] : List UInt8)) ++ (hexL sd 64)) ++ ([32] : List UInt8)) ++ (decDigits sm))) (by kernel_rfl) (fun _ => (Eq.trans (by kernel_rfl) (strAdd (P := Tryd.prog) (t := 9) (a := (((([109, 97, 115, 107, 32] : List UInt8) ++ (itoa sl)) ++ ([32] : List UInt8)) ++ (hexL sd 64)) ++ ([32] : List UInt8)) (b := decDigits sm) (by simp only [List.length_append, List.length_cons, List.length_nil]; omega)))) <| q_b [.m] <| q_nil ?_
  clear H
  intro v11 H
  refine z_fr 91 [(1, .pointer (some ⟨g1, 0, none⟩)), (4, .pointer (some ⟨g2, 0, none⟩)), (5, S (((((([109, 97, 115, 107, 32] : List UInt8) ++ (itoa sl)) ++ ([32] : List UInt8)) ++ (hexL sd 64)) ++ ([32] : List UInt8)) ++ (decDigits sm)))] [] fun uf1 => x_blk <| x_then <| x_seq <| z_region_whole H <| q_b [.m, .n 1 0 75 41, .n 0 0 75 41] <| q_val (.bool (decide (SEQ ⟨3, sl, sd, sm, fk, rk, bk, ro, co, ch, bi, va⟩ ⟨3, sl, sd, sm, 0, 0, 0, 0, 0, 0, 0, 0⟩))) (by kernel_rfl) (fun _ => (run_eqT (P := Tryd.prog) (t := 41) (x := .tmp 88) (y := .tmp 89) (xs := stepA ⟨3, sl, sd, sm, fk, rk, bk, ro, co, ch, bi, va⟩) (ys := stepA ⟨3, sl, sd, sm, 0, 0, 0, 0, 0, 0, 0, 0⟩) (B := decide (SEQ ⟨3, sl, sd, sm, fk, rk, bk, ro, co, ch, bi, va⟩ ⟨3, sl, sd, sm, 0, 0, 0, 0, 0, 0, 0, 0⟩)) (by kernel_rfl) (by kernel_rfl) (stepEq ⟨3, sl, sd, sm, fk, rk, bk, ro, co, ch, bi, va⟩ ⟨3, sl, sd, sm, 0, 0, 0, 0, 0, 0, 0, 0⟩))) ?_
  refine q_b [.m, .v (.bool (decide (SEQ ⟨3, sl, sd, sm, fk, rk, bk, ro, co, ch, bi, va⟩ ⟨3, sl, sd, sm, 0, 0, 0, 0, 0, 0, 0, 0⟩)))] <| q_nil ?_
  clear H
  intro v12 H
  refine x_then <| x_retc <| x_ret (.tuple #[S (((((([109, 97, 115, 107, 32] : List UInt8) ++ (itoa sl)) ++ ([32] : List UInt8)) ++ (hexL sd 64)) ++ ([32] : List UInt8)) ++ (decDigits sm)), .bool (decide (SEQ ⟨3, sl, sd, sm, fk, rk, bk, ro, co, ch, bi, va⟩ ⟨3, sl, sd, sm, 0, 0, 0, 0, 0, 0, 0, 0⟩))]) (by kernel_rfl) (by kernel_rfl) ?_
  have etx : (((((([109, 97, 115, 107, 32] : List UInt8) ++ (itoa sl)) ++ ([32] : List UInt8)) ++ (hexL sd 64)) ++ ([32] : List UInt8)) ++ (decDigits sm) : List UInt8) = txtS (⟨3, sl, sd, sm, fk, rk, bk, ro, co, ch, bi, va⟩ : Stp) := (by show _ = Lib.join [wordB 3, itoa sl, hexL sd 64, decDigits sm] [32]; simp [Lib.join, List.intercalate]; rfl)
  exact ⟨by rw [etx]; rfl, H.below⟩
set_option maxRecDepth 100000 in
set_option maxHeartbeats 4000000 in
theorem shown_4 {sl fk rk bk ro co ch bi va : Int} {sd : Nat → Nat} {sm : Nat} (hx : Rng (⟨4, sl, sd, sm, fk, rk, bk, ro, co, ch, bi, va⟩ : Stp)) (w0 : World) :
    Calls Tryd.prog 16 #[.agg (stepA ⟨4, sl, sd, sm, fk, rk, bk, ro, co, ch, bi, va⟩)] w0 fun e w' => e = .returned (.tuple #[S (txtS (⟨4, sl, sd, sm, fk, rk, bk, ro, co, ch, bi, va⟩ : Stp)), .bool (decide (SEQ (⟨4, sl, sd, sm, fk, rk, bk, ro, co, ch, bi, va⟩ : Stp) (bareS (⟨4, sl, sd, sm, fk, rk, bk, ro, co, ch, bi, va⟩ : Stp))))]) ∧ Below w0.heap.size w0 w' := by
  refine z_enter Tryd.func16 rfl ?_
  have H := Hs.nil w0
  have l_sl : (itoa sl).length ≤ 22 := itl hx.l
  have hh := hexL_len sd 64
  have hdm : (decDigits sm).length ≤ 21 := decLen64 hx.m
  refine x_seq <| x_region <| z_box H (stepA ⟨4, sl, sd, sm, fk, rk, bk, ro, co, ch, bi, va⟩) 41 (fun v1 g1 H => ?_)
  refine x_b H [.m, .m] <| x_nil <| x_then <| x_seq <| x_region <| x_b H [.m, .l 0 0, .m] <| z_box H (stepA ⟨0, 0, (fun _ => 0), 0, 0, 0, 0, 0, 0, 0, 0, 0⟩) 41 (fun v2 g2 H => ?_)
  refine z_store H 0 0 ((stepA ⟨4, 0, (fun _ => 0), 0, 0, 0, 0, 0, 0, 0, 0, 0⟩)).toList (fun v3 H => ?_)
  refine x_nil <| x_then <| x_seq <| x_region <| x_b H [.m] <| x_nil <| x_then ?_
  refine x_seq <| x_seq <| x_region <| x_b H [.m, .l 1 0] <| x_nil <| x_then <| x_block ?_
  refine x_seq <| x_region <| x_b H [.m, .m] <| x_nil <| x_then <| x_f (by kernel_rfl) <| x_seq ?_
  refine x_region <| x_b H [.m, .m] <| x_nil <| x_then <| x_f (by kernel_rfl) <| x_seq <| x_region ?_
  refine x_b H [.m, .m] <| x_nil <| x_then <| x_f (by kernel_rfl) <| x_seq <| x_seq <| x_region ?_
  refine x_b H [.m, .m] <| x_nil <| x_then <| x_t (by kernel_rfl) <| x_skipc <| x_then <| x_t (by kernel_rfl) ?_
  refine x_region <| x_b H [.m, .m, .l 1 0, .m, .m] <| x_nil <| x_blk <| x_then <| x_seq <| z_region_whole H ?_
  refine q_b [.m, .n 1 0 75 41, .n 0 0 75 41] <| q_val (.bool (decide (SEQ ⟨4, sl, sd, sm, fk, rk, bk, ro, co, ch, bi, va⟩ ⟨4, 0, (fun _ => 0), 0, 0, 0, 0, 0, 0, 0, 0, 0⟩))) (by kernel_rfl) (fun _ => (run_eqT (P := Tryd.prog) (t := 41) (x := .tmp 88) (y := .tmp 89) (xs := stepA ⟨4, sl, sd, sm, fk, rk, bk, ro, co, ch, bi, va⟩) (ys := stepA ⟨4, 0, (fun _ => 0), 0, 0, 0, 0, 0, 0, 0, 0, 0⟩) (B := decide (SEQ ⟨4, sl, sd, sm, fk, rk, bk, ro, co, ch, bi, va⟩ ⟨4, 0, (fun _ => 0), 0, 0, 0, 0, 0, 0, 0, 0, 0⟩)) (by kernel_rfl) (by kernel_rfl) (stepEq ⟨4, sl, sd, sm, fk, rk, bk, ro, co, ch, bi, va⟩ ⟨4, 0, (fun _ => 0), 0, 0, 0, 0, 0, 0, 0, 0, 0⟩))) <| q_b [.m, .v (.bool (decide (SEQ ⟨4, sl, sd, sm, fk, rk, bk, ro, co, ch, bi, va⟩ ⟨4, 0, (fun _ => 0), 0, 0, 0, 0, 0, 0, 0, 0, 0⟩)))] <| q_nil ?_
  clear H
  intro v4 H
  refine x_then <| x_retc <| x_ret (.tuple #[S ([115, 99, 114, 117, 98] : List UInt8), .bool (decide (SEQ ⟨4, sl, sd, sm, fk, rk, bk, ro, co, ch, bi, va⟩ ⟨4, 0, (fun _ => 0), 0, 0, 0, 0, 0, 0, 0, 0, 0⟩))]) (by kernel_rfl) (by kernel_rfl) ?_
  have etx : (([115, 99, 114, 117, 98] : List UInt8) : List UInt8) = txtS (⟨4, sl, sd, sm, fk, rk, bk, ro, co, ch, bi, va⟩ : Stp) := rfl
  exact ⟨by rw [etx]; rfl, H.below⟩
set_option maxRecDepth 100000 in
set_option maxHeartbeats 4000000 in
theorem shown_5 {sl fk rk bk ro co ch bi va : Int} {sd : Nat → Nat} {sm : Nat} (hx : Rng (⟨5, sl, sd, sm, fk, rk, bk, ro, co, ch, bi, va⟩ : Stp)) (w0 : World) :
    Calls Tryd.prog 16 #[.agg (stepA ⟨5, sl, sd, sm, fk, rk, bk, ro, co, ch, bi, va⟩)] w0 fun e w' => e = .returned (.tuple #[S (txtS (⟨5, sl, sd, sm, fk, rk, bk, ro, co, ch, bi, va⟩ : Stp)), .bool (decide (SEQ (⟨5, sl, sd, sm, fk, rk, bk, ro, co, ch, bi, va⟩ : Stp) (bareS (⟨5, sl, sd, sm, fk, rk, bk, ro, co, ch, bi, va⟩ : Stp))))]) ∧ Below w0.heap.size w0 w' := by
  refine z_enter Tryd.func16 rfl ?_
  have H := Hs.nil w0
  have l_sl : (itoa sl).length ≤ 22 := itl hx.l
  have hh := hexL_len sd 64
  have hdm : (decDigits sm).length ≤ 21 := decLen64 hx.m
  refine x_seq <| x_region <| z_box H (stepA ⟨5, sl, sd, sm, fk, rk, bk, ro, co, ch, bi, va⟩) 41 (fun v1 g1 H => ?_)
  refine x_b H [.m, .m] <| x_nil <| x_then <| x_seq <| x_region <| x_b H [.m, .l 0 0, .m] <| z_box H (stepA ⟨0, 0, (fun _ => 0), 0, 0, 0, 0, 0, 0, 0, 0, 0⟩) 41 (fun v2 g2 H => ?_)
  refine z_store H 0 0 ((stepA ⟨5, 0, (fun _ => 0), 0, 0, 0, 0, 0, 0, 0, 0, 0⟩)).toList (fun v3 H => ?_)
  refine x_nil <| x_then <| x_seq <| x_region <| x_b H [.m] <| x_nil <| x_then ?_
  refine x_seq <| x_seq <| x_region <| x_b H [.m, .l 1 0] <| x_nil <| x_then <| x_block ?_
  refine x_seq <| x_region <| x_b H [.m, .m] <| x_nil <| x_then <| x_f (by kernel_rfl) <| x_seq ?_
  refine x_region <| x_b H [.m, .m] <| x_nil <| x_then <| x_f (by kernel_rfl) <| x_seq <| x_region ?_
  refine x_b H [.m, .m] <| x_nil <| x_then <| x_f (by kernel_rfl) <| x_seq <| x_seq <| x_region ?_
  refine x_b H [.m, .m] <| x_nil <| x_then <| x_f (by kernel_rfl) <| x_seq <| x_region <| x_b H [.m, .m] ?_
  refine x_nil <| x_then <| x_t (by kernel_rfl) <| x_skipc <| x_then <| x_t (by kernel_rfl) <| x_region ?_
  refine x_b H [.m, .m, .l 1 0, .m, .m] <| x_nil <| x_blk <| x_then <| x_seq <| z_region_whole H <| q_b [.m, .n 1 0 75 41, .n 0 0 75 41] ?_
  refine q_val (.bool (decide (SEQ ⟨5, sl, sd, sm, fk, rk, bk, ro, co, ch, bi, va⟩ ⟨5, 0, (fun _ => 0), 0, 0, 0, 0, 0, 0, 0, 0, 0⟩))) (by kernel_rfl) (fun _ => (run_eqT (P := Tryd.prog) (t := 41) (x := .tmp 88) (y := .tmp 89) (xs := stepA ⟨5, sl, sd, sm, fk, rk, bk, ro, co, ch, bi, va⟩) (ys := stepA ⟨5, 0, (fun _ => 0), 0, 0, 0, 0, 0, 0, 0, 0, 0⟩) (B := decide (SEQ ⟨5, sl, sd, sm, fk, rk, bk, ro, co, ch, bi, va⟩ ⟨5, 0, (fun _ => 0), 0, 0, 0, 0, 0, 0, 0, 0, 0⟩)) (by kernel_rfl) (by kernel_rfl) (stepEq ⟨5, sl, sd, sm, fk, rk, bk, ro, co, ch, bi, va⟩ ⟨5, 0, (fun _ => 0), 0, 0, 0, 0, 0, 0, 0, 0, 0⟩))) <| q_b [.m, .v (.bool (decide (SEQ ⟨5, sl, sd, sm, fk, rk, bk, ro, co, ch, bi, va⟩ ⟨5, 0, (fun _ => 0), 0, 0, 0, 0, 0, 0, 0, 0, 0⟩)))] <| q_nil ?_
  clear H
  intro v4 H
  refine x_then <| x_retc <| x_ret (.tuple #[S ([99, 111, 112, 121] : List UInt8), .bool (decide (SEQ ⟨5, sl, sd, sm, fk, rk, bk, ro, co, ch, bi, va⟩ ⟨5, 0, (fun _ => 0), 0, 0, 0, 0, 0, 0, 0, 0, 0⟩))]) (by kernel_rfl) (by kernel_rfl) ?_
  have etx : (([99, 111, 112, 121] : List UInt8) : List UInt8) = txtS (⟨5, sl, sd, sm, fk, rk, bk, ro, co, ch, bi, va⟩ : Stp) := rfl
  exact ⟨by rw [etx]; rfl, H.below⟩
set_option maxRecDepth 100000 in
set_option maxHeartbeats 4000000 in
theorem shown_6 {sl fk rk bk ro co ch bi va : Int} {sd : Nat → Nat} {sm : Nat} (hx : Rng (⟨6, sl, sd, sm, fk, rk, bk, ro, co, ch, bi, va⟩ : Stp)) (w0 : World) :
    Calls Tryd.prog 16 #[.agg (stepA ⟨6, sl, sd, sm, fk, rk, bk, ro, co, ch, bi, va⟩)] w0 fun e w' => e = .returned (.tuple #[S (txtS (⟨6, sl, sd, sm, fk, rk, bk, ro, co, ch, bi, va⟩ : Stp)), .bool (decide (SEQ (⟨6, sl, sd, sm, fk, rk, bk, ro, co, ch, bi, va⟩ : Stp) (bareS (⟨6, sl, sd, sm, fk, rk, bk, ro, co, ch, bi, va⟩ : Stp))))]) ∧ Below w0.heap.size w0 w' := by
  refine z_enter Tryd.func16 rfl ?_
  have H := Hs.nil w0
  have l_sl : (itoa sl).length ≤ 22 := itl hx.l
  have hh := hexL_len sd 64
  have hdm : (decDigits sm).length ≤ 21 := decLen64 hx.m
  refine x_seq <| x_region <| z_box H (stepA ⟨6, sl, sd, sm, fk, rk, bk, ro, co, ch, bi, va⟩) 41 (fun v1 g1 H => ?_)
  refine x_b H [.m, .m] <| x_nil <| x_then <| x_seq <| x_region <| x_b H [.m, .l 0 0, .m] <| z_box H (stepA ⟨0, 0, (fun _ => 0), 0, 0, 0, 0, 0, 0, 0, 0, 0⟩) 41 (fun v2 g2 H => ?_)
  refine z_store H 0 0 ((stepA ⟨6, 0, (fun _ => 0), 0, 0, 0, 0, 0, 0, 0, 0, 0⟩)).toList (fun v3 H => ?_)
  refine x_nil <| x_then <| x_seq <| x_region <| x_b H [.m] <| x_nil <| x_then ?_
  refine x_seq <| x_seq <| x_region <| x_b H [.m, .l 1 0] <| x_nil <| x_then <| x_block ?_
  refine x_seq <| x_region <| x_b H [.m, .m] <| x_nil <| x_then <| x_f (by kernel_rfl) <| x_seq ?_
  refine x_region <| x_b H [.m, .m] <| x_nil <| x_then <| x_f (by kernel_rfl) <| x_seq <| x_region ?_
  refine x_b H [.m, .m] <| x_nil <| x_then <| x_f (by kernel_rfl) <| x_seq <| x_seq <| x_region ?_
  refine x_b H [.m, .m] <| x_nil <| x_then <| x_f (by kernel_rfl) <| x_seq <| x_region <| x_b H [.m, .m] ?_
  refine x_nil <| x_then <| x_f (by kernel_rfl) <| x_seq <| x_region <| x_b H [.m, .m] <| x_nil ?_
  refine x_then <| x_t (by kernel_rfl) <| x_skipc <| x_then <| x_t (by kernel_rfl) <| x_region <| x_b H [.m, .m, .l 1 0, .m, .m] ?_
  refine x_nil <| x_blk <| x_then <| x_seq <| z_region_whole H <| q_b [.m, .n 1 0 75 41, .n 0 0 75 41] <| q_val (.bool (decide (SEQ ⟨6, sl, sd, sm, fk, rk, bk, ro, co, ch, bi, va⟩ ⟨6, 0, (fun _ => 0), 0, 0, 0, 0, 0, 0, 0, 0, 0⟩))) (by kernel_rfl) (fun _ => (run_eqT (P := Tryd.prog) (t := 41) (x := .tmp 88) (y := .tmp 89) (xs := stepA ⟨6, sl, sd, sm, fk, rk, bk, ro, co, ch, bi, va⟩) (ys := stepA ⟨6, 0, (fun _ => 0), 0, 0, 0, 0, 0, 0, 0, 0, 0⟩) (B := decide (SEQ ⟨6, sl, sd, sm, fk, rk, bk, ro, co, ch, bi, va⟩ ⟨6, 0, (fun _ => 0), 0, 0, 0, 0, 0, 0, 0, 0, 0⟩)) (by kernel_rfl) (by kernel_rfl) (stepEq ⟨6, sl, sd, sm, fk, rk, bk, ro, co, ch, bi, va⟩ ⟨6, 0, (fun _ => 0), 0, 0, 0, 0, 0, 0, 0, 0, 0⟩))) ?_
  refine q_b [.m, .v (.bool (decide (SEQ ⟨6, sl, sd, sm, fk, rk, bk, ro, co, ch, bi, va⟩ ⟨6, 0, (fun _ => 0), 0, 0, 0, 0, 0, 0, 0, 0, 0⟩)))] <| q_nil ?_
  clear H
  intro v4 H
  refine x_then <| x_retc <| x_ret (.tuple #[S ([116, 105, 99, 107] : List UInt8), .bool (decide (SEQ ⟨6, sl, sd, sm, fk, rk, bk, ro, co, ch, bi, va⟩ ⟨6, 0, (fun _ => 0), 0, 0, 0, 0, 0, 0, 0, 0, 0⟩))]) (by kernel_rfl) (by kernel_rfl) ?_
  have etx : (([116, 105, 99, 107] : List UInt8) : List UInt8) = txtS (⟨6, sl, sd, sm, fk, rk, bk, ro, co, ch, bi, va⟩ : Stp) := rfl
  exact ⟨by rw [etx]; rfl, H.below⟩
set_option maxRecDepth 100000 in
set_option maxHeartbeats 4000000 in
theorem shown_7 {sl fk rk bk ro co ch bi va : Int} {sd : Nat → Nat} {sm : Nat} (hx : Rng (⟨7, sl, sd, sm, fk, rk, bk, ro, co, ch, bi, va⟩ : Stp)) (w0 : World) :
    Calls Tryd.prog 16 #[.agg (stepA ⟨7, sl, sd, sm, fk, rk, bk, ro, co, ch, bi, va⟩)] w0 fun e w' => e = .returned (.tuple #[S (txtS (⟨7, sl, sd, sm, fk, rk, bk, ro, co, ch, bi, va⟩ : Stp)), .bool (decide (SEQ (⟨7, sl, sd, sm, fk, rk, bk, ro, co, ch, bi, va⟩ : Stp) (bareS (⟨7, sl, sd, sm, fk, rk, bk, ro, co, ch, bi, va⟩ : Stp))))]) ∧ Below w0.heap.size w0 w' := by
  refine z_enter Tryd.func16 rfl ?_
  have H := Hs.nil w0
  have l_sl : (itoa sl).length ≤ 22 := itl hx.l
  have hh := hexL_len sd 64
  have hdm : (decDigits sm).length ≤ 21 := decLen64 hx.m
  refine x_seq <| x_region <| z_box H (stepA ⟨7, sl, sd, sm, fk, rk, bk, ro, co, ch, bi, va⟩) 41 (fun v1 g1 H => ?_)
  refine x_b H [.m, .m] <| x_nil <| x_then <| x_seq <| x_region <| x_b H [.m, .l 0 0, .m] <| z_box H (stepA ⟨0, 0, (fun _ => 0), 0, 0, 0, 0, 0, 0, 0, 0, 0⟩) 41 (fun v2 g2 H => ?_)
  refine z_store H 0 0 ((stepA ⟨7, 0, (fun _ => 0), 0, 0, 0, 0, 0, 0, 0, 0, 0⟩)).toList (fun v3 H => ?_)
  refine x_nil <| x_then <| x_seq <| x_region <| x_b H [.m] <| x_nil <| x_then ?_
  refine x_seq <| x_seq <| x_region <| x_b H [.m, .l 1 0] <| x_nil <| x_then <| x_block ?_
  refine x_seq <| x_region <| x_b H [.m, .m] <| x_nil <| x_then <| x_f (by kernel_rfl) <| x_seq ?_
  refine x_region <| x_b H [.m, .m] <| x_nil <| x_then <| x_f (by kernel_rfl) <| x_seq <| x_region ?_
  refine x_b H [.m, .m] <| x_nil <| x_then <| x_f (by kernel_rfl) <| x_seq <| x_seq <| x_region ?_
  refine x_b H [.m, .m] <| x_nil <| x_then <| x_f (by kernel_rfl) <| x_seq <| x_region <| x_b H [.m, .m] ?_
  refine x_nil <| x_then <| x_f (by kernel_rfl) <| x_seq <| x_region <| x_b H [.m, .m] <| x_nil ?_
  refine x_then <| x_f (by kernel_rfl) <| x_region <| x_b H [.m, .m] <| x_nil <| x_then <| x_t (by kernel_rfl) ?_
  refine x_region <| x_b H [.m, .m, .l 1 0, .m, .m] <| x_nil <| x_blk <| x_then <| x_seq <| z_region_whole H ?_
  refine q_b [.m, .n 1 0 75 41, .n 0 0 75 41] <| q_val (.bool (decide (SEQ ⟨7, sl, sd, sm, fk, rk, bk, ro, co, ch, bi, va⟩ ⟨7, 0, (fun _ => 0), 0, 0, 0, 0, 0, 0, 0, 0, 0⟩))) (by kernel_rfl) (fun _ => (run_eqT (P := Tryd.prog) (t := 41) (x := .tmp 88) (y := .tmp 89) (xs := stepA ⟨7, sl, sd, sm, fk, rk, bk, ro, co, ch, bi, va⟩) (ys := stepA ⟨7, 0, (fun _ => 0), 0, 0, 0, 0, 0, 0, 0, 0, 0⟩) (B := decide (SEQ ⟨7, sl, sd, sm, fk, rk, bk, ro, co, ch, bi, va⟩ ⟨7, 0, (fun _ => 0), 0, 0, 0, 0, 0, 0, 0, 0, 0⟩)) (by kernel_rfl) (by kernel_rfl) (stepEq ⟨7, sl, sd, sm, fk, rk, bk, ro, co, ch, bi, va⟩ ⟨7, 0, (fun _ => 0), 0, 0, 0, 0, 0, 0, 0, 0, 0⟩))) <| q_b [.m, .v (.bool (decide (SEQ ⟨7, sl, sd, sm, fk, rk, bk, ro, co, ch, bi, va⟩ ⟨7, 0, (fun _ => 0), 0, 0, 0, 0, 0, 0, 0, 0, 0⟩)))] <| q_nil ?_
  clear H
  intro v4 H
  refine x_then <| x_retc <| x_ret (.tuple #[S ([99, 108, 101, 97, 114] : List UInt8), .bool (decide (SEQ ⟨7, sl, sd, sm, fk, rk, bk, ro, co, ch, bi, va⟩ ⟨7, 0, (fun _ => 0), 0, 0, 0, 0, 0, 0, 0, 0, 0⟩))]) (by kernel_rfl) (by kernel_rfl) ?_
  have etx : (([99, 108, 101, 97, 114] : List UInt8) : List UInt8) = txtS (⟨7, sl, sd, sm, fk, rk, bk, ro, co, ch, bi, va⟩ : Stp) := rfl
  exact ⟨by rw [etx]; rfl, H.below⟩
set_option maxRecDepth 100000 in
set_option maxHeartbeats 4000000 in
theorem shown_o {sk sl fk rk bk ro co ch bi va : Int} {sd : Nat → Nat} {sm : Nat} (h : sk < 1 ∨ 8 < sk) (w0 : World) :
    Calls Tryd.prog 16 #[.agg (stepA ⟨sk, sl, sd, sm, fk, rk, bk, ro, co, ch, bi, va⟩)] w0 fun e w' => e = .returned (.tuple #[S [], .bool false]) ∧ Below w0.heap.size w0 w' := by
  refine z_enter Tryd.func16 rfl ?_
  have H := Hs.nil w0
  refine x_seq <| x_region <| z_box H (stepA ⟨sk, sl, sd, sm, fk, rk, bk, ro, co, ch, bi, va⟩) 41 (fun v1 g1 H => ?_)
  refine x_b H [.m, .m] <| x_nil <| x_then <| x_seq <| x_region <| x_b H [.m, .l 0 0, .m] <| z_box H (stepA ⟨0, 0, (fun _ => 0), 0, 0, 0, 0, 0, 0, 0, 0, 0⟩) 41 (fun v2 g2 H => ?_)
  refine z_store H 0 0 ((stepA ⟨sk, 0, (fun _ => 0), 0, 0, 0, 0, 0, 0, 0, 0, 0⟩)).toList (fun v3 H => ?_)
  refine x_nil <| x_then <| x_seq <| x_region <| x_b H [.m] <| x_nil <| x_then ?_
  refine x_seq <| x_seq <| x_region <| x_b H [.m, .l 1 0] <| x_nil <| x_then <| x_block ?_
  refine x_seq <| x_region <| x_b H [.v (.bool (decide (sk = 1))), .v (.bool (decide (sk = 1)))] <| x_nil <| x_then ?_
  cases h1 : decide (sk = 1)
  · skip
    have h1p := of_decide_eq_false h1
    refine x_f (by kernel_rfl) <| x_seq <| x_region <| x_b H [.v (.bool (decide (sk = 2))), .v (.bool (decide (sk = 2)))] <| x_nil <| x_then ?_
    cases h2 : decide (sk = 2)
    · skip
      have h2p := of_decide_eq_false h2
      refine x_f (by kernel_rfl) <| x_seq <| x_region <| x_b H [.v (.bool (decide (sk = 3))), .v (.bool (decide (sk = 3)))] <| x_nil <| x_then ?_
      cases h3 : decide (sk = 3)
      · skip
        have h3p := of_decide_eq_false h3
        refine x_f (by kernel_rfl) <| x_seq <| x_seq <| x_region <| x_b H [.v (.bool (decide (sk = 4))), .v (.bool (decide (sk = 4)))] <| x_nil <| x_then ?_
        cases h4 : decide (sk = 4)
        · skip
          have h4p := of_decide_eq_false h4
          refine x_f (by kernel_rfl) <| x_seq <| x_region <| x_b H [.v (.bool (decide (sk = 5))), .v (.bool (decide (sk = 5)))] <| x_nil <| x_then ?_
          cases h5 : decide (sk = 5)
          · skip
            have h5p := of_decide_eq_false h5
            refine x_f (by kernel_rfl) <| x_seq <| x_region <| x_b H [.v (.bool (decide (sk = 6))), .v (.bool (decide (sk = 6)))] <| x_nil <| x_then ?_
            cases h6 : decide (sk = 6)
            · skip
              have h6p := of_decide_eq_false h6
              refine x_f (by kernel_rfl) <| x_region <| x_b H [.v (.bool (decide (sk = 7))), .v (.bool (decide (sk = 7)))] <| x_nil <| x_then ?_
              cases h7 : decide (sk = 7)
              · skip
                have h7p := of_decide_eq_false h7
                refine x_f (by kernel_rfl) <| x_seq <| x_region <| x_b H [.v (.bool (decide (sk = 8))), .v (.bool (decide (sk = 8)))] <| x_nil <| x_then ?_
                cases h8 : decide (sk = 8)
                · skip
                  have h8p := of_decide_eq_false h8
                  refine x_f (by kernel_rfl) <| x_seq <| x_region <| x_b H [.m, .m] <| x_nil <| x_then <| x_retc ?_
                  refine x_blk_ret <| x_then_ret <| x_ret (.tuple #[S ([] : List UInt8), .bool false]) (by kernel_rfl) (by kernel_rfl) ?_
                  exact ⟨rfl, H.below⟩
                have h8p := of_decide_eq_true h8
                exact absurd h8p (by omega)
              have h7p := of_decide_eq_true h7
              exact absurd h7p (by omega)
            have h6p := of_decide_eq_true h6
            exact absurd h6p (by omega)
          have h5p := of_decide_eq_true h5
          exact absurd h5p (by omega)
        have h4p := of_decide_eq_true h4
        exact absurd h4p (by omega)
      have h3p := of_decide_eq_true h3
      exact absurd h3p (by omega)
    have h2p := of_decide_eq_true h2
    exact absurd h2p (by omega)
  have h1p := of_decide_eq_true h1
  exact absurd h1p (by omega)
theorem Rng.f {sl : Int} {sd : Nat → Nat} {sm : Nat} {fk rk bk ro co ch bi va : Int} (hx : Rng ⟨8, sl, sd, sm, fk, rk, bk, ro, co, ch, bi, va⟩) : Rng ⟨8, 0, fun _ => 0, 0, fk, rk, bk, ro, co, ch, bi, va⟩ :=
  ⟨hx.k, (show I64 0 by unfold I64; omega), (fun _ _ => show (0 : Nat) < 256 by decide), (show (0 : Nat) < 18446744073709551616 by decide), hx.fk, hx.rk, hx.bk, hx.ro, hx.co, hx.ch, hx.bi, hx.va⟩
set_option maxRecDepth 100000 in
set_option maxHeartbeats 4000000 in
theorem shown_8y1 {sl rk bk ro co ch bi va : Int} {sd : Nat → Nat} {sm : Nat} (hx : Rng (⟨8, sl, sd, sm, 1, rk, bk, ro, co, ch, bi, va⟩ : Stp)) (hz : (ch = 0 ∧ va = 0)) (w0 : World) :
    Calls Tryd.prog 16 #[.agg (stepA ⟨8, sl, sd, sm, 1, rk, bk, ro, co, ch, bi, va⟩)] w0 fun e w' => e = .returned (.tuple #[S (txtS (⟨8, sl, sd, sm, 1, rk, bk, ro, co, ch, bi, va⟩ : Stp)), .bool (decide (SEQ (⟨8, sl, sd, sm, 1, rk, bk, ro, co, ch, bi, va⟩ : Stp) (⟨8, 0, (fun _ => 0), 0, 1, rk, bk, ro, co, ch, bi, va⟩ : Stp)))]) ∧ Below w0.heap.size w0 w' := by
  refine z_enter Tryd.func16 rfl ?_
  have H := Hs.nil w0
  refine x_seq <| x_region <| z_box H (stepA ⟨8, sl, sd, sm, 1, rk, bk, ro, co, ch, bi, va⟩) 41 (fun v1 g1 H => ?_)
  refine x_b H [.m, .m] <| x_nil <| x_then <| x_seq <| x_region <| x_b H [.m, .l 0 0, .m] <| z_box H (stepA ⟨0, 0, (fun _ => 0), 0, 0, 0, 0, 0, 0, 0, 0, 0⟩) 41 (fun v2 g2 H => ?_)
  refine z_store H 0 0 ((stepA ⟨8, 0, (fun _ => 0), 0, 0, 0, 0, 0, 0, 0, 0, 0⟩)).toList (fun v3 H => ?_)
  refine x_nil <| x_then <| x_seq <| x_region <| x_b H [.m] <| x_nil <| x_then ?_
  refine x_seq <| x_seq <| x_region <| x_b H [.m, .l 1 0] <| x_nil <| x_then <| x_block ?_
  refine x_seq <| x_region <| x_b H [.m, .m] <| x_nil <| x_then <| x_f (by kernel_rfl) <| x_seq ?_
  refine x_region <| x_b H [.m, .m] <| x_nil <| x_then <| x_f (by kernel_rfl) <| x_seq <| x_region ?_
  refine x_b H [.m, .m] <| x_nil <| x_then <| x_f (by kernel_rfl) <| x_seq <| x_seq <| x_region ?_
  refine x_b H [.m, .m] <| x_nil <| x_then <| x_f (by kernel_rfl) <| x_seq <| x_region <| x_b H [.m, .m] ?_
  refine x_nil <| x_then <| x_f (by kernel_rfl) <| x_seq <| x_region <| x_b H [.m, .m] <| x_nil ?_
  refine x_then <| x_f (by kernel_rfl) <| x_region <| x_b H [.m, .m] <| x_nil <| x_then <| x_f (by kernel_rfl) ?_
  refine x_seq <| x_region <| x_b H [.m, .m] <| x_nil <| x_then <| x_t (by kernel_rfl) <| x_seq ?_
  refine x_region <| x_b H [.m, .n 1 67 8 39, .m] <| z_store H 0 67 [.int .i64 1, .int .i64 rk, .int .i64 bk, .int .i64 ro, .int .i64 co, .int .i64 ch, .int .i64 bi, .int .i64 va] (fun v4 H => ?_)
  refine x_nil <| x_then <| x_seq <| x_region <| x_b H [.m, .n 1 67 8 39] <| z_callB H (broken_y1 hx.f hz _) fun v5 H => x_b H [.m, .m, .m, .m, .m] ?_
  refine x_nil <| x_then <| x_seq <| x_seq <| x_region <| x_b H [.m, .m] <| x_nil ?_
  refine z_fr 91 [(1, .pointer (some ⟨g1, 0, none⟩)), (4, .pointer (some ⟨g2, 0, none⟩)), (6, S (txtS (⟨8, 0, (fun _ => 0), 0, 1, rk, bk, ro, co, ch, bi, va⟩ : Stp))), (85, .bool false)] [] fun uf1 => x_then <| x_f (by kernel_rfl) <| x_skipc <| x_then <| x_region <| x_b H [.m, .m] ?_
  refine x_nil <| x_blk <| x_then <| x_seq <| z_region_whole H <| q_b [.m, .n 1 0 75 41, .n 0 0 75 41] <| q_val (.bool (decide (SEQ ⟨8, sl, sd, sm, 1, rk, bk, ro, co, ch, bi, va⟩ ⟨8, 0, (fun _ => 0), 0, 1, rk, bk, ro, co, ch, bi, va⟩))) (by kernel_rfl) (fun _ => (run_eqT (P := Tryd.prog) (t := 41) (x := .tmp 88) (y := .tmp 89) (xs := stepA ⟨8, sl, sd, sm, 1, rk, bk, ro, co, ch, bi, va⟩) (ys := stepA ⟨8, 0, (fun _ => 0), 0, 1, rk, bk, ro, co, ch, bi, va⟩) (B := decide (SEQ ⟨8, sl, sd, sm, 1, rk, bk, ro, co, ch, bi, va⟩ ⟨8, 0, (fun _ => 0), 0, 1, rk, bk, ro, co, ch, bi, va⟩)) (by kernel_rfl) (by kernel_rfl) (stepEq ⟨8, sl, sd, sm, 1, rk, bk, ro, co, ch, bi, va⟩ ⟨8, 0, (fun _ => 0), 0, 1, rk, bk, ro, co, ch, bi, va⟩))) ?_
  refine q_b [.m, .v (.bool (decide (SEQ ⟨8, sl, sd, sm, 1, rk, bk, ro, co, ch, bi, va⟩ ⟨8, 0, (fun _ => 0), 0, 1, rk, bk, ro, co, ch, bi, va⟩)))] <| q_nil ?_
  clear H
  intro v6 H
  refine x_then <| x_retc <| x_ret (.tuple #[S (txtS (⟨8, 0, (fun _ => 0), 0, 1, rk, bk, ro, co, ch, bi, va⟩ : Stp)), .bool (decide (SEQ ⟨8, sl, sd, sm, 1, rk, bk, ro, co, ch, bi, va⟩ ⟨8, 0, (fun _ => 0), 0, 1, rk, bk, ro, co, ch, bi, va⟩))]) (by kernel_rfl) (by kernel_rfl) ?_
  exact ⟨rfl, H.below⟩
set_option maxRecDepth 100000 in
set_option maxHeartbeats 4000000 in
theorem shown_8n1 {sl rk bk ro co ch bi va : Int} {sd : Nat → Nat} {sm : Nat} (hx : Rng (⟨8, sl, sd, sm, 1, rk, bk, ro, co, ch, bi, va⟩ : Stp)) (hz : ¬ (ch = 0 ∧ va = 0)) (w0 : World) :
    Calls Tryd.prog 16 #[.agg (stepA ⟨8, sl, sd, sm, 1, rk, bk, ro, co, ch, bi, va⟩)] w0 fun e w' => e = .returned (.tuple #[S [], .bool false]) ∧ Below w0.heap.size w0 w' := by
  refine z_enter Tryd.func16 rfl ?_
  have H := Hs.nil w0
  refine x_seq <| x_region <| z_box H (stepA ⟨8, sl, sd, sm, 1, rk, bk, ro, co, ch, bi, va⟩) 41 (fun v1 g1 H => ?_)
  refine x_b H [.m, .m] <| x_nil <| x_then <| x_seq <| x_region <| x_b H [.m, .l 0 0, .m] <| z_box H (stepA ⟨0, 0, (fun _ => 0), 0, 0, 0, 0, 0, 0, 0, 0, 0⟩) 41 (fun v2 g2 H => ?_)
  refine z_store H 0 0 ((stepA ⟨8, 0, (fun _ => 0), 0, 0, 0, 0, 0, 0, 0, 0, 0⟩)).toList (fun v3 H => ?_)
  refine x_nil <| x_then <| x_seq <| x_region <| x_b H [.m] <| x_nil <| x_then ?_
  refine x_seq <| x_seq <| x_region <| x_b H [.m, .l 1 0] <| x_nil <| x_then <| x_block ?_
  refine x_seq <| x_region <| x_b H [.m, .m] <| x_nil <| x_then <| x_f (by kernel_rfl) <| x_seq ?_
  refine x_region <| x_b H [.m, .m] <| x_nil <| x_then <| x_f (by kernel_rfl) <| x_seq <| x_region ?_
  refine x_b H [.m, .m] <| x_nil <| x_then <| x_f (by kernel_rfl) <| x_seq <| x_seq <| x_region ?_
  refine x_b H [.m, .m] <| x_nil <| x_then <| x_f (by kernel_rfl) <| x_seq <| x_region <| x_b H [.m, .m] ?_
  refine x_nil <| x_then <| x_f (by kernel_rfl) <| x_seq <| x_region <| x_b H [.m, .m] <| x_nil ?_
  refine x_then <| x_f (by kernel_rfl) <| x_region <| x_b H [.m, .m] <| x_nil <| x_then <| x_f (by kernel_rfl) ?_
  refine x_seq <| x_region <| x_b H [.m, .m] <| x_nil <| x_then <| x_t (by kernel_rfl) <| x_seq ?_
  refine x_region <| x_b H [.m, .n 1 67 8 39, .m] <| z_store H 0 67 [.int .i64 1, .int .i64 rk, .int .i64 bk, .int .i64 ro, .int .i64 co, .int .i64 ch, .int .i64 bi, .int .i64 va] (fun v4 H => ?_)
  refine x_nil <| x_then <| x_seq <| x_region <| x_b H [.m, .n 1 67 8 39] <| z_callB H (broken_n1 hx.f hz _) fun v5 H => x_b H [.m, .m, .m, .m, .m] ?_
  refine x_nil <| x_then <| x_seq <| x_seq <| x_region <| x_b H [.m, .m] <| x_nil ?_
  refine z_fr 91 [(1, .pointer (some ⟨g1, 0, none⟩)), (4, .pointer (some ⟨g2, 0, none⟩)), (6, S ([] : List UInt8)), (85, .bool true)] [] fun uf1 => x_then <| x_t (by kernel_rfl) <| x_seq <| x_region <| x_b H [.m, .m] <| x_nil ?_
  refine x_then <| x_retc <| x_then_ret <| x_blk_ret <| x_then_ret <| x_ret (.tuple #[S ([] : List UInt8), .bool false]) (by kernel_rfl) (by kernel_rfl) ?_
  exact ⟨rfl, H.below⟩
set_option maxRecDepth 100000 in
set_option maxHeartbeats 4000000 in
theorem shown_8y2 {sl rk bk ro co ch bi va : Int} {sd : Nat → Nat} {sm : Nat} (hx : Rng (⟨8, sl, sd, sm, 2, rk, bk, ro, co, ch, bi, va⟩ : Stp)) (hz : (ch = 0)) (w0 : World) :
    Calls Tryd.prog 16 #[.agg (stepA ⟨8, sl, sd, sm, 2, rk, bk, ro, co, ch, bi, va⟩)] w0 fun e w' => e = .returned (.tuple #[S (txtS (⟨8, sl, sd, sm, 2, rk, bk, ro, co, ch, bi, va⟩ : Stp)), .bool (decide (SEQ (⟨8, sl, sd, sm, 2, rk, bk, ro, co, ch, bi, va⟩ : Stp) (⟨8, 0, (fun _ => 0), 0, 2, rk, bk, ro, co, ch, bi, va⟩ : Stp)))]) ∧ Below w0.heap.size w0 w' := by
  refine z_enter Tryd.func16 rfl ?_
  have H := Hs.nil w0
  refine x_seq <| x_region <| z_box H (stepA ⟨8, sl, sd, sm, 2, rk, bk, ro, co, ch, bi, va⟩) 41 (fun v1 g1 H => ?_)
  refine x_b H [.m, .m] <| x_nil <| x_then <| x_seq <| x_region <| x_b H [.m, .l 0 0, .m] <| z_box H (stepA ⟨0, 0, (fun _ => 0), 0, 0, 0, 0, 0, 0, 0, 0, 0⟩) 41 (fun v2 g2 H => ?_)
  refine z_store H 0 0 ((stepA ⟨8, 0, (fun _ => 0), 0, 0, 0, 0, 0, 0, 0, 0, 0⟩)).toList (fun v3 H => ?_)
  refine x_nil <| x_then <| x_seq <| x_region <| x_b H [.m] <| x_nil <| x_then ?_
  refine x_seq <| x_seq <| x_region <| x_b H [.m, .l 1 0] <| x_nil <| x_then <| x_block ?_
  refine x_seq <| x_region <| x_b H [.m, .m] <| x_nil <| x_then <| x_f (by kernel_rfl) <| x_seq ?_
  refine x_region <| x_b H [.m, .m] <| x_nil <| x_then <| x_f (by kernel_rfl) <| x_seq <| x_region ?_
  refine x_b H [.m, .m] <| x_nil <| x_then <| x_f (by kernel_rfl) <| x_seq <| x_seq <| x_region ?_
  refine x_b H [.m, .m] <| x_nil <| x_then <| x_f (by kernel_rfl) <| x_seq <| x_region <| x_b H [.m, .m] ?_
  refine x_nil <| x_then <| x_f (by kernel_rfl) <| x_seq <| x_region <| x_b H [.m, .m] <| x_nil ?_
  refine x_then <| x_f (by kernel_rfl) <| x_region <| x_b H [.m, .m] <| x_nil <| x_then <| x_f (by kernel_rfl) ?_
  refine x_seq <| x_region <| x_b H [.m, .m] <| x_nil <| x_then <| x_t (by kernel_rfl) <| x_seq ?_
  refine x_region <| x_b H [.m, .n 1 67 8 39, .m] <| z_store H 0 67 [.int .i64 2, .int .i64 rk, .int .i64 bk, .int .i64 ro, .int .i64 co, .int .i64 ch, .int .i64 bi, .int .i64 va] (fun v4 H => ?_)
  refine x_nil <| x_then <| x_seq <| x_region <| x_b H [.m, .n 1 67 8 39] <| z_callB H (broken_y2 hx.f hz _) fun v5 H => x_b H [.m, .m, .m, .m, .m] ?_
  refine x_nil <| x_then <| x_seq <| x_seq <| x_region <| x_b H [.m, .m] <| x_nil ?_
  refine z_fr 91 [(1, .pointer (some ⟨g1, 0, none⟩)), (4, .pointer (some ⟨g2, 0, none⟩)), (6, S (txtS (⟨8, 0, (fun _ => 0), 0, 2, rk, bk, ro, co, ch, bi, va⟩ : Stp))), (85, .bool false)] [] fun uf1 => x_then <| x_f (by kernel_rfl) <| x_skipc <| x_then <| x_region <| x_b H [.m, .m] ?_
  refine x_nil <| x_blk <| x_then <| x_seq <| z_region_whole H <| q_b [.m, .n 1 0 75 41, .n 0 0 75 41] <| q_val (.bool (decide (SEQ ⟨8, sl, sd, sm, 2, rk, bk, ro, co, ch, bi, va⟩ ⟨8, 0, (fun _ => 0), 0, 2, rk, bk, ro, co, ch, bi, va⟩))) (by kernel_rfl) (fun _ => (run_eqT (P := Tryd.prog) (t := 41) (x := .tmp 88) (y := .tmp 89) (xs := stepA ⟨8, sl, sd, sm, 2, rk, bk, ro, co, ch, bi, va⟩) (ys := stepA ⟨8, 0, (fun _ => 0), 0, 2, rk, bk, ro, co, ch, bi, va⟩) (B := decide (SEQ ⟨8, sl, sd, sm, 2, rk, bk, ro, co, ch, bi, va⟩ ⟨8, 0, (fun _ => 0), 0, 2, rk, bk, ro, co, ch, bi, va⟩)) (by kernel_rfl) (by kernel_rfl) (stepEq ⟨8, sl, sd, sm, 2, rk, bk, ro, co, ch, bi, va⟩ ⟨8, 0, (fun _ => 0), 0, 2, rk, bk, ro, co, ch, bi, va⟩))) ?_
  refine q_b [.m, .v (.bool (decide (SEQ ⟨8, sl, sd, sm, 2, rk, bk, ro, co, ch, bi, va⟩ ⟨8, 0, (fun _ => 0), 0, 2, rk, bk, ro, co, ch, bi, va⟩)))] <| q_nil ?_
  clear H
  intro v6 H
  refine x_then <| x_retc <| x_ret (.tuple #[S (txtS (⟨8, 0, (fun _ => 0), 0, 2, rk, bk, ro, co, ch, bi, va⟩ : Stp)), .bool (decide (SEQ ⟨8, sl, sd, sm, 2, rk, bk, ro, co, ch, bi, va⟩ ⟨8, 0, (fun _ => 0), 0, 2, rk, bk, ro, co, ch, bi, va⟩))]) (by kernel_rfl) (by kernel_rfl) ?_
  exact ⟨rfl, H.below⟩
set_option maxRecDepth 100000 in
set_option maxHeartbeats 4000000 in
theorem shown_8n2 {sl rk bk ro co ch bi va : Int} {sd : Nat → Nat} {sm : Nat} (hx : Rng (⟨8, sl, sd, sm, 2, rk, bk, ro, co, ch, bi, va⟩ : Stp)) (hz : ¬ (ch = 0)) (w0 : World) :
    Calls Tryd.prog 16 #[.agg (stepA ⟨8, sl, sd, sm, 2, rk, bk, ro, co, ch, bi, va⟩)] w0 fun e w' => e = .returned (.tuple #[S [], .bool false]) ∧ Below w0.heap.size w0 w' := by
  refine z_enter Tryd.func16 rfl ?_
  have H := Hs.nil w0
  refine x_seq <| x_region <| z_box H (stepA ⟨8, sl, sd, sm, 2, rk, bk, ro, co, ch, bi, va⟩) 41 (fun v1 g1 H => ?_)
  refine x_b H [.m, .m] <| x_nil <| x_then <| x_seq <| x_region <| x_b H [.m, .l 0 0, .m] <| z_box H (stepA ⟨0, 0, (fun _ => 0), 0, 0, 0, 0, 0, 0, 0, 0, 0⟩) 41 (fun v2 g2 H => ?_)
  refine z_store H 0 0 ((stepA ⟨8, 0, (fun _ => 0), 0, 0, 0, 0, 0, 0, 0, 0, 0⟩)).toList (fun v3 H => ?_)
  refine x_nil <| x_then <| x_seq <| x_region <| x_b H [.m] <| x_nil <| x_then ?_
  refine x_seq <| x_seq <| x_region <| x_b H [.m, .l 1 0] <| x_nil <| x_then <| x_block ?_
  refine x_seq <| x_region <| x_b H [.m, .m] <| x_nil <| x_then <| x_f (by kernel_rfl) <| x_seq ?_
  refine x_region <| x_b H [.m, .m] <| x_nil <| x_then <| x_f (by kernel_rfl) <| x_seq <| x_region ?_
  refine x_b H [.m, .m] <| x_nil <| x_then <| x_f (by kernel_rfl) <| x_seq <| x_seq <| x_region ?_
  refine x_b H [.m, .m] <| x_nil <| x_then <| x_f (by kernel_rfl) <| x_seq <| x_region <| x_b H [.m, .m] ?_
  refine x_nil <| x_then <| x_f (by kernel_rfl) <| x_seq <| x_region <| x_b H [.m, .m] <| x_nil ?_
  refine x_then <| x_f (by kernel_rfl) <| x_region <| x_b H [.m, .m] <| x_nil <| x_then <| x_f (by kernel_rfl) ?_
  refine x_seq <| x_region <| x_b H [.m, .m] <| x_nil <| x_then <| x_t (by kernel_rfl) <| x_seq ?_
  refine x_region <| x_b H [.m, .n 1 67 8 39, .m] <| z_store H 0 67 [.int .i64 2, .int .i64 rk, .int .i64 bk, .int .i64 ro, .int .i64 co, .int .i64 ch, .int .i64 bi, .int .i64 va] (fun v4 H => ?_)
  refine x_nil <| x_then <| x_seq <| x_region <| x_b H [.m, .n 1 67 8 39] <| z_callB H (broken_n2 hx.f hz _) fun v5 H => x_b H [.m, .m, .m, .m, .m] ?_
  refine x_nil <| x_then <| x_seq <| x_seq <| x_region <| x_b H [.m, .m] <| x_nil ?_
  refine z_fr 91 [(1, .pointer (some ⟨g1, 0, none⟩)), (4, .pointer (some ⟨g2, 0, none⟩)), (6, S ([] : List UInt8)), (85, .bool true)] [] fun uf1 => x_then <| x_t (by kernel_rfl) <| x_seq <| x_region <| x_b H [.m, .m] <| x_nil ?_
  refine x_then <| x_retc <| x_then_ret <| x_blk_ret <| x_then_ret <| x_ret (.tuple #[S ([] : List UInt8), .bool false]) (by kernel_rfl) (by kernel_rfl) ?_
  exact ⟨rfl, H.below⟩
set_option maxRecDepth 100000 in
set_option maxHeartbeats 4000000 in
theorem shown_8y3 {sl rk bk ro co ch bi va : Int} {sd : Nat → Nat} {sm : Nat} (hx : Rng (⟨8, sl, sd, sm, 3, rk, bk, ro, co, ch, bi, va⟩ : Stp)) (hz : (co = 0 ∧ bi = 0)) (w0 : World) :
    Calls Tryd.prog 16 #[.agg (stepA ⟨8, sl, sd, sm, 3, rk, bk, ro, co, ch, bi, va⟩)] w0 fun e w' => e = .returned (.tuple #[S (txtS (⟨8, sl, sd, sm, 3, rk, bk, ro, co, ch, bi, va⟩ : Stp)), .bool (decide (SEQ (⟨8, sl, sd, sm, 3, rk, bk, ro, co, ch, bi, va⟩ : Stp) (⟨8, 0, (fun _ => 0), 0, 3, rk, bk, ro, co, ch, bi, va⟩ : Stp)))]) ∧ Below w0.heap.size w0 w' := by
  refine z_enter Tryd.func16 rfl ?_
  have H := Hs.nil w0
  refine x_seq <| x_region <| z_box H (stepA ⟨8, sl, sd, sm, 3, rk, bk, ro, co, ch, bi, va⟩) 41 (fun v1 g1 H => ?_)
  refine x_b H [.m, .m] <| x_nil <| x_then <| x_seq <| x_region <| x_b H [.m, .l 0 0, .m] <| z_box H (stepA ⟨0, 0, (fun _ => 0), 0, 0, 0, 0, 0, 0, 0, 0, 0⟩) 41 (fun v2 g2 H => ?_)
  refine z_store H 0 0 ((stepA ⟨8, 0, (fun _ => 0), 0, 0, 0, 0, 0, 0, 0, 0, 0⟩)).toList (fun v3 H => ?_)
  refine x_nil <| x_then <| x_seq <| x_region <| x_b H [.m] <| x_nil <| x_then ?_
  refine x_seq <| x_seq <| x_region <| x_b H [.m, .l 1 0] <| x_nil <| x_then <| x_block ?_
  refine x_seq <| x_region <| x_b H [.m, .m] <| x_nil <| x_then <| x_f (by kernel_rfl) <| x_seq ?_
  refine x_region <| x_b H [.m, .m] <| x_nil <| x_then <| x_f (by kernel_rfl) <| x_seq <| x_region ?_
  refine x_b H [.m, .m] <| x_nil <| x_then <| x_f (by kernel_rfl) <| x_seq <| x_seq <| x_region ?_
  refine x_b H [.m, .m] <| x_nil <| x_then <| x_f (by kernel_rfl) <| x_seq <| x_region <| x_b H [.m, .m] ?_
  refine x_nil <| x_then <| x_f (by kernel_rfl) <| x_seq <| x_region <| x_b H [.m, .m] <| x_nil ?_
  refine x_then <| x_f (by kernel_rfl) <| x_region <| x_b H [.m, .m] <| x_nil <| x_then <| x_f (by kernel_rfl) ?_
  refine x_seq <| x_region <| x_b H [.m, .m] <| x_nil <| x_then <| x_t (by kernel_rfl) <| x_seq ?_
  refine x_region <| x_b H [.m, .n 1 67 8 39, .m] <| z_store H 0 67 [.int .i64 3, .int .i64 rk, .int .i64 bk, .int .i64 ro, .int .i64 co, .int .i64 ch, .int .i64 bi, .int .i64 va] (fun v4 H => ?_)
  refine x_nil <| x_then <| x_seq <| x_region <| x_b H [.m, .n 1 67 8 39] <| z_callB H (broken_y3 hx.f hz _) fun v5 H => x_b H [.m, .m, .m, .m, .m] ?_
  refine x_nil <| x_then <| x_seq <| x_seq <| x_region <| x_b H [.m, .m] <| x_nil ?_
  refine z_fr 91 [(1, .pointer (some ⟨g1, 0, none⟩)), (4, .pointer (some ⟨g2, 0, none⟩)), (6, S (txtS (⟨8, 0, (fun _ => 0), 0, 3, rk, bk, ro, co, ch, bi, va⟩ : Stp))), (85, .bool false)] [] fun uf1 => x_then <| x_f (by kernel_rfl) <| x_skipc <| x_then <| x_region <| x_b H [.m, .m] ?_
  refine x_nil <| x_blk <| x_then <| x_seq <| z_region_whole H <| q_b [.m, .n 1 0 75 41, .n 0 0 75 41] <| q_val (.bool (decide (SEQ ⟨8, sl, sd, sm, 3, rk, bk, ro, co, ch, bi, va⟩ ⟨8, 0, (fun _ => 0), 0, 3, rk, bk, ro, co, ch, bi, va⟩))) (by kernel_rfl) (fun _ => (run_eqT (P := Tryd.prog) (t := 41) (x := .tmp 88) (y := .tmp 89) (xs := stepA ⟨8, sl, sd, sm, 3, rk, bk, ro, co, ch, bi, va⟩) (ys := stepA ⟨8, 0, (fun _ => 0), 0, 3, rk, bk, ro, co, ch, bi, va⟩) (B := decide (SEQ ⟨8, sl, sd, sm, 3, rk, bk, ro, co, ch, bi, va⟩ ⟨8, 0, (fun _ => 0), 0, 3, rk, bk, ro, co, ch, bi, va⟩)) (by kernel_rfl) (by kernel_rfl) (stepEq ⟨8, sl, sd, sm, 3, rk, bk, ro, co, ch, bi, va⟩ ⟨8, 0, (fun _ => 0), 0, 3, rk, bk, ro, co, ch, bi, va⟩))) ?_
  refine q_b [.m, .v (.bool (decide (SEQ ⟨8, sl, sd, sm, 3, rk, bk, ro, co, ch, bi, va⟩ ⟨8, 0, (fun _ => 0), 0, 3, rk, bk, ro, co, ch, bi, va⟩)))] <| q_nil ?_
  clear H
  intro v6 H
  refine x_then <| x_retc <| x_ret (.tuple #[S (txtS (⟨8, 0, (fun _ => 0), 0, 3, rk, bk, ro, co, ch, bi, va⟩ : Stp)), .bool (decide (SEQ ⟨8, sl, sd, sm, 3, rk, bk, ro, co, ch, bi, va⟩ ⟨8, 0, (fun _ => 0), 0, 3, rk, bk, ro, co, ch, bi, va⟩))]) (by kernel_rfl) (by kernel_rfl) ?_
  exact ⟨rfl, H.below⟩
set_option maxRecDepth 100000 in
set_option maxHeartbeats 4000000 in
theorem shown_8n3 {sl rk bk ro co ch bi va : Int} {sd : Nat → Nat} {sm : Nat} (hx : Rng (⟨8, sl, sd, sm, 3, rk, bk, ro, co, ch, bi, va⟩ : Stp)) (hz : ¬ (co = 0 ∧ bi = 0)) (w0 : World) :
    Calls Tryd.prog 16 #[.agg (stepA ⟨8, sl, sd, sm, 3, rk, bk, ro, co, ch, bi, va⟩)] w0 fun e w' => e = .returned (.tuple #[S [], .bool false]) ∧ Below w0.heap.size w0 w' := by
  refine z_enter Tryd.func16 rfl ?_
  have H := Hs.nil w0
  refine x_seq <| x_region <| z_box H (stepA ⟨8, sl, sd, sm, 3, rk, bk, ro, co, ch, bi, va⟩) 41 (fun v1 g1 H => ?_)
  refine x_b H [.m, .m] <| x_nil <| x_then <| x_seq <| x_region <| x_b H [.m, .l 0 0, .m] <| z_box H (stepA ⟨0, 0, (fun _ => 0), 0, 0, 0, 0, 0, 0, 0, 0, 0⟩) 41 (fun v2 g2 H => ?_)
  refine z_store H 0 0 ((stepA ⟨8, 0, (fun _ => 0), 0, 0, 0, 0, 0, 0, 0, 0, 0⟩)).toList (fun v3 H => ?_)
  refine x_nil <| x_then <| x_seq <| x_region <| x_b H [.m] <| x_nil <| x_then ?_
  refine x_seq <| x_seq <| x_region <| x_b H [.m, .l 1 0] <| x_nil <| x_then <| x_block ?_
  refine x_seq <| x_region <| x_b H [.m, .m] <| x_nil <| x_then <| x_f (by kernel_rfl) <| x_seq ?_
  refine x_region <| x_b H [.m, .m] <| x_nil <| x_then <| x_f (by kernel_rfl) <| x_seq <| x_region ?_
  refine x_b H [.m, .m] <| x_nil <| x_then <| x_f (by kernel_rfl) <| x_seq <| x_seq <| x_region ?_
  refine x_b H [.m, .m] <| x_nil <| x_then <| x_f (by kernel_rfl) <| x_seq <| x_region <| x_b H [.m, .m] ?_
  refine x_nil <| x_then <| x_f (by kernel_rfl) <| x_seq <| x_region <| x_b H [.m, .m] <| x_nil ?_
  refine x_then <| x_f (by kernel_rfl) <| x_region <| x_b H [.m, .m] <| x_nil <| x_then <| x_f (by kernel_rfl) ?_
  refine x_seq <| x_region <| x_b H [.m, .m] <| x_nil <| x_then <| x_t (by kernel_rfl) <| x_seq ?_
  refine x_region <| x_b H [.m, .n 1 67 8 39, .m] <| z_store H 0 67 [.int .i64 3, .int .i64 rk, .int .i64 bk, .int .i64 ro, .int .i64 co, .int .i64 ch, .int .i64 bi, .int .i64 va] (fun v4 H => ?_)
  refine x_nil <| x_then <| x_seq <| x_region <| x_b H [.m, .n 1 67 8 39] <| z_callB H (broken_n3 hx.f hz _) fun v5 H => x_b H [.m, .m, .m, .m, .m] ?_
  refine x_nil <| x_then <| x_seq <| x_seq <| x_region <| x_b H [.m, .m] <| x_nil ?_
  refine z_fr 91 [(1, .pointer (some ⟨g1, 0, none⟩)), (4, .pointer (some ⟨g2, 0, none⟩)), (6, S ([] : List UInt8)), (85, .bool true)] [] fun uf1 => x_then <| x_t (by kernel_rfl) <| x_seq <| x_region <| x_b H [.m, .m] <| x_nil ?_
  refine x_then <| x_retc <| x_then_ret <| x_blk_ret <| x_then_ret <| x_ret (.tuple #[S ([] : List UInt8), .bool false]) (by kernel_rfl) (by kernel_rfl) ?_
  exact ⟨rfl, H.below⟩
set_option maxRecDepth 100000 in
set_option maxHeartbeats 4000000 in
theorem shown_8y4 {sl rk bk ro co ch bi va : Int} {sd : Nat → Nat} {sm : Nat} (hx : Rng (⟨8, sl, sd, sm, 4, rk, bk, ro, co, ch, bi, va⟩ : Stp)) (hz : (ro = 0 ∧ bi = 0)) (w0 : World) :
    Calls Tryd.prog 16 #[.agg (stepA ⟨8, sl, sd, sm, 4, rk, bk, ro, co, ch, bi, va⟩)] w0 fun e w' => e = .returned (.tuple #[S (txtS (⟨8, sl, sd, sm, 4, rk, bk, ro, co, ch, bi, va⟩ : Stp)), .bool (decide (SEQ (⟨8, sl, sd, sm, 4, rk, bk, ro, co, ch, bi, va⟩ : Stp) (⟨8, 0, (fun _ => 0), 0, 4, rk, bk, ro, co, ch, bi, va⟩ : Stp)))]) ∧ Below w0.heap.size w0 w' := by
  refine z_enter Tryd.func16 rfl ?_
  have H := Hs.nil w0
  refine x_seq <| x_region <| z_box H (stepA ⟨8, sl, sd, sm, 4, rk, bk, ro, co, ch, bi, va⟩) 41 (fun v1 g1 H => ?_)
  refine x_b H [.m, .m] <| x_nil <| x_then <| x_seq <| x_region <| x_b H [.m, .l 0 0, .m] <| z_box H (stepA ⟨0, 0, (fun _ => 0), 0, 0, 0, 0, 0, 0, 0, 0, 0⟩) 41 (fun v2 g2 H => ?_)
  refine z_store H 0 0 ((stepA ⟨8, 0, (fun _ => 0), 0, 0, 0, 0, 0, 0, 0, 0, 0⟩)).toList (fun v3 H => ?_)
  refine x_nil <| x_then <| x_seq <| x_region <| x_b H [.m] <| x_nil <| x_then ?_
  refine x_seq <| x_seq <| x_region <| x_b H [.m, .l 1 0] <| x_nil <| x_then <| x_block ?_
  refine x_seq <| x_region <| x_b H [.m, .m] <| x_nil <| x_then <| x_f (by kernel_rfl) <| x_seq ?_
  refine x_region <| x_b H [.m, .m] <| x_nil <| x_then <| x_f (by kernel_rfl) <| x_seq <| x_region ?_
  refine x_b H [.m, .m] <| x_nil <| x_then <| x_f (by kernel_rfl) <| x_seq <| x_seq <| x_region ?_
  refine x_b H [.m, .m] <| x_nil <| x_then <| x_f (by kernel_rfl) <| x_seq <| x_region <| x_b H [.m, .m] ?_
  refine x_nil <| x_then <| x_f (by kernel_rfl) <| x_seq <| x_region <| x_b H [.m, .m] <| x_nil ?_
  refine x_then <| x_f (by kernel_rfl) <| x_region <| x_b H [.m, .m] <| x_nil <| x_then <| x_f (by kernel_rfl) ?_
  refine x_seq <| x_region <| x_b H [.m, .m] <| x_nil <| x_then <| x_t (by kernel_rfl) <| x_seq ?_
  refine x_region <| x_b H [.m, .n 1 67 8 39, .m] <| z_store H 0 67 [.int .i64 4, .int .i64 rk, .int .i64 bk, .int .i64 ro, .int .i64 co, .int .i64 ch, .int .i64 bi, .int .i64 va] (fun v4 H => ?_)
  refine x_nil <| x_then <| x_seq <| x_region <| x_b H [.m, .n 1 67 8 39] <| z_callB H (broken_y4 hx.f hz _) fun v5 H => x_b H [.m, .m, .m, .m, .m] ?_
  refine x_nil <| x_then <| x_seq <| x_seq <| x_region <| x_b H [.m, .m] <| x_nil ?_
  refine z_fr 91 [(1, .pointer (some ⟨g1, 0, none⟩)), (4, .pointer (some ⟨g2, 0, none⟩)), (6, S (txtS (⟨8, 0, (fun _ => 0), 0, 4, rk, bk, ro, co, ch, bi, va⟩ : Stp))), (85, .bool false)] [] fun uf1 => x_then <| x_f (by kernel_rfl) <| x_skipc <| x_then <| x_region <| x_b H [.m, .m] ?_
  refine x_nil <| x_blk <| x_then <| x_seq <| z_region_whole H <| q_b [.m, .n 1 0 75 41, .n 0 0 75 41] <| q_val (.bool (decide (SEQ ⟨8, sl, sd, sm, 4, rk, bk, ro, co, ch, bi, va⟩ ⟨8, 0, (fun _ => 0), 0, 4, rk, bk, ro, co, ch, bi, va⟩))) (by kernel_rfl) (fun _ => (run_eqT (P := Tryd.prog) (t := 41) (x := .tmp 88) (y := .tmp 89) (xs := stepA ⟨8, sl, sd, sm, 4, rk, bk, ro, co, ch, bi, va⟩) (ys := stepA ⟨8, 0, (fun _ => 0), 0, 4, rk, bk, ro, co, ch, bi, va⟩) (B := decide (SEQ ⟨8, sl, sd, sm, 4, rk, bk, ro, co, ch, bi, va⟩ ⟨8, 0, (fun _ => 0), 0, 4, rk, bk, ro, co, ch, bi, va⟩)) (by kernel_rfl) (by kernel_rfl) (stepEq ⟨8, sl, sd, sm, 4, rk, bk, ro, co, ch, bi, va⟩ ⟨8, 0, (fun _ => 0), 0, 4, rk, bk, ro, co, ch, bi, va⟩))) ?_
  refine q_b [.m, .v (.bool (decide (SEQ ⟨8, sl, sd, sm, 4, rk, bk, ro, co, ch, bi, va⟩ ⟨8, 0, (fun _ => 0), 0, 4, rk, bk, ro, co, ch, bi, va⟩)))] <| q_nil ?_
  clear H
  intro v6 H
  refine x_then <| x_retc <| x_ret (.tuple #[S (txtS (⟨8, 0, (fun _ => 0), 0, 4, rk, bk, ro, co, ch, bi, va⟩ : Stp)), .bool (decide (SEQ ⟨8, sl, sd, sm, 4, rk, bk, ro, co, ch, bi, va⟩ ⟨8, 0, (fun _ => 0), 0, 4, rk, bk, ro, co, ch, bi, va⟩))]) (by kernel_rfl) (by kernel_rfl) ?_
  exact ⟨rfl, H.below⟩
set_option maxRecDepth 100000 in
set_option maxHeartbeats 4000000 in
theorem shown_8n4 {sl rk bk ro co ch bi va : Int} {sd : Nat → Nat} {sm : Nat} (hx : Rng (⟨8, sl, sd, sm, 4, rk, bk, ro, co, ch, bi, va⟩ : Stp)) (hz : ¬ (ro = 0 ∧ bi = 0)) (w0 : World) :
    Calls Tryd.prog 16 #[.agg (stepA ⟨8, sl, sd, sm, 4, rk, bk, ro, co, ch, bi, va⟩)] w0 fun e w' => e = .returned (.tuple #[S [], .bool false]) ∧ Below w0.heap.size w0 w' := by
  refine z_enter Tryd.func16 rfl ?_
  have H := Hs.nil w0
  refine x_seq <| x_region <| z_box H (stepA ⟨8, sl, sd, sm, 4, rk, bk, ro, co, ch, bi, va⟩) 41 (fun v1 g1 H => ?_)
  refine x_b H [.m, .m] <| x_nil <| x_then <| x_seq <| x_region <| x_b H [.m, .l 0 0, .m] <| z_box H (stepA ⟨0, 0, (fun _ => 0), 0, 0, 0, 0, 0, 0, 0, 0, 0⟩) 41 (fun v2 g2 H => ?_)
  refine z_store H 0 0 ((stepA ⟨8, 0, (fun _ => 0), 0, 0, 0, 0, 0, 0, 0, 0, 0⟩)).toList (fun v3 H => ?_)
  refine x_nil <| x_then <| x_seq <| x_region <| x_b H [.m] <| x_nil <| x_then ?_
  refine x_seq <| x_seq <| x_region <| x_b H [.m, .l 1 0] <| x_nil <| x_then <| x_block ?_
  refine x_seq <| x_region <| x_b H [.m, .m] <| x_nil <| x_then <| x_f (by kernel_rfl) <| x_seq ?_
  refine x_region <| x_b H [.m, .m] <| x_nil <| x_then <| x_f (by kernel_rfl) <| x_seq <| x_region ?_
  refine x_b H [.m, .m] <| x_nil <| x_then <| x_f (by kernel_rfl) <| x_seq <| x_seq <| x_region ?_
  refine x_b H [.m, .m] <| x_nil <| x_then <| x_f (by kernel_rfl) <| x_seq <| x_region <| x_b H [.m, .m] ?_
  refine x_nil <| x_then <| x_f (by kernel_rfl) <| x_seq <| x_region <| x_b H [.m, .m] <| x_nil ?_
  refine x_then <| x_f (by kernel_rfl) <| x_region <| x_b H [.m, .m] <| x_nil <| x_then <| x_f (by kernel_rfl) ?_
  refine x_seq <| x_region <| x_b H [.m, .m] <| x_nil <| x_then <| x_t (by kernel_rfl) <| x_seq ?_
  refine x_region <| x_b H [.m, .n 1 67 8 39, .m] <| z_store H 0 67 [.int .i64 4, .int .i64 rk, .int .i64 bk, .int .i64 ro, .int .i64 co, .int .i64 ch, .int .i64 bi, .int .i64 va] (fun v4 H => ?_)
  refine x_nil <| x_then <| x_seq <| x_region <| x_b H [.m, .n 1 67 8 39] <| z_callB H (broken_n4 hx.f hz _) fun v5 H => x_b H [.m, .m, .m, .m, .m] ?_
  refine x_nil <| x_then <| x_seq <| x_seq <| x_region <| x_b H [.m, .m] <| x_nil ?_
  refine z_fr 91 [(1, .pointer (some ⟨g1, 0, none⟩)), (4, .pointer (some ⟨g2, 0, none⟩)), (6, S ([] : List UInt8)), (85, .bool true)] [] fun uf1 => x_then <| x_t (by kernel_rfl) <| x_seq <| x_region <| x_b H [.m, .m] <| x_nil ?_
  refine x_then <| x_retc <| x_then_ret <| x_blk_ret <| x_then_ret <| x_ret (.tuple #[S ([] : List UInt8), .bool false]) (by kernel_rfl) (by kernel_rfl) ?_
  exact ⟨rfl, H.below⟩
set_option maxRecDepth 100000 in
set_option maxHeartbeats 4000000 in
theorem shown_8y5 {sl rk bk ro co ch bi va : Int} {sd : Nat → Nat} {sm : Nat} (hx : Rng (⟨8, sl, sd, sm, 5, rk, bk, ro, co, ch, bi, va⟩ : Stp)) (hz : (bk = 0 ∧ ro = 0 ∧ co = 0 ∧ bi = 0)) (w0 : World) :
    Calls Tryd.prog 16 #[.agg (stepA ⟨8, sl, sd, sm, 5, rk, bk, ro, co, ch, bi, va⟩)] w0 fun e w' => e = .returned (.tuple #[S (txtS (⟨8, sl, sd, sm, 5, rk, bk, ro, co, ch, bi, va⟩ : Stp)), .bool (decide (SEQ (⟨8, sl, sd, sm, 5, rk, bk, ro, co, ch, bi, va⟩ : Stp) (⟨8, 0, (fun _ => 0), 0, 5, rk, bk, ro, co, ch, bi, va⟩ : Stp)))]) ∧ Below w0.heap.size w0 w' := by
  refine z_enter Tryd.func16 rfl ?_
  have H := Hs.nil w0
  refine x_seq <| x_region <| z_box H (stepA ⟨8, sl, sd, sm, 5, rk, bk, ro, co, ch, bi, va⟩) 41 (fun v1 g1 H => ?_)
  refine x_b H [.m, .m] <| x_nil <| x_then <| x_seq <| x_region <| x_b H [.m, .l 0 0, .m] <| z_box H (stepA ⟨0, 0, (fun _ => 0), 0, 0, 0, 0, 0, 0, 0, 0, 0⟩) 41 (fun v2 g2 H => ?_)
  refine z_store H 0 0 ((stepA ⟨8, 0, (fun _ => 0), 0, 0, 0, 0, 0, 0, 0, 0, 0⟩)).toList (fun v3 H => ?_)
  refine x_nil <| x_then <| x_seq <| x_region <| x_b H [.m] <| x_nil <| x_then ?_
  refine x_seq <| x_seq <| x_region <| x_b H [.m, .l 1 0] <| x_nil <| x_then <| x_block ?_
  refine x_seq <| x_region <| x_b H [.m, .m] <| x_nil <| x_then <| x_f (by kernel_rfl) <| x_seq ?_
  refine x_region <| x_b H [.m, .m] <| x_nil <| x_then <| x_f (by kernel_rfl) <| x_seq <| x_region ?_
  refine x_b H [.m, .m] <| x_nil <| x_then <| x_f (by kernel_rfl) <| x_seq <| x_seq <| x_region ?_
  refine x_b H [.m, .m] <| x_nil <| x_then <| x_f (by kernel_rfl) <| x_seq <| x_region <| x_b H [.m, .m] ?_
  refine x_nil <| x_then <| x_f (by kernel_rfl) <| x_seq <| x_region <| x_b H [.m, .m] <| x_nil ?_
  refine x_then <| x_f (by kernel_rfl) <| x_region <| x_b H [.m, .m] <| x_nil <| x_then <| x_f (by kernel_rfl) ?_
  refine x_seq <| x_region <| x_b H [.m, .m] <| x_nil <| x_then <| x_t (by kernel_rfl) <| x_seq ?_
  refine x_region <| x_b H [.m, .n 1 67 8 39, .m] <| z_store H 0 67 [.int .i64 5, .int .i64 rk, .int .i64 bk, .int .i64 ro, .int .i64 co, .int .i64 ch, .int .i64 bi, .int .i64 va] (fun v4 H => ?_)
  refine x_nil <| x_then <| x_seq <| x_region <| x_b H [.m, .n 1 67 8 39] <| z_callB H (broken_y5 hx.f hz _) fun v5 H => x_b H [.m, .m, .m, .m, .m] ?_
  refine x_nil <| x_then <| x_seq <| x_seq <| x_region <| x_b H [.m, .m] <| x_nil ?_
  refine z_fr 91 [(1, .pointer (some ⟨g1, 0, none⟩)), (4, .pointer (some ⟨g2, 0, none⟩)), (6, S (txtS (⟨8, 0, (fun _ => 0), 0, 5, rk, bk, ro, co, ch, bi, va⟩ : Stp))), (85, .bool false)] [] fun uf1 => x_then <| x_f (by kernel_rfl) <| x_skipc <| x_then <| x_region <| x_b H [.m, .m] ?_
  refine x_nil <| x_blk <| x_then <| x_seq <| z_region_whole H <| q_b [.m, .n 1 0 75 41, .n 0 0 75 41] <| q_val (.bool (decide (SEQ ⟨8, sl, sd, sm, 5, rk, bk, ro, co, ch, bi, va⟩ ⟨8, 0, (fun _ => 0), 0, 5, rk, bk, ro, co, ch, bi, va⟩))) (by kernel_rfl) (fun _ => (run_eqT (P := Tryd.prog) (t := 41) (x := .tmp 88) (y := .tmp 89) (xs := stepA ⟨8, sl, sd, sm, 5, rk, bk, ro, co, ch, bi, va⟩) (ys := stepA ⟨8, 0, (fun _ => 0), 0, 5, rk, bk, ro, co, ch, bi, va⟩) (B := decide (SEQ ⟨8, sl, sd, sm, 5, rk, bk, ro, co, ch, bi, va⟩ ⟨8, 0, (fun _ => 0), 0, 5, rk, bk, ro, co, ch, bi, va⟩)) (by kernel_rfl) (by kernel_rfl) (stepEq ⟨8, sl, sd, sm, 5, rk, bk, ro, co, ch, bi, va⟩ ⟨8, 0, (fun _ => 0), 0, 5, rk, bk, ro, co, ch, bi, va⟩))) ?_
  refine q_b [.m, .v (.bool (decide (SEQ ⟨8, sl, sd, sm, 5, rk, bk, ro, co, ch, bi, va⟩ ⟨8, 0, (fun _ => 0), 0, 5, rk, bk, ro, co, ch, bi, va⟩)))] <| q_nil ?_
  clear H
  intro v6 H
  refine x_then <| x_retc <| x_ret (.tuple #[S (txtS (⟨8, 0, (fun _ => 0), 0, 5, rk, bk, ro, co, ch, bi, va⟩ : Stp)), .bool (decide (SEQ ⟨8, sl, sd, sm, 5, rk, bk, ro, co, ch, bi, va⟩ ⟨8, 0, (fun _ => 0), 0, 5, rk, bk, ro, co, ch, bi, va⟩))]) (by kernel_rfl) (by kernel_rfl) ?_
  exact ⟨rfl, H.below⟩
set_option maxRecDepth 100000 in
set_option maxHeartbeats 4000000 in
theorem shown_8n5 {sl rk bk ro co ch bi va : Int} {sd : Nat → Nat} {sm : Nat} (hx : Rng (⟨8, sl, sd, sm, 5, rk, bk, ro, co, ch, bi, va⟩ : Stp)) (hz : ¬ (bk = 0 ∧ ro = 0 ∧ co = 0 ∧ bi = 0)) (w0 : World) :
    Calls Tryd.prog 16 #[.agg (stepA ⟨8, sl, sd, sm, 5, rk, bk, ro, co, ch, bi, va⟩)] w0 fun e w' => e = .returned (.tuple #[S [], .bool false]) ∧ Below w0.heap.size w0 w' := by
  refine z_enter Tryd.func16 rfl ?_
  have H := Hs.nil w0
  refine x_seq <| x_region <| z_box H (stepA ⟨8, sl, sd, sm, 5, rk, bk, ro, co, ch, bi, va⟩) 41 (fun v1 g1 H => ?_)
  refine x_b H [.m, .m] <| x_nil <| x_then <| x_seq <| x_region <| x_b H [.m, .l 0 0, .m] <| z_box H (stepA ⟨0, 0, (fun _ => 0), 0, 0, 0, 0, 0, 0, 0, 0, 0⟩) 41 (fun v2 g2 H => ?_)
  refine z_store H 0 0 ((stepA ⟨8, 0, (fun _ => 0), 0, 0, 0, 0, 0, 0, 0, 0, 0⟩)).toList (fun v3 H => ?_)
  refine x_nil <| x_then <| x_seq <| x_region <| x_b H [.m] <| x_nil <| x_then ?_
  refine x_seq <| x_seq <| x_region <| x_b H [.m, .l 1 0] <| x_nil <| x_then <| x_block ?_
  refine x_seq <| x_region <| x_b H [.m, .m] <| x_nil <| x_then <| x_f (by kernel_rfl) <| x_seq ?_
  refine x_region <| x_b H [.m, .m] <| x_nil <| x_then <| x_f (by kernel_rfl) <| x_seq <| x_region ?_
  refine x_b H [.m, .m] <| x_nil <| x_then <| x_f (by kernel_rfl) <| x_seq <| x_seq <| x_region ?_
  refine x_b H [.m, .m] <| x_nil <| x_then <| x_f (by kernel_rfl) <| x_seq <| x_region <| x_b H [.m, .m] ?_
  refine x_nil <| x_then <| x_f (by kernel_rfl) <| x_seq <| x_region <| x_b H [.m, .m] <| x_nil ?_
  refine x_then <| x_f (by kernel_rfl) <| x_region <| x_b H [.m, .m] <| x_nil <| x_then <| x_f (by kernel_rfl) ?_
  refine x_seq <| x_region <| x_b H [.m, .m] <| x_nil <| x_then <| x_t (by kernel_rfl) <| x_seq ?_
  refine x_region <| x_b H [.m, .n 1 67 8 39, .m] <| z_store H 0 67 [.int .i64 5, .int .i64 rk, .int .i64 bk, .int .i64 ro, .int .i64 co, .int .i64 ch, .int .i64 bi, .int .i64 va] (fun v4 H => ?_)
  refine x_nil <| x_then <| x_seq <| x_region <| x_b H [.m, .n 1 67 8 39] <| z_callB H (broken_n5 hx.f hz _) fun v5 H => x_b H [.m, .m, .m, .m, .m] ?_
  refine x_nil <| x_then <| x_seq <| x_seq <| x_region <| x_b H [.m, .m] <| x_nil ?_
  refine z_fr 91 [(1, .pointer (some ⟨g1, 0, none⟩)), (4, .pointer (some ⟨g2, 0, none⟩)), (6, S ([] : List UInt8)), (85, .bool true)] [] fun uf1 => x_then <| x_t (by kernel_rfl) <| x_seq <| x_region <| x_b H [.m, .m] <| x_nil ?_
  refine x_then <| x_retc <| x_then_ret <| x_blk_ret <| x_then_ret <| x_ret (.tuple #[S ([] : List UInt8), .bool false]) (by kernel_rfl) (by kernel_rfl) ?_
  exact ⟨rfl, H.below⟩
set_option maxRecDepth 100000 in
set_option maxHeartbeats 4000000 in
theorem shown_8y6 {sl rk bk ro co ch bi va : Int} {sd : Nat → Nat} {sm : Nat} (hx : Rng (⟨8, sl, sd, sm, 6, rk, bk, ro, co, ch, bi, va⟩ : Stp)) (hz : (ch = 0 ∧ bi = 0 ∧ va = 0)) (w0 : World) :
    Calls Tryd.prog 16 #[.agg (stepA ⟨8, sl, sd, sm, 6, rk, bk, ro, co, ch, bi, va⟩)] w0 fun e w' => e = .returned (.tuple #[S (txtS (⟨8, sl, sd, sm, 6, rk, bk, ro, co, ch, bi, va⟩ : Stp)), .bool (decide (SEQ (⟨8, sl, sd, sm, 6, rk, bk, ro, co, ch, bi, va⟩ : Stp) (⟨8, 0, (fun _ => 0), 0, 6, rk, bk, ro, co, ch, bi, va⟩ : Stp)))]) ∧ Below w0.heap.size w0 w' := by
  refine z_enter Tryd.func16 rfl ?_
  have H := Hs.nil w0
  refine x_seq <| x_region <| z_box H (stepA ⟨8, sl, sd, sm, 6, rk, bk, ro, co, ch, bi, va⟩) 41 (fun v1 g1 H => ?_)
  refine x_b H [.m, .m] <| x_nil <| x_then <| x_seq <| x_region <| x_b H [.m, .l 0 0, .m] <| z_box H (stepA ⟨0, 0, (fun _ => 0), 0, 0, 0, 0, 0, 0, 0, 0, 0⟩) 41 (fun v2 g2 H => ?_)
  refine z_store H 0 0 ((stepA ⟨8, 0, (fun _ => 0), 0, 0, 0, 0, 0, 0, 0, 0, 0⟩)).toList (fun v3 H => ?_)
  refine x_nil <| x_then <| x_seq <| x_region <| x_b H [.m] <| x_nil <| x_then ?_
  refine x_seq <| x_seq <| x_region <| x_b H [.m, .l 1 0] <| x_nil <| x_then <| x_block ?_
  refine x_seq <| x_region <| x_b H [.m, .m] <| x_nil <| x_then <| x_f (by kernel_rfl) <| x_seq ?_
  refine x_region <| x_b H [.m, .m] <| x_nil <| x_then <| x_f (by kernel_rfl) <| x_seq <| x_region ?_
  refine x_b H [.m, .m] <| x_nil <| x_then <| x_f (by kernel_rfl) <| x_seq <| x_seq <| x_region ?_
  refine x_b H [.m, .m] <| x_nil <| x_then <| x_f (by kernel_rfl) <| x_seq <| x_region <| x_b H [.m, .m] ?_
  refine x_nil <| x_then <| x_f (by kernel_rfl) <| x_seq <| x_region <| x_b H [.m, .m] <| x_nil ?_
  refine x_then <| x_f (by kernel_rfl) <| x_region <| x_b H [.m, .m] <| x_nil <| x_then <| x_f (by kernel_rfl) ?_
  refine x_seq <| x_region <| x_b H [.m, .m] <| x_nil <| x_then <| x_t (by kernel_rfl) <| x_seq ?_
  refine x_region <| x_b H [.m, .n 1 67 8 39, .m] <| z_store H 0 67 [.int .i64 6, .int .i64 rk, .int .i64 bk, .int .i64 ro, .int .i64 co, .int .i64 ch, .int .i64 bi, .int .i64 va] (fun v4 H => ?_)
  refine x_nil <| x_then <| x_seq <| x_region <| x_b H [.m, .n 1 67 8 39] <| z_callB H (broken_y6 hx.f hz _) fun v5 H => x_b H [.m, .m, .m, .m, .m] ?_
  refine x_nil <| x_then <| x_seq <| x_seq <| x_region <| x_b H [.m, .m] <| x_nil ?_
  refine z_fr 91 [(1, .pointer (some ⟨g1, 0, none⟩)), (4, .pointer (some ⟨g2, 0, none⟩)), (6, S (txtS (⟨8, 0, (fun _ => 0), 0, 6, rk, bk, ro, co, ch, bi, va⟩ : Stp))), (85, .bool false)] [] fun uf1 => x_then <| x_f (by kernel_rfl) <| x_skipc <| x_then <| x_region <| x_b H [.m, .m] ?_
  refine x_nil <| x_blk <| x_then <| x_seq <| z_region_whole H <| q_b [.m, .n 1 0 75 41, .n 0 0 75 41] <| q_val (.bool (decide (SEQ ⟨8, sl, sd, sm, 6, rk, bk, ro, co, ch, bi, va⟩ ⟨8, 0, (fun _ => 0), 0, 6, rk, bk, ro, co, ch, bi, va⟩))) (by kernel_rfl) (fun _ => (run_eqT (P := Tryd.prog) (t := 41) (x := .tmp 88) (y := .tmp 89) (xs := stepA ⟨8, sl, sd, sm, 6, rk, bk, ro, co, ch, bi, va⟩) (ys := stepA ⟨8, 0, (fun _ => 0), 0, 6, rk, bk, ro, co, ch, bi, va⟩) (B := decide (SEQ ⟨8, sl, sd, sm, 6, rk, bk, ro, co, ch, bi, va⟩ ⟨8, 0, (fun _ => 0), 0, 6, rk, bk, ro, co, ch, bi, va⟩)) (by kernel_rfl) (by kernel_rfl) (stepEq ⟨8, sl, sd, sm, 6, rk, bk, ro, co, ch, bi, va⟩ ⟨8, 0, (fun _ => 0), 0, 6, rk, bk, ro, co, ch, bi, va⟩))) ?_
  refine q_b [.m, .v (.bool (decide (SEQ ⟨8, sl, sd, sm, 6, rk, bk, ro, co, ch, bi, va⟩ ⟨8, 0, (fun _ => 0), 0, 6, rk, bk, ro, co, ch, bi, va⟩)))] <| q_nil ?_
  clear H
  intro v6 H
  refine x_then <| x_retc <| x_ret (.tuple #[S (txtS (⟨8, 0, (fun _ => 0), 0, 6, rk, bk, ro, co, ch, bi, va⟩ : Stp)), .bool (decide (SEQ ⟨8, sl, sd, sm, 6, rk, bk, ro, co, ch, bi, va⟩ ⟨8, 0, (fun _ => 0), 0, 6, rk, bk, ro, co, ch, bi, va⟩))]) (by kernel_rfl) (by kernel_rfl) ?_
  exact ⟨rfl, H.below⟩
set_option maxRecDepth 100000 in
set_option maxHeartbeats 4000000 in
theorem shown_8n6 {sl rk bk ro co ch bi va : Int} {sd : Nat → Nat} {sm : Nat} (hx : Rng (⟨8, sl, sd, sm, 6, rk, bk, ro, co, ch, bi, va⟩ : Stp)) (hz : ¬ (ch = 0 ∧ bi = 0 ∧ va = 0)) (w0 : World) :
    Calls Tryd.prog 16 #[.agg (stepA ⟨8, sl, sd, sm, 6, rk, bk, ro, co, ch, bi, va⟩)] w0 fun e w' => e = .returned (.tuple #[S [], .bool false]) ∧ Below w0.heap.size w0 w' := by
  refine z_enter Tryd.func16 rfl ?_
  have H := Hs.nil w0
  refine x_seq <| x_region <| z_box H (stepA ⟨8, sl, sd, sm, 6, rk, bk, ro, co, ch, bi, va⟩) 41 (fun v1 g1 H => ?_)
  refine x_b H [.m, .m] <| x_nil <| x_then <| x_seq <| x_region <| x_b H [.m, .l 0 0, .m] <| z_box H (stepA ⟨0, 0, (fun _ => 0), 0, 0, 0, 0, 0, 0, 0, 0, 0⟩) 41 (fun v2 g2 H => ?_)
  refine z_store H 0 0 ((stepA ⟨8, 0, (fun _ => 0), 0, 0, 0, 0, 0, 0, 0, 0, 0⟩)).toList (fun v3 H => ?_)
  refine x_nil <| x_then <| x_seq <| x_region <| x_b H [.m] <| x_nil <| x_then ?_
  refine x_seq <| x_seq <| x_region <| x_b H [.m, .l 1 0] <| x_nil <| x_then <| x_block ?_
  refine x_seq <| x_region <| x_b H [.m, .m] <| x_nil <| x_then <| x_f (by kernel_rfl) <| x_seq ?_
  refine x_region <| x_b H [.m, .m] <| x_nil <| x_then <| x_f (by kernel_rfl) <| x_seq <| x_region ?_
  refine x_b H [.m, .m] <| x_nil <| x_then <| x_f (by kernel_rfl) <| x_seq <| x_seq <| x_region ?_
  refine x_b H [.m, .m] <| x_nil <| x_then <| x_f (by kernel_rfl) <| x_seq <| x_region <| x_b H [.m, .m] ?_
  refine x_nil <| x_then <| x_f (by kernel_rfl) <| x_seq <| x_region <| x_b H [.m, .m] <| x_nil ?_
  refine x_then <| x_f (by kernel_rfl) <| x_region <| x_b H [.m, .m] <| x_nil <| x_then <| x_f (by kernel_rfl) ?_
  refine x_seq <| x_region <| x_b H [.m, .m] <| x_nil <| x_then <| x_t (by kernel_rfl) <| x_seq ?_
  refine x_region <| x_b H [.m, .n 1 67 8 39, .m] <| z_store H 0 67 [.int .i64 6, .int .i64 rk, .int .i64 bk, .int .i64 ro, .int .i64 co, .int .i64 ch, .int .i64 bi, .int .i64 va] (fun v4 H => ?_)
  refine x_nil <| x_then <| x_seq <| x_region <| x_b H [.m, .n 1 67 8 39] <| z_callB H (broken_n6 hx.f hz _) fun v5 H => x_b H [.m, .m, .m, .m, .m] ?_
  refine x_nil <| x_then <| x_seq <| x_seq <| x_region <| x_b H [.m, .m] <| x_nil ?_
  refine z_fr 91 [(1, .pointer (some ⟨g1, 0, none⟩)), (4, .pointer (some ⟨g2, 0, none⟩)), (6, S ([] : List UInt8)), (85, .bool true)] [] fun uf1 => x_then <| x_t (by kernel_rfl) <| x_seq <| x_region <| x_b H [.m, .m] <| x_nil ?_
  refine x_then <| x_retc <| x_then_ret <| x_blk_ret <| x_then_ret <| x_ret (.tuple #[S ([] : List UInt8), .bool false]) (by kernel_rfl) (by kernel_rfl) ?_
  exact ⟨rfl, H.below⟩
set_option maxRecDepth 100000 in
set_option maxHeartbeats 4000000 in
theorem shown_8y7 {sl rk bk ro co ch bi va : Int} {sd : Nat → Nat} {sm : Nat} (hx : Rng (⟨8, sl, sd, sm, 7, rk, bk, ro, co, ch, bi, va⟩ : Stp)) (hz : (rk = 0 ∧ bk = 0 ∧ ro = 0 ∧ co = 0 ∧ ch = 0 ∧ bi = 0 ∧ va = 0)) (w0 : World) :
    Calls Tryd.prog 16 #[.agg (stepA ⟨8, sl, sd, sm, 7, rk, bk, ro, co, ch, bi, va⟩)] w0 fun e w' => e = .returned (.tuple #[S (txtS (⟨8, sl, sd, sm, 7, rk, bk, ro, co, ch, bi, va⟩ : Stp)), .bool (decide (SEQ (⟨8, sl, sd, sm, 7, rk, bk, ro, co, ch, bi, va⟩ : Stp) (⟨8, 0, (fun _ => 0), 0, 7, rk, bk, ro, co, ch, bi, va⟩ : Stp)))]) ∧ Below w0.heap.size w0 w' := by
  refine z_enter Tryd.func16 rfl ?_
  have H := Hs.nil w0
  refine x_seq <| x_region <| z_box H (stepA ⟨8, sl, sd, sm, 7, rk, bk, ro, co, ch, bi, va⟩) 41 (fun v1 g1 H => ?_)
  refine x_b H [.m, .m] <| x_nil <| x_then <| x_seq <| x_region <| x_b H [.m, .l 0 0, .m] <| z_box H (stepA ⟨0, 0, (fun _ => 0), 0, 0, 0, 0, 0, 0, 0, 0, 0⟩) 41 (fun v2 g2 H => ?_)
  refine z_store H 0 0 ((stepA ⟨8, 0, (fun _ => 0), 0, 0, 0, 0, 0, 0, 0, 0, 0⟩)).toList (fun v3 H => ?_)
  refine x_nil <| x_then <| x_seq <| x_region <| x_b H [.m] <| x_nil <| x_then ?_
  refine x_seq <| x_seq <| x_region <| x_b H [.m, .l 1 0] <| x_nil <| x_then <| x_block ?_
  refine x_seq <| x_region <| x_b H [.m, .m] <| x_nil <| x_then <| x_f (by kernel_rfl) <| x_seq ?_
  refine x_region <| x_b H [.m, .m] <| x_nil <| x_then <| x_f (by kernel_rfl) <| x_seq <| x_region ?_
  refine x_b H [.m, .m] <| x_nil <| x_then <| x_f (by kernel_rfl) <| x_seq <| x_seq <| x_region ?_
  refine x_b H [.m, .m] <| x_nil <| x_then <| x_f (by kernel_rfl) <| x_seq <| x_region <| x_b H [.m, .m] ?_
  refine x_nil <| x_then <| x_f (by kernel_rfl) <| x_seq <| x_region <| x_b H [.m, .m] <| x_nil ?_
  refine x_then <| x_f (by kernel_rfl) <| x_region <| x_b H [.m, .m] <| x_nil <| x_then <| x_f (by kernel_rfl) ?_
  refine x_seq <| x_region <| x_b H [.m, .m] <| x_nil <| x_then <| x_t (by kernel_rfl) <| x_seq ?_
  refine x_region <| x_b H [.m, .n 1 67 8 39, .m] <| z_store H 0 67 [.int .i64 7, .int .i64 rk, .int .i64 bk, .int .i64 ro, .int .i64 co, .int .i64 ch, .int .i64 bi, .int .i64 va] (fun v4 H => ?_)
  refine x_nil <| x_then <| x_seq <| x_region <| x_b H [.m, .n 1 67 8 39] <| z_callB H (broken_y7 hx.f hz _) fun v5 H => x_b H [.m, .m, .m, .m, .m] ?_
  refine x_nil <| x_then <| x_seq <| x_seq <| x_region <| x_b H [.m, .m] <| x_nil ?_
  refine z_fr 91 [(1, .pointer (some ⟨g1, 0, none⟩)), (4, .pointer (some ⟨g2, 0, none⟩)), (6, S (txtS (⟨8, 0, (fun _ => 0), 0, 7, rk, bk, ro, co, ch, bi, va⟩ : Stp))), (85, .bool false)] [] fun uf1 => x_then <| x_f (by kernel_rfl) <| x_skipc <| x_then <| x_region <| x_b H [.m, .m] ?_
  refine x_nil <| x_blk <| x_then <| x_seq <| z_region_whole H <| q_b [.m, .n 1 0 75 41, .n 0 0 75 41] <| q_val (.bool (decide (SEQ ⟨8, sl, sd, sm, 7, rk, bk, ro, co, ch, bi, va⟩ ⟨8, 0, (fun _ => 0), 0, 7, rk, bk, ro, co, ch, bi, va⟩))) (by kernel_rfl) (fun _ => (run_eqT (P := Tryd.prog) (t := 41) (x := .tmp 88) (y := .tmp 89) (xs := stepA ⟨8, sl, sd, sm, 7, rk, bk, ro, co, ch, bi, va⟩) (ys := stepA ⟨8, 0, (fun _ => 0), 0, 7, rk, bk, ro, co, ch, bi, va⟩) (B := decide (SEQ ⟨8, sl, sd, sm, 7, rk, bk, ro, co, ch, bi, va⟩ ⟨8, 0, (fun _ => 0), 0, 7, rk, bk, ro, co, ch, bi, va⟩)) (by kernel_rfl) (by kernel_rfl) (stepEq ⟨8, sl, sd, sm, 7, rk, bk, ro, co, ch, bi, va⟩ ⟨8, 0, (fun _ => 0), 0, 7, rk, bk, ro, co, ch, bi, va⟩))) ?_
  refine q_b [.m, .v (.bool (decide (SEQ ⟨8, sl, sd, sm, 7, rk, bk, ro, co, ch, bi, va⟩ ⟨8, 0, (fun _ => 0), 0, 7, rk, bk, ro, co, ch, bi, va⟩)))] <| q_nil ?_
  clear H
  intro v6 H
  refine x_then <| x_retc <| x_ret (.tuple #[S (txtS (⟨8, 0, (fun _ => 0), 0, 7, rk, bk, ro, co, ch, bi, va⟩ : Stp)), .bool (decide (SEQ ⟨8, sl, sd, sm, 7, rk, bk, ro, co, ch, bi, va⟩ ⟨8, 0, (fun _ => 0), 0, 7, rk, bk, ro, co, ch, bi, va⟩))]) (by kernel_rfl) (by kernel_rfl) ?_
  exact ⟨rfl, H.below⟩
set_option maxRecDepth 100000 in
set_option maxHeartbeats 4000000 in
theorem shown_8n7 {sl rk bk ro co ch bi va : Int} {sd : Nat → Nat} {sm : Nat} (hx : Rng (⟨8, sl, sd, sm, 7, rk, bk, ro, co, ch, bi, va⟩ : Stp)) (hz : ¬ (rk = 0 ∧ bk = 0 ∧ ro = 0 ∧ co = 0 ∧ ch = 0 ∧ bi = 0 ∧ va = 0)) (w0 : World) :
    Calls Tryd.prog 16 #[.agg (stepA ⟨8, sl, sd, sm, 7, rk, bk, ro, co, ch, bi, va⟩)] w0 fun e w' => e = .returned (.tuple #[S [], .bool false]) ∧ Below w0.heap.size w0 w' := by
  refine z_enter Tryd.func16 rfl ?_
  have H := Hs.nil w0
  refine x_seq <| x_region <| z_box H (stepA ⟨8, sl, sd, sm, 7, rk, bk, ro, co, ch, bi, va⟩) 41 (fun v1 g1 H => ?_)
  refine x_b H [.m, .m] <| x_nil <| x_then <| x_seq <| x_region <| x_b H [.m, .l 0 0, .m] <| z_box H (stepA ⟨0, 0, (fun _ => 0), 0, 0, 0, 0, 0, 0, 0, 0, 0⟩) 41 (fun v2 g2 H => ?_)
  refine z_store H 0 0 ((stepA ⟨8, 0, (fun _ => 0), 0, 0, 0, 0, 0, 0, 0, 0, 0⟩)).toList (fun v3 H => ?_)
  refine x_nil <| x_then <| x_seq <| x_region <| x_b H [.m] <| x_nil <| x_then ?_
  refine x_seq <| x_seq <| x_region <| x_b H [.m, .l 1 0] <| x_nil <| x_then <| x_block ?_
  refine x_seq <| x_region <| x_b H [.m, .m] <| x_nil <| x_then <| x_f (by kernel_rfl) <| x_seq ?_
  refine x_region <| x_b H [.m, .m] <| x_nil <| x_then <| x_f (by kernel_rfl) <| x_seq <| x_region ?_
  refine x_b H [.m, .m] <| x_nil <| x_then <| x_f (by kernel_rfl) <| x_seq <| x_seq <| x_region ?_
  refine x_b H [.m, .m] <| x_nil <| x_then <| x_f (by kernel_rfl) <| x_seq <| x_region <| x_b H [.m, .m] ?_
  refine x_nil <| x_then <| x_f (by kernel_rfl) <| x_seq <| x_region <| x_b H [.m, .m] <| x_nil ?_
  refine x_then <| x_f (by kernel_rfl) <| x_region <| x_b H [.m, .m] <| x_nil <| x_then <| x_f (by kernel_rfl) ?_
  refine x_seq <| x_region <| x_b H [.m, .m] <| x_nil <| x_then <| x_t (by kernel_rfl) <| x_seq ?_
  refine x_region <| x_b H [.m, .n 1 67 8 39, .m] <| z_store H 0 67 [.int .i64 7, .int .i64 rk, .int .i64 bk, .int .i64 ro, .int .i64 co, .int .i64 ch, .int .i64 bi, .int .i64 va] (fun v4 H => ?_)
  refine x_nil <| x_then <| x_seq <| x_region <| x_b H [.m, .n 1 67 8 39] <| z_callB H (broken_n7 hx.f hz _) fun v5 H => x_b H [.m, .m, .m, .m, .m] ?_
  refine x_nil <| x_then <| x_seq <| x_seq <| x_region <| x_b H [.m, .m] <| x_nil ?_
  refine z_fr 91 [(1, .pointer (some ⟨g1, 0, none⟩)), (4, .pointer (some ⟨g2, 0, none⟩)), (6, S ([] : List UInt8)), (85, .bool true)] [] fun uf1 => x_then <| x_t (by kernel_rfl) <| x_seq <| x_region <| x_b H [.m, .m] <| x_nil ?_
  refine x_then <| x_retc <| x_then_ret <| x_blk_ret <| x_then_ret <| x_ret (.tuple #[S ([] : List UInt8), .bool false]) (by kernel_rfl) (by kernel_rfl) ?_
  exact ⟨rfl, H.below⟩
set_option maxRecDepth 100000 in
set_option maxHeartbeats 4000000 in
theorem shown_8lo {sl fk rk bk ro co ch bi va : Int} {sd : Nat → Nat} {sm : Nat} (hf : fk < 1) (w0 : World) :
    Calls Tryd.prog 16 #[.agg (stepA ⟨8, sl, sd, sm, fk, rk, bk, ro, co, ch, bi, va⟩)] w0 fun e w' => e = .returned (.tuple #[S [], .bool false]) ∧ Below w0.heap.size w0 w' := by
  refine z_enter Tryd.func16 rfl ?_
  have H := Hs.nil w0
  refine x_seq <| x_region <| z_box H (stepA ⟨8, sl, sd, sm, fk, rk, bk, ro, co, ch, bi, va⟩) 41 (fun v1 g1 H => ?_)
  refine x_b H [.m, .m] <| x_nil <| x_then <| x_seq <| x_region <| x_b H [.m, .l 0 0, .m] <| z_box H (stepA ⟨0, 0, (fun _ => 0), 0, 0, 0, 0, 0, 0, 0, 0, 0⟩) 41 (fun v2 g2 H => ?_)
  refine z_store H 0 0 ((stepA ⟨8, 0, (fun _ => 0), 0, 0, 0, 0, 0, 0, 0, 0, 0⟩)).toList (fun v3 H => ?_)
  refine x_nil <| x_then <| x_seq <| x_region <| x_b H [.m] <| x_nil <| x_then ?_
  refine x_seq <| x_seq <| x_region <| x_b H [.m, .l 1 0] <| x_nil <| x_then <| x_block ?_
  refine x_seq <| x_region <| x_b H [.m, .m] <| x_nil <| x_then <| x_f (by kernel_rfl) <| x_seq ?_
  refine x_region <| x_b H [.m, .m] <| x_nil <| x_then <| x_f (by kernel_rfl) <| x_seq <| x_region ?_
  refine x_b H [.m, .m] <| x_nil <| x_then <| x_f (by kernel_rfl) <| x_seq <| x_seq <| x_region ?_
  refine x_b H [.m, .m] <| x_nil <| x_then <| x_f (by kernel_rfl) <| x_seq <| x_region <| x_b H [.m, .m] ?_
  refine x_nil <| x_then <| x_f (by kernel_rfl) <| x_seq <| x_region <| x_b H [.m, .m] <| x_nil ?_
  refine x_then <| x_f (by kernel_rfl) <| x_region <| x_b H [.m, .m] <| x_nil <| x_then <| x_f (by kernel_rfl) ?_
  refine x_seq <| x_region <| x_b H [.m, .m] <| x_nil <| x_then <| x_t (by kernel_rfl) <| x_seq ?_
  refine x_region <| x_b H [.m, .n 1 67 8 39, .m] <| z_store H 0 67 [.int .i64 fk, .int .i64 rk, .int .i64 bk, .int .i64 ro, .int .i64 co, .int .i64 ch, .int .i64 bi, .int .i64 va] (fun v4 H => ?_)
  refine x_nil <| x_then <| x_seq <| x_region <| x_b H [.m, .n 1 67 8 39] <| z_callB H (broken_lo (fk := fk) (rk := rk) (bk := bk) (ro := ro) (co := co) (ch := ch) (bi := bi) (va := va) hf _) fun v5 H => x_b H [.m, .m, .m, .m, .m] ?_
  refine x_nil <| x_then <| x_seq <| x_seq <| x_region <| x_b H [.m, .m] <| x_nil ?_
  refine z_fr 91 [(1, .pointer (some ⟨g1, 0, none⟩)), (4, .pointer (some ⟨g2, 0, none⟩)), (6, S ([] : List UInt8)), (85, .bool true)] [] fun uf1 => x_then <| x_t (by kernel_rfl) <| x_seq <| x_region <| x_b H [.m, .m] <| x_nil ?_
  refine x_then <| x_retc <| x_then_ret <| x_blk_ret <| x_then_ret <| x_ret (.tuple #[S ([] : List UInt8), .bool false]) (by kernel_rfl) (by kernel_rfl) ?_
  exact ⟨rfl, H.below⟩
set_option maxRecDepth 100000 in
set_option maxHeartbeats 4000000 in
theorem shown_8hi {sl fk rk bk ro co ch bi va : Int} {sd : Nat → Nat} {sm : Nat} (hf : 7 < fk) (w0 : World) :
    Calls Tryd.prog 16 #[.agg (stepA ⟨8, sl, sd, sm, fk, rk, bk, ro, co, ch, bi, va⟩)] w0 fun e w' => e = .returned (.tuple #[S [], .bool false]) ∧ Below w0.heap.size w0 w' := by
  refine z_enter Tryd.func16 rfl ?_
  have H := Hs.nil w0
  refine x_seq <| x_region <| z_box H (stepA ⟨8, sl, sd, sm, fk, rk, bk, ro, co, ch, bi, va⟩) 41 (fun v1 g1 H => ?_)
  refine x_b H [.m, .m] <| x_nil <| x_then <| x_seq <| x_region <| x_b H [.m, .l 0 0, .m] <| z_box H (stepA ⟨0, 0, (fun _ => 0), 0, 0, 0, 0, 0, 0, 0, 0, 0⟩) 41 (fun v2 g2 H => ?_)
  refine z_store H 0 0 ((stepA ⟨8, 0, (fun _ => 0), 0, 0, 0, 0, 0, 0, 0, 0, 0⟩)).toList (fun v3 H => ?_)
  refine x_nil <| x_then <| x_seq <| x_region <| x_b H [.m] <| x_nil <| x_then ?_
  refine x_seq <| x_seq <| x_region <| x_b H [.m, .l 1 0] <| x_nil <| x_then <| x_block ?_
  refine x_seq <| x_region <| x_b H [.m, .m] <| x_nil <| x_then <| x_f (by kernel_rfl) <| x_seq ?_
  refine x_region <| x_b H [.m, .m] <| x_nil <| x_then <| x_f (by kernel_rfl) <| x_seq <| x_region ?_
  refine x_b H [.m, .m] <| x_nil <| x_then <| x_f (by kernel_rfl) <| x_seq <| x_seq <| x_region ?_
  refine x_b H [.m, .m] <| x_nil <| x_then <| x_f (by kernel_rfl) <| x_seq <| x_region <| x_b H [.m, .m] ?_
  refine x_nil <| x_then <| x_f (by kernel_rfl) <| x_seq <| x_region <| x_b H [.m, .m] <| x_nil ?_
  refine x_then <| x_f (by kernel_rfl) <| x_region <| x_b H [.m, .m] <| x_nil <| x_then <| x_f (by kernel_rfl) ?_
  refine x_seq <| x_region <| x_b H [.m, .m] <| x_nil <| x_then <| x_t (by kernel_rfl) <| x_seq ?_
  refine x_region <| x_b H [.m, .n 1 67 8 39, .m] <| z_store H 0 67 [.int .i64 fk, .int .i64 rk, .int .i64 bk, .int .i64 ro, .int .i64 co, .int .i64 ch, .int .i64 bi, .int .i64 va] (fun v4 H => ?_)
  refine x_nil <| x_then <| x_seq <| x_region <| x_b H [.m, .n 1 67 8 39] <| z_callB H (broken_hi (fk := fk) (rk := rk) (bk := bk) (ro := ro) (co := co) (ch := ch) (bi := bi) (va := va) hf _) fun v5 H => x_b H [.m, .m, .m, .m, .m] ?_
  refine x_nil <| x_then <| x_seq <| x_seq <| x_region <| x_b H [.m, .m] <| x_nil ?_
  refine z_fr 91 [(1, .pointer (some ⟨g1, 0, none⟩)), (4, .pointer (some ⟨g2, 0, none⟩)), (6, S ([] : List UInt8)), (85, .bool true)] [] fun uf1 => x_then <| x_t (by kernel_rfl) <| x_seq <| x_region <| x_b H [.m, .m] <| x_nil ?_
  refine x_then <| x_retc <| x_then_ret <| x_blk_ret <| x_then_ret <| x_ret (.tuple #[S ([] : List UInt8), .bool false]) (by kernel_rfl) (by kernel_rfl) ?_
  exact ⟨rfl, H.below⟩
theorem bareF_1 {sl rk bk ro co ch bi va : Int} {sd : Nat → Nat} {sm : Nat} (hz : ch = 0 ∧ va = 0) : SEQ (⟨8, sl, sd, sm, 1, rk, bk, ro, co, ch, bi, va⟩ : Stp) (⟨8, 0, (fun _ => 0), 0, 1, rk, bk, ro, co, ch, bi, va⟩ : Stp) ↔ RightS (⟨8, sl, sd, sm, 1, rk, bk, ro, co, ch, bi, va⟩ : Stp) := by
  constructor
  · rintro ⟨h1, h2, h3, h4, h5, h6, h7, h8, h9, h10, h11, h12⟩
    dsimp only at h1 h2 h4 h5 h6 h7 h8 h9 h10 h11 h12
    have h : SEQ (⟨8, sl, sd, sm, 1, rk, bk, ro, co, ch, bi, va⟩ : Stp) (⟨8, 0, (fun _ => 0), 0, 1, rk, bk, ro, co, 0, bi, 0⟩ : Stp) := ⟨h1, h2, h3, h4, h5, by first | rfl | (dsimp only; omega), by first | rfl | (dsimp only; omega), by first | rfl | (dsimp only; omega), by first | rfl | (dsimp only; omega), by first | rfl | (dsimp only; omega), by first | rfl | (dsimp only; omega), by first | rfl | (dsimp only; omega)⟩
    exact ⟨by dsimp only; omega, by dsimp only; omega, h, fun _ => by dsimp only; omega⟩
  · rintro ⟨_, _, h, _⟩
    have h : SEQ (⟨8, sl, sd, sm, 1, rk, bk, ro, co, ch, bi, va⟩ : Stp) (⟨8, 0, (fun _ => 0), 0, 1, rk, bk, ro, co, 0, bi, 0⟩ : Stp) := h
    obtain ⟨h1, h2, h3, h4, h5, h6, h7, h8, h9, h10, h11, h12⟩ := h
    exact ⟨h1, h2, h3, h4, h5, rfl, rfl, rfl, rfl, rfl, rfl, rfl⟩
theorem bareN_1 {sl rk bk ro co ch bi va : Int} {sd : Nat → Nat} {sm : Nat} (hz : ¬ (ch = 0 ∧ va = 0)) : ¬ RightS (⟨8, sl, sd, sm, 1, rk, bk, ro, co, ch, bi, va⟩ : Stp) := by
  rintro ⟨_, _, h, _⟩
  have h : SEQ (⟨8, sl, sd, sm, 1, rk, bk, ro, co, ch, bi, va⟩ : Stp) (⟨8, 0, (fun _ => 0), 0, 1, rk, bk, ro, co, 0, bi, 0⟩ : Stp) := h
  unfold SEQ at h
  dsimp only at h
  omega
theorem bareF_2 {sl rk bk ro co ch bi va : Int} {sd : Nat → Nat} {sm : Nat} (hz : ch = 0) : SEQ (⟨8, sl, sd, sm, 2, rk, bk, ro, co, ch, bi, va⟩ : Stp) (⟨8, 0, (fun _ => 0), 0, 2, rk, bk, ro, co, ch, bi, va⟩ : Stp) ↔ RightS (⟨8, sl, sd, sm, 2, rk, bk, ro, co, ch, bi, va⟩ : Stp) := by
  constructor
  · rintro ⟨h1, h2, h3, h4, h5, h6, h7, h8, h9, h10, h11, h12⟩
    dsimp only at h1 h2 h4 h5 h6 h7 h8 h9 h10 h11 h12
    have h : SEQ (⟨8, sl, sd, sm, 2, rk, bk, ro, co, ch, bi, va⟩ : Stp) (⟨8, 0, (fun _ => 0), 0, 2, rk, bk, ro, co, 0, bi, va⟩ : Stp) := ⟨h1, h2, h3, h4, h5, by first | rfl | (dsimp only; omega), by first | rfl | (dsimp only; omega), by first | rfl | (dsimp only; omega), by first | rfl | (dsimp only; omega), by first | rfl | (dsimp only; omega), by first | rfl | (dsimp only; omega), by first | rfl | (dsimp only; omega)⟩
    exact ⟨by dsimp only; omega, by dsimp only; omega, h, fun _ => by dsimp only; omega⟩
  · rintro ⟨_, _, h, _⟩
    have h : SEQ (⟨8, sl, sd, sm, 2, rk, bk, ro, co, ch, bi, va⟩ : Stp) (⟨8, 0, (fun _ => 0), 0, 2, rk, bk, ro, co, 0, bi, va⟩ : Stp) := h
    obtain ⟨h1, h2, h3, h4, h5, h6, h7, h8, h9, h10, h11, h12⟩ := h
    exact ⟨h1, h2, h3, h4, h5, rfl, rfl, rfl, rfl, rfl, rfl, rfl⟩
theorem bareN_2 {sl rk bk ro co ch bi va : Int} {sd : Nat → Nat} {sm : Nat} (hz : ¬ (ch = 0)) : ¬ RightS (⟨8, sl, sd, sm, 2, rk, bk, ro, co, ch, bi, va⟩ : Stp) := by
  rintro ⟨_, _, h, _⟩
  have h : SEQ (⟨8, sl, sd, sm, 2, rk, bk, ro, co, ch, bi, va⟩ : Stp) (⟨8, 0, (fun _ => 0), 0, 2, rk, bk, ro, co, 0, bi, va⟩ : Stp) := h
  unfold SEQ at h
  dsimp only at h
  omega
theorem bareF_3 {sl rk bk ro co ch bi va : Int} {sd : Nat → Nat} {sm : Nat} (hz : co = 0 ∧ bi = 0) : SEQ (⟨8, sl, sd, sm, 3, rk, bk, ro, co, ch, bi, va⟩ : Stp) (⟨8, 0, (fun _ => 0), 0, 3, rk, bk, ro, co, ch, bi, va⟩ : Stp) ↔ RightS (⟨8, sl, sd, sm, 3, rk, bk, ro, co, ch, bi, va⟩ : Stp) := by
  constructor
  · rintro ⟨h1, h2, h3, h4, h5, h6, h7, h8, h9, h10, h11, h12⟩
    dsimp only at h1 h2 h4 h5 h6 h7 h8 h9 h10 h11 h12
    have h : SEQ (⟨8, sl, sd, sm, 3, rk, bk, ro, co, ch, bi, va⟩ : Stp) (⟨8, 0, (fun _ => 0), 0, 3, rk, bk, ro, 0, ch, 0, va⟩ : Stp) := ⟨h1, h2, h3, h4, h5, by first | rfl | (dsimp only; omega), by first | rfl | (dsimp only; omega), by first | rfl | (dsimp only; omega), by first | rfl | (dsimp only; omega), by first | rfl | (dsimp only; omega), by first | rfl | (dsimp only; omega), by first | rfl | (dsimp only; omega)⟩
    exact ⟨by dsimp only; omega, by dsimp only; omega, h, fun _ => by dsimp only; omega⟩
  · rintro ⟨_, _, h, _⟩
    have h : SEQ (⟨8, sl, sd, sm, 3, rk, bk, ro, co, ch, bi, va⟩ : Stp) (⟨8, 0, (fun _ => 0), 0, 3, rk, bk, ro, 0, ch, 0, va⟩ : Stp) := h
    obtain ⟨h1, h2, h3, h4, h5, h6, h7, h8, h9, h10, h11, h12⟩ := h
    exact ⟨h1, h2, h3, h4, h5, rfl, rfl, rfl, rfl, rfl, rfl, rfl⟩
theorem bareN_3 {sl rk bk ro co ch bi va : Int} {sd : Nat → Nat} {sm : Nat} (hz : ¬ (co = 0 ∧ bi = 0)) : ¬ RightS (⟨8, sl, sd, sm, 3, rk, bk, ro, co, ch, bi, va⟩ : Stp) := by
  rintro ⟨_, _, h, _⟩
  have h : SEQ (⟨8, sl, sd, sm, 3, rk, bk, ro, co, ch, bi, va⟩ : Stp) (⟨8, 0, (fun _ => 0), 0, 3, rk, bk, ro, 0, ch, 0, va⟩ : Stp) := h
  unfold SEQ at h
  dsimp only at h
  omega
theorem bareF_4 {sl rk bk ro co ch bi va : Int} {sd : Nat → Nat} {sm : Nat} (hz : ro = 0 ∧ bi = 0) : SEQ (⟨8, sl, sd, sm, 4, rk, bk, ro, co, ch, bi, va⟩ : Stp) (⟨8, 0, (fun _ => 0), 0, 4, rk, bk, ro, co, ch, bi, va⟩ : Stp) ↔ RightS (⟨8, sl, sd, sm, 4, rk, bk, ro, co, ch, bi, va⟩ : Stp) := by
  constructor
  · rintro ⟨h1, h2, h3, h4, h5, h6, h7, h8, h9, h10, h11, h12⟩
    dsimp only at h1 h2 h4 h5 h6 h7 h8 h9 h10 h11 h12
    have h : SEQ (⟨8, sl, sd, sm, 4, rk, bk, ro, co, ch, bi, va⟩ : Stp) (⟨8, 0, (fun _ => 0), 0, 4, rk, bk, 0, co, ch, 0, va⟩ : Stp) := ⟨h1, h2, h3, h4, h5, by first | rfl | (dsimp only; omega), by first | rfl | (dsimp only; omega), by first | rfl | (dsimp only; omega), by first | rfl | (dsimp only; omega), by first | rfl | (dsimp only; omega), by first | rfl | (dsimp only; omega), by first | rfl | (dsimp only; omega)⟩
    exact ⟨by dsimp only; omega, by dsimp only; omega, h, fun _ => by dsimp only; omega⟩
  · rintro ⟨_, _, h, _⟩
    have h : SEQ (⟨8, sl, sd, sm, 4, rk, bk, ro, co, ch, bi, va⟩ : Stp) (⟨8, 0, (fun _ => 0), 0, 4, rk, bk, 0, co, ch, 0, va⟩ : Stp) := h
    obtain ⟨h1, h2, h3, h4, h5, h6, h7, h8, h9, h10, h11, h12⟩ := h
    exact ⟨h1, h2, h3, h4, h5, rfl, rfl, rfl, rfl, rfl, rfl, rfl⟩
theorem bareN_4 {sl rk bk ro co ch bi va : Int} {sd : Nat → Nat} {sm : Nat} (hz : ¬ (ro = 0 ∧ bi = 0)) : ¬ RightS (⟨8, sl, sd, sm, 4, rk, bk, ro, co, ch, bi, va⟩ : Stp) := by
  rintro ⟨_, _, h, _⟩
  have h : SEQ (⟨8, sl, sd, sm, 4, rk, bk, ro, co, ch, bi, va⟩ : Stp) (⟨8, 0, (fun _ => 0), 0, 4, rk, bk, 0, co, ch, 0, va⟩ : Stp) := h
  unfold SEQ at h
  dsimp only at h
  omega
theorem bareF_5 {sl rk bk ro co ch bi va : Int} {sd : Nat → Nat} {sm : Nat} (hz : bk = 0 ∧ ro = 0 ∧ co = 0 ∧ bi = 0) : SEQ (⟨8, sl, sd, sm, 5, rk, bk, ro, co, ch, bi, va⟩ : Stp) (⟨8, 0, (fun _ => 0), 0, 5, rk, bk, ro, co, ch, bi, va⟩ : Stp) ↔ RightS (⟨8, sl, sd, sm, 5, rk, bk, ro, co, ch, bi, va⟩ : Stp) := by
  constructor
  · rintro ⟨h1, h2, h3, h4, h5, h6, h7, h8, h9, h10, h11, h12⟩
    dsimp only at h1 h2 h4 h5 h6 h7 h8 h9 h10 h11 h12
    have h : SEQ (⟨8, sl, sd, sm, 5, rk, bk, ro, co, ch, bi, va⟩ : Stp) (⟨8, 0, (fun _ => 0), 0, 5, rk, 0, 0, 0, ch, 0, va⟩ : Stp) := ⟨h1, h2, h3, h4, h5, by first | rfl | (dsimp only; omega), by first | rfl | (dsimp only; omega), by first | rfl | (dsimp only; omega), by first | rfl | (dsimp only; omega), by first | rfl | (dsimp only; omega), by first | rfl | (dsimp only; omega), by first | rfl | (dsimp only; omega)⟩
    exact ⟨by dsimp only; omega, by dsimp only; omega, h, fun _ => by dsimp only; omega⟩
  · rintro ⟨_, _, h, _⟩
    have h : SEQ (⟨8, sl, sd, sm, 5, rk, bk, ro, co, ch, bi, va⟩ : Stp) (⟨8, 0, (fun _ => 0), 0, 5, rk, 0, 0, 0, ch, 0, va⟩ : Stp) := h
    obtain ⟨h1, h2, h3, h4, h5, h6, h7, h8, h9, h10, h11, h12⟩ := h
    exact ⟨h1, h2, h3, h4, h5, rfl, rfl, rfl, rfl, rfl, rfl, rfl⟩
theorem bareN_5 {sl rk bk ro co ch bi va : Int} {sd : Nat → Nat} {sm : Nat} (hz : ¬ (bk = 0 ∧ ro = 0 ∧ co = 0 ∧ bi = 0)) : ¬ RightS (⟨8, sl, sd, sm, 5, rk, bk, ro, co, ch, bi, va⟩ : Stp) := by
  rintro ⟨_, _, h, _⟩
  have h : SEQ (⟨8, sl, sd, sm, 5, rk, bk, ro, co, ch, bi, va⟩ : Stp) (⟨8, 0, (fun _ => 0), 0, 5, rk, 0, 0, 0, ch, 0, va⟩ : Stp) := h
  unfold SEQ at h
  dsimp only at h
  omega
theorem bareF_6 {sl rk bk ro co ch bi va : Int} {sd : Nat → Nat} {sm : Nat} (hz : ch = 0 ∧ bi = 0 ∧ va = 0) : SEQ (⟨8, sl, sd, sm, 6, rk, bk, ro, co, ch, bi, va⟩ : Stp) (⟨8, 0, (fun _ => 0), 0, 6, rk, bk, ro, co, ch, bi, va⟩ : Stp) ↔ RightS (⟨8, sl, sd, sm, 6, rk, bk, ro, co, ch, bi, va⟩ : Stp) := by
  constructor
  · rintro ⟨h1, h2, h3, h4, h5, h6, h7, h8, h9, h10, h11, h12⟩
    dsimp only at h1 h2 h4 h5 h6 h7 h8 h9 h10 h11 h12
    have h : SEQ (⟨8, sl, sd, sm, 6, rk, bk, ro, co, ch, bi, va⟩ : Stp) (⟨8, 0, (fun _ => 0), 0, 6, rk, bk, ro, co, 0, 0, 0⟩ : Stp) := ⟨h1, h2, h3, h4, h5, by first | rfl | (dsimp only; omega), by first | rfl | (dsimp only; omega), by first | rfl | (dsimp only; omega), by first | rfl | (dsimp only; omega), by first | rfl | (dsimp only; omega), by first | rfl | (dsimp only; omega), by first | rfl | (dsimp only; omega)⟩
    exact ⟨by dsimp only; omega, by dsimp only; omega, h, fun _ => by dsimp only; omega⟩
  · rintro ⟨_, _, h, _⟩
    have h : SEQ (⟨8, sl, sd, sm, 6, rk, bk, ro, co, ch, bi, va⟩ : Stp) (⟨8, 0, (fun _ => 0), 0, 6, rk, bk, ro, co, 0, 0, 0⟩ : Stp) := h
    obtain ⟨h1, h2, h3, h4, h5, h6, h7, h8, h9, h10, h11, h12⟩ := h
    exact ⟨h1, h2, h3, h4, h5, rfl, rfl, rfl, rfl, rfl, rfl, rfl⟩
theorem bareN_6 {sl rk bk ro co ch bi va : Int} {sd : Nat → Nat} {sm : Nat} (hz : ¬ (ch = 0 ∧ bi = 0 ∧ va = 0)) : ¬ RightS (⟨8, sl, sd, sm, 6, rk, bk, ro, co, ch, bi, va⟩ : Stp) := by
  rintro ⟨_, _, h, _⟩
  have h : SEQ (⟨8, sl, sd, sm, 6, rk, bk, ro, co, ch, bi, va⟩ : Stp) (⟨8, 0, (fun _ => 0), 0, 6, rk, bk, ro, co, 0, 0, 0⟩ : Stp) := h
  unfold SEQ at h
  dsimp only at h
  omega
theorem bareF_7 {sl rk bk ro co ch bi va : Int} {sd : Nat → Nat} {sm : Nat} (hz : rk = 0 ∧ bk = 0 ∧ ro = 0 ∧ co = 0 ∧ ch = 0 ∧ bi = 0 ∧ va = 0) : SEQ (⟨8, sl, sd, sm, 7, rk, bk, ro, co, ch, bi, va⟩ : Stp) (⟨8, 0, (fun _ => 0), 0, 7, rk, bk, ro, co, ch, bi, va⟩ : Stp) ↔ RightS (⟨8, sl, sd, sm, 7, rk, bk, ro, co, ch, bi, va⟩ : Stp) := by
  constructor
  · rintro ⟨h1, h2, h3, h4, h5, h6, h7, h8, h9, h10, h11, h12⟩
    dsimp only at h1 h2 h4 h5 h6 h7 h8 h9 h10 h11 h12
    have h : SEQ (⟨8, sl, sd, sm, 7, rk, bk, ro, co, ch, bi, va⟩ : Stp) (⟨8, 0, (fun _ => 0), 0, 7, 0, 0, 0, 0, 0, 0, 0⟩ : Stp) := ⟨h1, h2, h3, h4, h5, by first | rfl | (dsimp only; omega), by first | rfl | (dsimp only; omega), by first | rfl | (dsimp only; omega), by first | rfl | (dsimp only; omega), by first | rfl | (dsimp only; omega), by first | rfl | (dsimp only; omega), by first | rfl | (dsimp only; omega)⟩
    exact ⟨by dsimp only; omega, by dsimp only; omega, h, fun _ => by dsimp only; omega⟩
  · rintro ⟨_, _, h, _⟩
    have h : SEQ (⟨8, sl, sd, sm, 7, rk, bk, ro, co, ch, bi, va⟩ : Stp) (⟨8, 0, (fun _ => 0), 0, 7, 0, 0, 0, 0, 0, 0, 0⟩ : Stp) := h
    obtain ⟨h1, h2, h3, h4, h5, h6, h7, h8, h9, h10, h11, h12⟩ := h
    exact ⟨h1, h2, h3, h4, h5, rfl, rfl, rfl, rfl, rfl, rfl, rfl⟩
theorem bareN_7 {sl rk bk ro co ch bi va : Int} {sd : Nat → Nat} {sm : Nat} (hz : ¬ (rk = 0 ∧ bk = 0 ∧ ro = 0 ∧ co = 0 ∧ ch = 0 ∧ bi = 0 ∧ va = 0)) : ¬ RightS (⟨8, sl, sd, sm, 7, rk, bk, ro, co, ch, bi, va⟩ : Stp) := by
  rintro ⟨_, _, h, _⟩
  have h : SEQ (⟨8, sl, sd, sm, 7, rk, bk, ro, co, ch, bi, va⟩ : Stp) (⟨8, 0, (fun _ => 0), 0, 7, 0, 0, 0, 0, 0, 0, 0⟩ : Stp) := h
  unfold SEQ at h
  dsimp only at h
  omega
theorem shown_of {x : Stp} (hx : Rng x) (w : World) : Calls Tryd.prog 16 #[.agg (stepA x)] w fun e w' => ∃ t, e = .returned (.tuple #[S t, .bool (decide (RightS x))]) ∧ (RightS x → t = txtS x) ∧ Below w.heap.size w w' := by
  obtain ⟨sk, sl, sd, sm, fk, rk, bk, ro, co, ch, bi, va⟩ := x
  by_cases ho : sk < 1 ∨ 8 < sk
  · have hn : ¬ RightS ⟨sk, sl, sd, sm, fk, rk, bk, ro, co, ch, bi, va⟩ := fun h => by obtain ⟨h1, h2, _⟩ := h; dsimp only at h1 h2; omega
    exact (shown_o ho w).mono fun e w' ⟨h1, h2⟩ => ⟨_, by rw [decide_eq_false hn]; exact h1, fun h => absurd h hn, h2⟩
  have hk : ∀ k : Int, 1 ≤ k → k ≤ 7 → (SEQ (⟨k, sl, sd, sm, fk, rk, bk, ro, co, ch, bi, va⟩ : Stp) (bareS ⟨k, sl, sd, sm, fk, rk, bk, ro, co, ch, bi, va⟩) ↔ RightS ⟨k, sl, sd, sm, fk, rk, bk, ro, co, ch, bi, va⟩) := fun k h1 h2 =>
    ⟨fun h => ⟨h1, by dsimp only; omega, h, fun h => by dsimp only at h; omega⟩, fun h => h.2.2.1⟩
  have : sk = 1 ∨ sk = 2 ∨ sk = 3 ∨ sk = 4 ∨ sk = 5 ∨ sk = 6 ∨ sk = 7 ∨ sk = 8 := by omega
  rcases this with rfl | rfl | rfl | rfl | rfl | rfl | rfl | rfl
  · exact (shown_1 hx w).mono fun e w' ⟨h1, h2⟩ => ⟨_, by rw [decide_eq_decide.2 (hk 1 (by decide) (by decide))] at h1; exact h1, fun _ => rfl, h2⟩
  · exact (shown_2 hx w).mono fun e w' ⟨h1, h2⟩ => ⟨_, by rw [decide_eq_decide.2 (hk 2 (by decide) (by decide))] at h1; exact h1, fun _ => rfl, h2⟩
  · exact (shown_3 hx w).mono fun e w' ⟨h1, h2⟩ => ⟨_, by rw [decide_eq_decide.2 (hk 3 (by decide) (by decide))] at h1; exact h1, fun _ => rfl, h2⟩
  · exact (shown_4 hx w).mono fun e w' ⟨h1, h2⟩ => ⟨_, by rw [decide_eq_decide.2 (hk 4 (by decide) (by decide))] at h1; exact h1, fun _ => rfl, h2⟩
  · exact (shown_5 hx w).mono fun e w' ⟨h1, h2⟩ => ⟨_, by rw [decide_eq_decide.2 (hk 5 (by decide) (by decide))] at h1; exact h1, fun _ => rfl, h2⟩
  · exact (shown_6 hx w).mono fun e w' ⟨h1, h2⟩ => ⟨_, by rw [decide_eq_decide.2 (hk 6 (by decide) (by decide))] at h1; exact h1, fun _ => rfl, h2⟩
  · exact (shown_7 hx w).mono fun e w' ⟨h1, h2⟩ => ⟨_, by rw [decide_eq_decide.2 (hk 7 (by decide) (by decide))] at h1; exact h1, fun _ => rfl, h2⟩
  by_cases hlo : fk < 1
  · have hn : ¬ RightS ⟨8, sl, sd, sm, fk, rk, bk, ro, co, ch, bi, va⟩ := fun h => by have := h.2.2.2 rfl; dsimp only at this; omega
    exact (shown_8lo hlo w).mono fun e w' ⟨h1, h2⟩ => ⟨_, by rw [decide_eq_false hn]; exact h1, fun h => absurd h hn, h2⟩
  by_cases hhi : 7 < fk
  · have hn : ¬ RightS ⟨8, sl, sd, sm, fk, rk, bk, ro, co, ch, bi, va⟩ := fun h => by have := h.2.2.2 rfl; dsimp only at this; omega
    exact (shown_8hi hhi w).mono fun e w' ⟨h1, h2⟩ => ⟨_, by rw [decide_eq_false hn]; exact h1, fun h => absurd h hn, h2⟩
  have : fk = 1 ∨ fk = 2 ∨ fk = 3 ∨ fk = 4 ∨ fk = 5 ∨ fk = 6 ∨ fk = 7 := by omega
  rcases this with rfl | rfl | rfl | rfl | rfl | rfl | rfl
  · by_cases hz : ch = 0 ∧ va = 0
    · exact (shown_8y1 hx hz w).mono fun e w' ⟨h1, h2⟩ => ⟨_, by rw [decide_eq_decide.2 (bareF_1 hz)] at h1; exact h1, fun _ => rfl, h2⟩
    · exact (shown_8n1 hx hz w).mono fun e w' ⟨h1, h2⟩ => ⟨_, by rw [decide_eq_false (bareN_1 hz)]; exact h1, fun h => absurd h (bareN_1 hz), h2⟩
  · by_cases hz : ch = 0
    · exact (shown_8y2 hx hz w).mono fun e w' ⟨h1, h2⟩ => ⟨_, by rw [decide_eq_decide.2 (bareF_2 hz)] at h1; exact h1, fun _ => rfl, h2⟩
    · exact (shown_8n2 hx hz w).mono fun e w' ⟨h1, h2⟩ => ⟨_, by rw [decide_eq_false (bareN_2 hz)]; exact h1, fun h => absurd h (bareN_2 hz), h2⟩
  · by_cases hz : co = 0 ∧ bi = 0
    · exact (shown_8y3 hx hz w).mono fun e w' ⟨h1, h2⟩ => ⟨_, by rw [decide_eq_decide.2 (bareF_3 hz)] at h1; exact h1, fun _ => rfl, h2⟩
    · exact (shown_8n3 hx hz w).mono fun e w' ⟨h1, h2⟩ => ⟨_, by rw [decide_eq_false (bareN_3 hz)]; exact h1, fun h => absurd h (bareN_3 hz), h2⟩
  · by_cases hz : ro = 0 ∧ bi = 0
    · exact (shown_8y4 hx hz w).mono fun e w' ⟨h1, h2⟩ => ⟨_, by rw [decide_eq_decide.2 (bareF_4 hz)] at h1; exact h1, fun _ => rfl, h2⟩
    · exact (shown_8n4 hx hz w).mono fun e w' ⟨h1, h2⟩ => ⟨_, by rw [decide_eq_false (bareN_4 hz)]; exact h1, fun h => absurd h (bareN_4 hz), h2⟩
  · by_cases hz : bk = 0 ∧ ro = 0 ∧ co = 0 ∧ bi = 0
    · exact (shown_8y5 hx hz w).mono fun e w' ⟨h1, h2⟩ => ⟨_, by rw [decide_eq_decide.2 (bareF_5 hz)] at h1; exact h1, fun _ => rfl, h2⟩
    · exact (shown_8n5 hx hz w).mono fun e w' ⟨h1, h2⟩ => ⟨_, by rw [decide_eq_false (bareN_5 hz)]; exact h1, fun h => absurd h (bareN_5 hz), h2⟩
  · by_cases hz : ch = 0 ∧ bi = 0 ∧ va = 0
    · exact (shown_8y6 hx hz w).mono fun e w' ⟨h1, h2⟩ => ⟨_, by rw [decide_eq_decide.2 (bareF_6 hz)] at h1; exact h1, fun _ => rfl, h2⟩
    · exact (shown_8n6 hx hz w).mono fun e w' ⟨h1, h2⟩ => ⟨_, by rw [decide_eq_false (bareN_6 hz)]; exact h1, fun h => absurd h (bareN_6 hz), h2⟩
  · by_cases hz : rk = 0 ∧ bk = 0 ∧ ro = 0 ∧ co = 0 ∧ ch = 0 ∧ bi = 0 ∧ va = 0
    · exact (shown_8y7 hx hz w).mono fun e w' ⟨h1, h2⟩ => ⟨_, by rw [decide_eq_decide.2 (bareF_7 hz)] at h1; exact h1, fun _ => rfl, h2⟩
    · exact (shown_8n7 hx hz w).mono fun e w' ⟨h1, h2⟩ => ⟨_, by rw [decide_eq_false (bareN_7 hz)]; exact h1, fun h => absurd h (bareN_7 hz), h2⟩
end Go.Proofs.YtjbaabffilejeaaDoor
