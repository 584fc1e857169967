/- Contracts: regs.Unpack. -/
import Derived.Test.YthmbiddnpogolaaRegsPack
import Derived.Test.YthmbiddnpogolaaPx
namespace Go.Proofs.Ythmbiddnpogolaa
open Go Go.RowKit
set_option linter.unusedVariables false
set_option linter.unusedSimpArgs false

theorem pack_lt {M R S B O C W V b : Nat} (h : M < 65536 ∧ R < 65536 ∧ S < 65536 ∧ B < 65536 ∧ O < 65536 ∧ C < 65536 ∧ W < 65536 ∧ V < 65536 ∧ b < 65536) : P26.joinN (packF M R S B O C W V b) < 18446744073709551616 :=
  P26.join_lt _ (packF_ok h).2
theorem parts9 (X : Nat) : partsN X [2, 4, 4, 5, 11, 7, 2, 7, 1] = [.int .i64 (P26.getV X 0 2), .int .i64 (P26.getV X 2 4), .int .i64 (P26.getV X 6 4), .int .i64 (P26.getV X 10 5), .int .i64 (P26.getV X 15 11), .int .i64 (P26.getV X 26 7), .int .i64 (P26.getV X 33 2), .int .i64 (P26.getV X 35 7), .int .i64 (P26.getV X 42 1)] := rfl
theorem widths9 {w : World} {g : Nat} {t : TypeId} (h : w.heap[g]? = some (.cells #[.int .i64 2, .int .i64 4, .int .i64 4, .int .i64 5, .int .i64 11, .int .i64 7, .int .i64 2, .int .i64 7, .int .i64 1] t (0, 0))) : widthsAt w g [2, 4, 4, 5, 11, 7, 2, 7, 1] := by
  intro i hi
  match i, hi with
  | 0, _ => exact cellBlk h rfl
  | 1, _ => exact cellBlk h rfl
  | 2, _ => exact cellBlk h rfl
  | 3, _ => exact cellBlk h rfl
  | 4, _ => exact cellBlk h rfl
  | 5, _ => exact cellBlk h rfl
  | 6, _ => exact cellBlk h rfl
  | 7, _ => exact cellBlk h rfl
  | 8, _ => exact cellBlk h rfl
def unV (c : Bool) (M R S B O C W V : Nat) (bq : Bool) : Value :=
  if c then .tuple #[.agg #[.int .i64 R, .int .i64 S, .int .i64 B, .int .i64 O, .int .i64 C, .int .i64 W, .int .i64 V], .int .i64 M, .bool bq, .int .i64 0]
  else .tuple #[.agg #[.int .i64 0, .int .i64 0, .int .i64 0, .int .i64 0, .int .i64 0, .int .i64 0, .int .i64 0], .int .i64 0, .bool false, .int .i64 10]

set_option maxRecDepth 100000 in
set_option maxHeartbeats 1000000 in
theorem Unpack_w (X M R S B O C W V b : Nat) (hp : partsN X [2, 4, 4, 5, 11, 7, 2, 7, 1] = [.int .i64 M, .int .i64 R, .int .i64 S, .int .i64 B, .int .i64 O, .int .i64 C, .int .i64 W, .int .i64 V, .int .i64 b]) (hX : X < 18446744073709551616) (hN : M < 65536 ∧ R < 65536 ∧ S < 65536 ∧ B < 65536 ∧ O < 65536 ∧ C < 65536 ∧ W < 65536 ∧ V < 65536) (Q : Nat) (hQ : P26.joinN (packF M R S B O C W V (if decide (((b : Nat) : Int) = 1) = true then 1 else 0)) = Q) (w0 : World) :
    Calls Try.prog 52 #[.int .u64 ((X : Nat) : Int)] w0 fun e w' => e = .returned (unV ((decide (((M : Nat) : Int) = 1) || decide (((M : Nat) : Int) = 2)) && (layoutOk ((R : Nat) : Int) ((S : Nat) : Int) ((B : Nat) : Int) ((O : Nat) : Int) ((C : Nat) : Int) ((W : Nat) : Int) ((V : Nat) : Int) && decide (((Q : Nat) : Int) = ((X : Nat) : Int)))) M R S B O C W V (decide (((b : Nat) : Int) = 1))) ∧ Below w0.heap.size w0 w' := by
  have HP := Lib.hid hp
  obtain ⟨n1, n2, n3, n4, n5, n6, n7, n8⟩ := hN
  have packQ : ∀ w, Calls Try.prog 75 #[.agg #[.int .i64 R, .int .i64 S, .int .i64 B, .int .i64 O, .int .i64 C, .int .i64 W, .int .i64 V], .int .i64 M, .bool (decide (((b : Nat) : Int) = 1))] w fun e w' => e = .returned (.int .u64 ((Q : Nat) : Int)) ∧ Below w.heap.size w w' := fun w => by rw [← hQ]; exact pack_any M R S B O C W V _ ⟨n1, n2, n3, n4, n5, n6, n7, n8⟩ w
  refine x_enter Try.func52 rfl #[.int .u64 ((X : Nat) : Int), undef, undef, undef, undef, undef, undef, undef, undef, undef, undef, undef, undef, undef, undef, undef, undef, undef, undef, undef, undef, undef, undef, undef, undef, undef, undef, undef, undef, undef, undef, undef, undef, undef, undef, undef, undef, undef, undef, undef, undef, undef, undef, undef, undef, undef, undef, undef, undef, undef, undef, undef, undef, undef, undef, undef, undef, undef, undef, undef, undef, undef, undef, undef, undef, undef] (by kernel_rfl) ?_
  have H := Hs.nil w0
  refine x_seq ?_
  refine x_region ?_
  refine x_box H #[.int .i64 0, .int .i64 0, .int .i64 0, .int .i64 0, .int .i64 0, .int .i64 0, .int .i64 0] 100 (by kernel_rfl) rfl (by kernel_rfl) ?_
  clear H
  intro v1 g1 H
  refine x_val (.int .i64 0) (by kernel_rfl) rfl (by kernel_rfl) ?_
  refine x_val (.bool false) (by kernel_rfl) rfl (by kernel_rfl) ?_
  refine x_val (.int .i64 0) (by kernel_rfl) rfl (by kernel_rfl) ?_
  refine x_nil ?_
  refine x_then ?_
  refine x_seq ?_
  refine x_region ?_
  refine x_val (.int .u64 ((X : Nat) : Int)) (by kernel_rfl) rfl (by kernel_rfl) ?_
  refine x_box' H #[.int .i64 2, .int .i64 4, .int .i64 4, .int .i64 5, .int .i64 11, .int .i64 7, .int .i64 2, .int .i64 7, .int .i64 1] 3 9 (by kernel_rfl) rfl (by kernel_rfl) ?_
  clear H
  intro v2 g2 H
  refine x_call (by kernel_rfl) rfl (by kernel_rfl) (part_any X g2 9 [2, 4, 4, 5, 11, 7, 2, 7, 1] hX (by decide) (by decide) (by decide) _ (heap_lt (H.blk 0 rfl)) (widths9 (H.blk 0 rfl))) ?_
  rintro _ v3 ⟨v, rfl, hown, hb⟩
  refine ⟨_, rfl, ?_⟩
  rw [HP.out] at hown
  replace H := H.addRow hb (Nat.le_refl _) hown
  obtain ⟨g, cap, rfl, -⟩ := rowSome hown (by decide)
  clear hown hb
  refine x_val (.slice (some ⟨g, 0, none⟩) 9 cap) (by kernel_rfl) rfl (by kernel_rfl) ?_
  refine x_nil ?_
  refine x_then ?_
  refine x_seq ?_
  refine x_region_s 25 (fun w' => Hs [] w0 w' [.row (.slice (some ⟨g, 0, none⟩) 9 cap) 3 1 9 ([.int .i64 ((M : Nat) : Int), .int .i64 ((R : Nat) : Int), .int .i64 ((S : Nat) : Int), .int .i64 ((B : Nat) : Int), .int .i64 ((O : Nat) : Int), .int .i64 ((C : Nat) : Int), .int .i64 ((W : Nat) : Int), .int .i64 ((V : Nat) : Int), .int .i64 ((b : Nat) : Int)]), .blk g2 #[.int .i64 2, .int .i64 4, .int .i64 4, .int .i64 5, .int .i64 11, .int .i64 7, .int .i64 2, .int .i64 7, .int .i64 1] 3, .blk g1 #[.int .i64 0, .int .i64 0, .int .i64 0, .int .i64 0, .int .i64 0, .int .i64 0, .int .i64 0] 100]) (fun w' => Hs [] w0 w' [.row (.slice (some ⟨g, 0, none⟩) 9 cap) 3 1 9 ([.int .i64 ((M : Nat) : Int), .int .i64 ((R : Nat) : Int), .int .i64 ((S : Nat) : Int), .int .i64 ((B : Nat) : Int), .int .i64 ((O : Nat) : Int), .int .i64 ((C : Nat) : Int), .int .i64 ((W : Nat) : Int), .int .i64 ((V : Nat) : Int), .int .i64 ((b : Nat) : Int)]), .blk g2 #[.int .i64 2, .int .i64 4, .int .i64 4, .int .i64 5, .int .i64 11, .int .i64 7, .int .i64 2, .int .i64 7, .int .i64 1] 3, .blk g1 #[.int .i64 0, .int .i64 0, .int .i64 0, .int .i64 0, .int .i64 0, .int .i64 0, .int .i64 0] 100]) (by kernel_rfl) (by kernel_rfl) (by kernel_rfl) hsShut (fun _ h => h.pick [0, 1, 2] _ (by decide) (by kernel_rfl)) H.drew ?_
  refine s_quiet 0 rfl (by kernel_rfl) (y_val (.slice (some ⟨g, 0, none⟩) 9 cap) (by kernel_rfl) (fun _ => by kernel_rfl)) ?_
  refine s_quiet 1 rfl (by kernel_rfl) (y_val (.pointer (some ⟨g, 1, none⟩)) (by kernel_rfl) (fun _ => by kernel_rfl)) ?_
  refine s_quiet 2 rfl (by kernel_rfl) (y_loadc g 1 (.int .i64 ((R : Nat) : Int)) (fun _ H => H.rowCell 0 rfl 1 rfl) (by kernel_rfl) (fun _ => by kernel_rfl)) ?_
  refine s_quiet 3 rfl (by kernel_rfl) (y_val (.slice (some ⟨g, 0, none⟩) 9 cap) (by kernel_rfl) (fun _ => by kernel_rfl)) ?_
  refine s_quiet 4 rfl (by kernel_rfl) (y_val (.pointer (some ⟨g, 2, none⟩)) (by kernel_rfl) (fun _ => by kernel_rfl)) ?_
  refine s_quiet 5 rfl (by kernel_rfl) (y_loadc g 2 (.int .i64 ((S : Nat) : Int)) (fun _ H => H.rowCell 0 rfl 2 rfl) (by kernel_rfl) (fun _ => by kernel_rfl)) ?_
  refine s_quiet 6 rfl (by kernel_rfl) (y_val (.slice (some ⟨g, 0, none⟩) 9 cap) (by kernel_rfl) (fun _ => by kernel_rfl)) ?_
  refine s_quiet 7 rfl (by kernel_rfl) (y_val (.pointer (some ⟨g, 3, none⟩)) (by kernel_rfl) (fun _ => by kernel_rfl)) ?_
  refine s_quiet 8 rfl (by kernel_rfl) (y_loadc g 3 (.int .i64 ((B : Nat) : Int)) (fun _ H => H.rowCell 0 rfl 3 rfl) (by kernel_rfl) (fun _ => by kernel_rfl)) ?_
  refine s_quiet 9 rfl (by kernel_rfl) (y_val (.slice (some ⟨g, 0, none⟩) 9 cap) (by kernel_rfl) (fun _ => by kernel_rfl)) ?_
  refine s_quiet 10 rfl (by kernel_rfl) (y_val (.pointer (some ⟨g, 4, none⟩)) (by kernel_rfl) (fun _ => by kernel_rfl)) ?_
  refine s_quiet 11 rfl (by kernel_rfl) (y_loadc g 4 (.int .i64 ((O : Nat) : Int)) (fun _ H => H.rowCell 0 rfl 4 rfl) (by kernel_rfl) (fun _ => by kernel_rfl)) ?_
  refine s_quiet 12 rfl (by kernel_rfl) (y_val (.slice (some ⟨g, 0, none⟩) 9 cap) (by kernel_rfl) (fun _ => by kernel_rfl)) ?_
  refine s_quiet 13 rfl (by kernel_rfl) (y_val (.pointer (some ⟨g, 5, none⟩)) (by kernel_rfl) (fun _ => by kernel_rfl)) ?_
  refine s_quiet 14 rfl (by kernel_rfl) (y_loadc g 5 (.int .i64 ((C : Nat) : Int)) (fun _ H => H.rowCell 0 rfl 5 rfl) (by kernel_rfl) (fun _ => by kernel_rfl)) ?_
  refine s_quiet 15 rfl (by kernel_rfl) (y_val (.agg #[.int .i64 ((R : Nat) : Int), .int .i64 ((S : Nat) : Int), .int .i64 ((B : Nat) : Int), .int .i64 ((O : Nat) : Int), .int .i64 ((C : Nat) : Int)]) (by kernel_rfl) (fun _ => by kernel_rfl)) ?_
  refine s_quiet 16 rfl (by kernel_rfl) (y_val (.slice (some ⟨g, 0, none⟩) 9 cap) (by kernel_rfl) (fun _ => by kernel_rfl)) ?_
  refine s_quiet 17 rfl (by kernel_rfl) (y_val (.pointer (some ⟨g, 6, none⟩)) (by kernel_rfl) (fun _ => by kernel_rfl)) ?_
  refine s_quiet 18 rfl (by kernel_rfl) (y_loadc g 6 (.int .i64 ((W : Nat) : Int)) (fun _ H => H.rowCell 0 rfl 6 rfl) (by kernel_rfl) (fun _ => by kernel_rfl)) ?_
  refine s_quiet 19 rfl (by kernel_rfl) (y_val (.slice (some ⟨g, 0, none⟩) 9 cap) (by kernel_rfl) (fun _ => by kernel_rfl)) ?_
  refine s_quiet 20 rfl (by kernel_rfl) (y_val (.pointer (some ⟨g, 7, none⟩)) (by kernel_rfl) (fun _ => by kernel_rfl)) ?_
  refine s_quiet 21 rfl (by kernel_rfl) (y_loadc g 7 (.int .i64 ((V : Nat) : Int)) (fun _ H => H.rowCell 0 rfl 7 rfl) (by kernel_rfl) (fun _ => by kernel_rfl)) ?_
  refine s_quiet 22 rfl (by kernel_rfl) (y_val (.agg #[.int .i64 ((R : Nat) : Int), .int .i64 ((S : Nat) : Int), .int .i64 ((B : Nat) : Int), .int .i64 ((O : Nat) : Int), .int .i64 ((C : Nat) : Int), .int .i64 ((W : Nat) : Int), .int .i64 ((V : Nat) : Int)]) (by kernel_rfl) (fun _ => by kernel_rfl)) ?_
  refine s_one 23 rfl (by kernel_rfl) rfl ?_
  clear H
  intro v4 H
  refine x_box H #[.int .i64 0, .int .i64 0, .int .i64 0, .int .i64 0, .int .i64 0, .int .i64 0, .int .i64 0] 100 (by kernel_rfl) rfl (by kernel_rfl) ?_
  clear H
  intro v5 g3 H
  refine x_nil ?_
  refine x_then ?_
  refine ⟨fun w' => Hs [] w0 w' [.row (.slice (some ⟨g, 0, none⟩) 9 cap) 3 1 9 ([.int .i64 ((M : Nat) : Int), .int .i64 ((R : Nat) : Int), .int .i64 ((S : Nat) : Int), .int .i64 ((B : Nat) : Int), .int .i64 ((O : Nat) : Int), .int .i64 ((C : Nat) : Int), .int .i64 ((W : Nat) : Int), .int .i64 ((V : Nat) : Int), .int .i64 ((b : Nat) : Int)]), .blk g2 #[.int .i64 2, .int .i64 4, .int .i64 4, .int .i64 5, .int .i64 11, .int .i64 7, .int .i64 2, .int .i64 7, .int .i64 1] 3, .blk g1 #[.int .i64 0, .int .i64 0, .int .i64 0, .int .i64 0, .int .i64 0, .int .i64 0, .int .i64 0] 100], fun w' => Hs [] w0 w' [.blk g3 #[.int .i64 0, .int .i64 0, .int .i64 0, .int .i64 0, .int .i64 0, .int .i64 0, .int .i64 0] 100, .row (.slice (some ⟨g, 0, none⟩) 9 cap) 3 1 9 ([.int .i64 ((M : Nat) : Int), .int .i64 ((R : Nat) : Int), .int .i64 ((S : Nat) : Int), .int .i64 ((B : Nat) : Int), .int .i64 ((O : Nat) : Int), .int .i64 ((C : Nat) : Int), .int .i64 ((W : Nat) : Int), .int .i64 ((V : Nat) : Int), .int .i64 ((b : Nat) : Int)]), .blk g2 #[.int .i64 2, .int .i64 4, .int .i64 4, .int .i64 5, .int .i64 11, .int .i64 7, .int .i64 2, .int .i64 7, .int .i64 1] 3, .blk g1 #[.int .i64 0, .int .i64 0, .int .i64 0, .int .i64 0, .int .i64 0, .int .i64 0, .int .i64 0] 100], H, hsShut, fun _ h => h.pick [1, 2, 3] _ (by decide) (by kernel_rfl), fun _ h => h.pick [0, 1, 2] _ (by decide) (by kernel_rfl), ?_⟩
  refine s_one 24 rfl (by kernel_rfl) rfl ?_
  clear H
  intro v6 H
  refine x_store (t := 100) (v := .agg #[.int .i64 ((R : Nat) : Int), .int .i64 ((S : Nat) : Int), .int .i64 ((B : Nat) : Int), .int .i64 ((O : Nat) : Int), .int .i64 ((C : Nat) : Int), .int .i64 ((W : Nat) : Int), .int .i64 ((V : Nat) : Int)]) H 0 g3 0 #[.int .i64 0, .int .i64 0, .int .i64 0, .int .i64 0, .int .i64 0, .int .i64 0, .int .i64 0] #[.int .i64 ((R : Nat) : Int), .int .i64 ((S : Nat) : Int), .int .i64 ((B : Nat) : Int), .int .i64 ((O : Nat) : Int), .int .i64 ((C : Nat) : Int), .int .i64 ((W : Nat) : Int), .int .i64 ((V : Nat) : Int)] 100 [.int .i64 ((R : Nat) : Int), .int .i64 ((S : Nat) : Int), .int .i64 ((B : Nat) : Int), .int .i64 ((O : Nat) : Int), .int .i64 ((C : Nat) : Int), .int .i64 ((W : Nat) : Int), .int .i64 ((V : Nat) : Int)] [.blk g3 #[.int .i64 ((R : Nat) : Int), .int .i64 ((S : Nat) : Int), .int .i64 ((B : Nat) : Int), .int .i64 ((O : Nat) : Int), .int .i64 ((C : Nat) : Int), .int .i64 ((W : Nat) : Int), .int .i64 ((V : Nat) : Int)] 100, .row (.slice (some ⟨g, 0, none⟩) 9 cap) 3 1 9 ([.int .i64 ((M : Nat) : Int), .int .i64 ((R : Nat) : Int), .int .i64 ((S : Nat) : Int), .int .i64 ((B : Nat) : Int), .int .i64 ((O : Nat) : Int), .int .i64 ((C : Nat) : Int), .int .i64 ((W : Nat) : Int), .int .i64 ((V : Nat) : Int), .int .i64 ((b : Nat) : Int)]), .blk g2 #[.int .i64 2, .int .i64 4, .int .i64 4, .int .i64 5, .int .i64 11, .int .i64 7, .int .i64 2, .int .i64 7, .int .i64 1] 3, .blk g1 #[.int .i64 0, .int .i64 0, .int .i64 0, .int .i64 0, .int .i64 0, .int .i64 0, .int .i64 0] 100] (by kernel_rfl) rfl (by kernel_rfl) (by kernel_rfl) (by kernel_rfl) (by kernel_rfl) (by kernel_rfl) (by kernel_rfl) (by kernel_rfl) (by kernel_rfl) ?_
  clear H
  intro v7 H
  refine x_nil ?_
  refine x_then ?_
  refine ⟨fun w' => Hs [] w0 w' [.blk g3 #[.int .i64 ((R : Nat) : Int), .int .i64 ((S : Nat) : Int), .int .i64 ((B : Nat) : Int), .int .i64 ((O : Nat) : Int), .int .i64 ((C : Nat) : Int), .int .i64 ((W : Nat) : Int), .int .i64 ((V : Nat) : Int)] 100, .row (.slice (some ⟨g, 0, none⟩) 9 cap) 3 1 9 ([.int .i64 ((M : Nat) : Int), .int .i64 ((R : Nat) : Int), .int .i64 ((S : Nat) : Int), .int .i64 ((B : Nat) : Int), .int .i64 ((O : Nat) : Int), .int .i64 ((C : Nat) : Int), .int .i64 ((W : Nat) : Int), .int .i64 ((V : Nat) : Int), .int .i64 ((b : Nat) : Int)]), .blk g2 #[.int .i64 2, .int .i64 4, .int .i64 4, .int .i64 5, .int .i64 11, .int .i64 7, .int .i64 2, .int .i64 7, .int .i64 1] 3, .blk g1 #[.int .i64 0, .int .i64 0, .int .i64 0, .int .i64 0, .int .i64 0, .int .i64 0, .int .i64 0] 100], fun w' => Hs [] w0 w' [.blk g3 #[.int .i64 ((R : Nat) : Int), .int .i64 ((S : Nat) : Int), .int .i64 ((B : Nat) : Int), .int .i64 ((O : Nat) : Int), .int .i64 ((C : Nat) : Int), .int .i64 ((W : Nat) : Int), .int .i64 ((V : Nat) : Int)] 100, .row (.slice (some ⟨g, 0, none⟩) 9 cap) 3 1 9 ([.int .i64 ((M : Nat) : Int), .int .i64 ((R : Nat) : Int), .int .i64 ((S : Nat) : Int), .int .i64 ((B : Nat) : Int), .int .i64 ((O : Nat) : Int), .int .i64 ((C : Nat) : Int), .int .i64 ((W : Nat) : Int), .int .i64 ((V : Nat) : Int), .int .i64 ((b : Nat) : Int)]), .blk g2 #[.int .i64 2, .int .i64 4, .int .i64 4, .int .i64 5, .int .i64 11, .int .i64 7, .int .i64 2, .int .i64 7, .int .i64 1] 3, .blk g1 #[.int .i64 0, .int .i64 0, .int .i64 0, .int .i64 0, .int .i64 0, .int .i64 0, .int .i64 0] 100], H, hsShut, fun _ h => h.pick [0, 1, 2, 3] _ (by decide) (by kernel_rfl), fun _ h => h.pick [1, 2, 3] _ (by decide) (by kernel_rfl), ?_⟩
  refine s_done (by kernel_rfl) ?_
  clear H
  intro v8 H
  refine x_frame' { tmps := #[.int .u64 ((X : Nat) : Int), undef, .pointer (some ⟨g1, 0, none⟩), .int .i64 0, .bool false, .int .i64 0, .slice (some ⟨g, 0, none⟩) 9 cap, .pointer (some ⟨g3, 0, none⟩), .int .u64 ((X : Nat) : Int), .slice (some ⟨g2, 0, none⟩) 9 9, .slice (some ⟨g, 0, none⟩) 9 cap, .slice (some ⟨g, 0, none⟩) 9 cap, .pointer (some ⟨g, 1, none⟩), .int .i64 ((R : Nat) : Int), .slice (some ⟨g, 0, none⟩) 9 cap, .pointer (some ⟨g, 2, none⟩), .int .i64 ((S : Nat) : Int), .slice (some ⟨g, 0, none⟩) 9 cap, .pointer (some ⟨g, 3, none⟩), .int .i64 ((B : Nat) : Int), .slice (some ⟨g, 0, none⟩) 9 cap, .pointer (some ⟨g, 4, none⟩), .int .i64 ((O : Nat) : Int), .slice (some ⟨g, 0, none⟩) 9 cap, .pointer (some ⟨g, 5, none⟩), .int .i64 ((C : Nat) : Int), .agg #[.int .i64 ((R : Nat) : Int), .int .i64 ((S : Nat) : Int), .int .i64 ((B : Nat) : Int), .int .i64 ((O : Nat) : Int), .int .i64 ((C : Nat) : Int)], .slice (some ⟨g, 0, none⟩) 9 cap, .pointer (some ⟨g, 6, none⟩), .int .i64 ((W : Nat) : Int), .slice (some ⟨g, 0, none⟩) 9 cap, .pointer (some ⟨g, 7, none⟩), .int .i64 ((V : Nat) : Int), .agg #[.int .i64 ((R : Nat) : Int), .int .i64 ((S : Nat) : Int), .int .i64 ((B : Nat) : Int), .int .i64 ((O : Nat) : Int), .int .i64 ((C : Nat) : Int), .int .i64 ((W : Nat) : Int), .int .i64 ((V : Nat) : Int)], undef, undef, undef, undef, undef, undef, undef, undef, undef, undef, undef, undef, undef, undef, undef, undef, undef, undef, undef, undef, undef, undef, undef, undef, undef, undef, undef, undef, undef, undef, undef, undef], defers := [] } (by kernel_rfl) ?_
  refine x_then ?_
  refine x_seq ?_
  refine x_seq ?_
  refine x_region_whole (fun w' => Hs [] w0 w' [.blk g3 #[.int .i64 ((R : Nat) : Int), .int .i64 ((S : Nat) : Int), .int .i64 ((B : Nat) : Int), .int .i64 ((O : Nat) : Int), .int .i64 ((C : Nat) : Int), .int .i64 ((W : Nat) : Int), .int .i64 ((V : Nat) : Int)] 100, .row (.slice (some ⟨g, 0, none⟩) 9 cap) 3 1 9 ([.int .i64 ((M : Nat) : Int), .int .i64 ((R : Nat) : Int), .int .i64 ((S : Nat) : Int), .int .i64 ((B : Nat) : Int), .int .i64 ((O : Nat) : Int), .int .i64 ((C : Nat) : Int), .int .i64 ((W : Nat) : Int), .int .i64 ((V : Nat) : Int), .int .i64 ((b : Nat) : Int)]), .blk g2 #[.int .i64 2, .int .i64 4, .int .i64 4, .int .i64 5, .int .i64 11, .int .i64 7, .int .i64 2, .int .i64 7, .int .i64 1] 3, .blk g1 #[.int .i64 0, .int .i64 0, .int .i64 0, .int .i64 0, .int .i64 0, .int .i64 0, .int .i64 0] 100]) (by kernel_rfl) (by kernel_rfl) (by kernel_rfl) H.drew ?_
  refine q_val (.slice (some ⟨g, 0, none⟩) 9 cap) (by kernel_rfl) (fun _ => by kernel_rfl) ?_
  refine q_val (.pointer (some ⟨g, 0, none⟩)) (by kernel_rfl) (fun _ => by kernel_rfl) ?_
  refine q_loadc g 0 (.int .i64 ((M : Nat) : Int)) (fun _ H => H.rowCell 1 rfl 0 rfl) (by kernel_rfl) (fun _ => by kernel_rfl) ?_
  refine q_callB (.bool (decide (((M : Nat) : Int) = 1) || decide (((M : Nat) : Int) = 2))) (by kernel_rfl) (fun _ => by kernel_rfl) (fun _ => (x_same (rawRight_any _ _))) ?_
  refine q_val (.bool (!(decide (((M : Nat) : Int) = 1) || decide (((M : Nat) : Int) = 2)))) (by kernel_rfl) (fun _ => by kernel_rfl) ?_
  refine q_val (.bool (!(decide (((M : Nat) : Int) = 1) || decide (((M : Nat) : Int) = 2)))) (by kernel_rfl) (fun _ => by kernel_rfl) ?_
  cases h1 : decide (((M : Nat) : Int) = 1) || decide (((M : Nat) : Int) = 2)
  · skip
    refine q_skip (by kernel_rfl) ?_
    refine q_skip (by kernel_rfl) ?_
    refine q_skip (by kernel_rfl) ?_
    refine q_val (.bool true) (by kernel_rfl) (fun _ => by kernel_rfl) ?_
    refine q_val (.bool true) (by kernel_rfl) (fun _ => by kernel_rfl) ?_
    refine q_skip (by kernel_rfl) ?_
    refine q_skip (by kernel_rfl) ?_
    refine q_skip (by kernel_rfl) ?_
    refine q_skip (by kernel_rfl) ?_
    refine q_skip (by kernel_rfl) ?_
    refine q_skip (by kernel_rfl) ?_
    refine q_skip (by kernel_rfl) ?_
    refine q_skip (by kernel_rfl) ?_
    refine q_skip (by kernel_rfl) ?_
    refine q_skip (by kernel_rfl) ?_
    refine q_skip (by kernel_rfl) ?_
    refine q_val (.bool true) (by kernel_rfl) (fun _ => by kernel_rfl) ?_
    refine q_nil ?_
    clear H
    intro v9 H
    refine x_frame' { tmps := #[.int .u64 ((X : Nat) : Int), undef, .pointer (some ⟨g1, 0, none⟩), .int .i64 0, .bool false, .int .i64 0, .slice (some ⟨g, 0, none⟩) 9 cap, .pointer (some ⟨g3, 0, none⟩), .int .u64 ((X : Nat) : Int), .slice (some ⟨g2, 0, none⟩) 9 9, .slice (some ⟨g, 0, none⟩) 9 cap, .slice (some ⟨g, 0, none⟩) 9 cap, .pointer (some ⟨g, 1, none⟩), .int .i64 ((R : Nat) : Int), .slice (some ⟨g, 0, none⟩) 9 cap, .pointer (some ⟨g, 2, none⟩), .int .i64 ((S : Nat) : Int), .slice (some ⟨g, 0, none⟩) 9 cap, .pointer (some ⟨g, 3, none⟩), .int .i64 ((B : Nat) : Int), .slice (some ⟨g, 0, none⟩) 9 cap, .pointer (some ⟨g, 4, none⟩), .int .i64 ((O : Nat) : Int), .slice (some ⟨g, 0, none⟩) 9 cap, .pointer (some ⟨g, 5, none⟩), .int .i64 ((C : Nat) : Int), .agg #[.int .i64 ((R : Nat) : Int), .int .i64 ((S : Nat) : Int), .int .i64 ((B : Nat) : Int), .int .i64 ((O : Nat) : Int), .int .i64 ((C : Nat) : Int)], .slice (some ⟨g, 0, none⟩) 9 cap, .pointer (some ⟨g, 6, none⟩), .int .i64 ((W : Nat) : Int), .slice (some ⟨g, 0, none⟩) 9 cap, .pointer (some ⟨g, 7, none⟩), .int .i64 ((V : Nat) : Int), .agg #[.int .i64 ((R : Nat) : Int), .int .i64 ((S : Nat) : Int), .int .i64 ((B : Nat) : Int), .int .i64 ((O : Nat) : Int), .int .i64 ((C : Nat) : Int), .int .i64 ((W : Nat) : Int), .int .i64 ((V : Nat) : Int)], .slice (some ⟨g, 0, none⟩) 9 cap, .pointer (some ⟨g, 0, none⟩), .int .i64 ((M : Nat) : Int), .bool false, .bool true, .bool true, undef, undef, undef, .bool true, .bool true, undef, undef, undef, undef, undef, undef, undef, undef, undef, undef, undef, .bool true, undef, undef, undef, undef, undef, undef, undef, undef, undef], defers := [] } (by kernel_rfl) ?_
    refine x_then ?_
    refine x_t (by kernel_rfl) ?_
    refine x_seq ?_
    refine x_region ?_
    refine x_val (.agg #[.int .i64 0, .int .i64 0, .int .i64 0, .int .i64 0, .int .i64 0, .int .i64 0, .int .i64 0]) (by kernel_rfl) rfl (by kernel_rfl) ?_
    refine x_store (t := 100) (v := .agg #[.int .i64 0, .int .i64 0, .int .i64 0, .int .i64 0, .int .i64 0, .int .i64 0, .int .i64 0]) H 3 g1 0 #[.int .i64 0, .int .i64 0, .int .i64 0, .int .i64 0, .int .i64 0, .int .i64 0, .int .i64 0] #[.int .i64 0, .int .i64 0, .int .i64 0, .int .i64 0, .int .i64 0, .int .i64 0, .int .i64 0] 100 [.int .i64 0, .int .i64 0, .int .i64 0, .int .i64 0, .int .i64 0, .int .i64 0, .int .i64 0] [.blk g3 #[.int .i64 ((R : Nat) : Int), .int .i64 ((S : Nat) : Int), .int .i64 ((B : Nat) : Int), .int .i64 ((O : Nat) : Int), .int .i64 ((C : Nat) : Int), .int .i64 ((W : Nat) : Int), .int .i64 ((V : Nat) : Int)] 100, .row (.slice (some ⟨g, 0, none⟩) 9 cap) 3 1 9 ([.int .i64 ((M : Nat) : Int), .int .i64 ((R : Nat) : Int), .int .i64 ((S : Nat) : Int), .int .i64 ((B : Nat) : Int), .int .i64 ((O : Nat) : Int), .int .i64 ((C : Nat) : Int), .int .i64 ((W : Nat) : Int), .int .i64 ((V : Nat) : Int), .int .i64 ((b : Nat) : Int)]), .blk g2 #[.int .i64 2, .int .i64 4, .int .i64 4, .int .i64 5, .int .i64 11, .int .i64 7, .int .i64 2, .int .i64 7, .int .i64 1] 3, .blk g1 #[.int .i64 0, .int .i64 0, .int .i64 0, .int .i64 0, .int .i64 0, .int .i64 0, .int .i64 0] 100] (by kernel_rfl) rfl (by kernel_rfl) (by kernel_rfl) (by kernel_rfl) (by kernel_rfl) (by kernel_rfl) (by kernel_rfl) (by kernel_rfl) (by kernel_rfl) ?_
    clear H
    intro v10 H
    refine x_val (.int .i64 0) (by kernel_rfl) rfl (by kernel_rfl) ?_
    refine x_val (.bool false) (by kernel_rfl) rfl (by kernel_rfl) ?_
    refine x_val (.int .i64 10) (by kernel_rfl) rfl (by kernel_rfl) ?_
    refine x_nil ?_
    refine x_then ?_
    refine x_retc ?_
    refine x_then_ret ?_
    refine x_ret (.tuple #[.agg #[.int .i64 0, .int .i64 0, .int .i64 0, .int .i64 0, .int .i64 0, .int .i64 0, .int .i64 0], .int .i64 0, .bool false, .int .i64 10]) (by kernel_rfl) (x_rescell H 3 g1 0 #[.int .i64 0, .int .i64 0, .int .i64 0, .int .i64 0, .int .i64 0, .int .i64 0, .int .i64 0] 100 [.int .i64 0, .int .i64 0, .int .i64 0, .int .i64 0, .int .i64 0, .int .i64 0, .int .i64 0] (fun x => .tuple #[x, .int .i64 0, .bool false, .int .i64 10]) (by kernel_rfl) (by kernel_rfl) (by kernel_rfl)) ?_
    exact ⟨rfl, H.below⟩
  · skip
    refine q_loadn (t := 100) 0 g3 0 #[.int .i64 ((R : Nat) : Int), .int .i64 ((S : Nat) : Int), .int .i64 ((B : Nat) : Int), .int .i64 ((O : Nat) : Int), .int .i64 ((C : Nat) : Int), .int .i64 ((W : Nat) : Int), .int .i64 ((V : Nat) : Int)] 100 [.int .i64 ((R : Nat) : Int), .int .i64 ((S : Nat) : Int), .int .i64 ((B : Nat) : Int), .int .i64 ((O : Nat) : Int), .int .i64 ((C : Nat) : Int), .int .i64 ((W : Nat) : Int), .int .i64 ((V : Nat) : Int)] (by kernel_rfl) (by kernel_rfl) (by kernel_rfl) (by kernel_rfl) (by kernel_rfl) ?_
    refine q_callB (.bool (layoutOk ((R : Nat) : Int) ((S : Nat) : Int) ((B : Nat) : Int) ((O : Nat) : Int) ((C : Nat) : Int) ((W : Nat) : Int) ((V : Nat) : Int))) (by kernel_rfl) (fun _ => by kernel_rfl) (fun _ => (lRight_any _ _ _ _ _ _ _ (by omega) (by omega) (by omega) (by omega) _)) ?_
    refine q_val (.bool (!(layoutOk ((R : Nat) : Int) ((S : Nat) : Int) ((B : Nat) : Int) ((O : Nat) : Int) ((C : Nat) : Int) ((W : Nat) : Int) ((V : Nat) : Int)))) (by kernel_rfl) (fun _ => by kernel_rfl) ?_
    refine q_val (.bool (!(layoutOk ((R : Nat) : Int) ((S : Nat) : Int) ((B : Nat) : Int) ((O : Nat) : Int) ((C : Nat) : Int) ((W : Nat) : Int) ((V : Nat) : Int)))) (by kernel_rfl) (fun _ => by kernel_rfl) ?_
    refine q_val (.bool (!(layoutOk ((R : Nat) : Int) ((S : Nat) : Int) ((B : Nat) : Int) ((O : Nat) : Int) ((C : Nat) : Int) ((W : Nat) : Int) ((V : Nat) : Int)))) (by kernel_rfl) (fun _ => by kernel_rfl) ?_
    cases h2 : layoutOk ((R : Nat) : Int) ((S : Nat) : Int) ((B : Nat) : Int) ((O : Nat) : Int) ((C : Nat) : Int) ((W : Nat) : Int) ((V : Nat) : Int)
    · skip
      refine q_skip (by kernel_rfl) ?_
      refine q_skip (by kernel_rfl) ?_
      refine q_skip (by kernel_rfl) ?_
      refine q_skip (by kernel_rfl) ?_
      refine q_skip (by kernel_rfl) ?_
      refine q_skip (by kernel_rfl) ?_
      refine q_skip (by kernel_rfl) ?_
      refine q_skip (by kernel_rfl) ?_
      refine q_skip (by kernel_rfl) ?_
      refine q_skip (by kernel_rfl) ?_
      refine q_skip (by kernel_rfl) ?_
      refine q_val (.bool true) (by kernel_rfl) (fun _ => by kernel_rfl) ?_
      refine q_nil ?_
      clear H
      intro v11 H
      refine x_frame' { tmps := #[.int .u64 ((X : Nat) : Int), undef, .pointer (some ⟨g1, 0, none⟩), .int .i64 0, .bool false, .int .i64 0, .slice (some ⟨g, 0, none⟩) 9 cap, .pointer (some ⟨g3, 0, none⟩), .int .u64 ((X : Nat) : Int), .slice (some ⟨g2, 0, none⟩) 9 9, .slice (some ⟨g, 0, none⟩) 9 cap, .slice (some ⟨g, 0, none⟩) 9 cap, .pointer (some ⟨g, 1, none⟩), .int .i64 ((R : Nat) : Int), .slice (some ⟨g, 0, none⟩) 9 cap, .pointer (some ⟨g, 2, none⟩), .int .i64 ((S : Nat) : Int), .slice (some ⟨g, 0, none⟩) 9 cap, .pointer (some ⟨g, 3, none⟩), .int .i64 ((B : Nat) : Int), .slice (some ⟨g, 0, none⟩) 9 cap, .pointer (some ⟨g, 4, none⟩), .int .i64 ((O : Nat) : Int), .slice (some ⟨g, 0, none⟩) 9 cap, .pointer (some ⟨g, 5, none⟩), .int .i64 ((C : Nat) : Int), .agg #[.int .i64 ((R : Nat) : Int), .int .i64 ((S : Nat) : Int), .int .i64 ((B : Nat) : Int), .int .i64 ((O : Nat) : Int), .int .i64 ((C : Nat) : Int)], .slice (some ⟨g, 0, none⟩) 9 cap, .pointer (some ⟨g, 6, none⟩), .int .i64 ((W : Nat) : Int), .slice (some ⟨g, 0, none⟩) 9 cap, .pointer (some ⟨g, 7, none⟩), .int .i64 ((V : Nat) : Int), .agg #[.int .i64 ((R : Nat) : Int), .int .i64 ((S : Nat) : Int), .int .i64 ((B : Nat) : Int), .int .i64 ((O : Nat) : Int), .int .i64 ((C : Nat) : Int), .int .i64 ((W : Nat) : Int), .int .i64 ((V : Nat) : Int)], .slice (some ⟨g, 0, none⟩) 9 cap, .pointer (some ⟨g, 0, none⟩), .int .i64 ((M : Nat) : Int), .bool true, .bool false, .bool false, .agg #[.int .i64 ((R : Nat) : Int), .int .i64 ((S : Nat) : Int), .int .i64 ((B : Nat) : Int), .int .i64 ((O : Nat) : Int), .int .i64 ((C : Nat) : Int), .int .i64 ((W : Nat) : Int), .int .i64 ((V : Nat) : Int)], .bool false, .bool true, .bool true, .bool true, undef, undef, undef, undef, undef, undef, undef, undef, undef, undef, undef, .bool true, undef, undef, undef, undef, undef, undef, undef, undef, undef], defers := [] } (by kernel_rfl) ?_
      refine x_then ?_
      refine x_t (by kernel_rfl) ?_
      refine x_seq ?_
      refine x_region ?_
      refine x_val (.agg #[.int .i64 0, .int .i64 0, .int .i64 0, .int .i64 0, .int .i64 0, .int .i64 0, .int .i64 0]) (by kernel_rfl) rfl (by kernel_rfl) ?_
      refine x_store (t := 100) (v := .agg #[.int .i64 0, .int .i64 0, .int .i64 0, .int .i64 0, .int .i64 0, .int .i64 0, .int .i64 0]) H 3 g1 0 #[.int .i64 0, .int .i64 0, .int .i64 0, .int .i64 0, .int .i64 0, .int .i64 0, .int .i64 0] #[.int .i64 0, .int .i64 0, .int .i64 0, .int .i64 0, .int .i64 0, .int .i64 0, .int .i64 0] 100 [.int .i64 0, .int .i64 0, .int .i64 0, .int .i64 0, .int .i64 0, .int .i64 0, .int .i64 0] [.blk g3 #[.int .i64 ((R : Nat) : Int), .int .i64 ((S : Nat) : Int), .int .i64 ((B : Nat) : Int), .int .i64 ((O : Nat) : Int), .int .i64 ((C : Nat) : Int), .int .i64 ((W : Nat) : Int), .int .i64 ((V : Nat) : Int)] 100, .row (.slice (some ⟨g, 0, none⟩) 9 cap) 3 1 9 ([.int .i64 ((M : Nat) : Int), .int .i64 ((R : Nat) : Int), .int .i64 ((S : Nat) : Int), .int .i64 ((B : Nat) : Int), .int .i64 ((O : Nat) : Int), .int .i64 ((C : Nat) : Int), .int .i64 ((W : Nat) : Int), .int .i64 ((V : Nat) : Int), .int .i64 ((b : Nat) : Int)]), .blk g2 #[.int .i64 2, .int .i64 4, .int .i64 4, .int .i64 5, .int .i64 11, .int .i64 7, .int .i64 2, .int .i64 7, .int .i64 1] 3, .blk g1 #[.int .i64 0, .int .i64 0, .int .i64 0, .int .i64 0, .int .i64 0, .int .i64 0, .int .i64 0] 100] (by kernel_rfl) rfl (by kernel_rfl) (by kernel_rfl) (by kernel_rfl) (by kernel_rfl) (by kernel_rfl) (by kernel_rfl) (by kernel_rfl) (by kernel_rfl) ?_
      clear H
      intro v12 H
      refine x_val (.int .i64 0) (by kernel_rfl) rfl (by kernel_rfl) ?_
      refine x_val (.bool false) (by kernel_rfl) rfl (by kernel_rfl) ?_
      refine x_val (.int .i64 10) (by kernel_rfl) rfl (by kernel_rfl) ?_
      refine x_nil ?_
      refine x_then ?_
      refine x_retc ?_
      refine x_then_ret ?_
      refine x_ret (.tuple #[.agg #[.int .i64 0, .int .i64 0, .int .i64 0, .int .i64 0, .int .i64 0, .int .i64 0, .int .i64 0], .int .i64 0, .bool false, .int .i64 10]) (by kernel_rfl) (x_rescell H 3 g1 0 #[.int .i64 0, .int .i64 0, .int .i64 0, .int .i64 0, .int .i64 0, .int .i64 0, .int .i64 0] 100 [.int .i64 0, .int .i64 0, .int .i64 0, .int .i64 0, .int .i64 0, .int .i64 0, .int .i64 0] (fun x => .tuple #[x, .int .i64 0, .bool false, .int .i64 10]) (by kernel_rfl) (by kernel_rfl) (by kernel_rfl)) ?_
      exact ⟨rfl, H.below⟩
    · skip
      refine q_loadn (t := 100) 0 g3 0 #[.int .i64 ((R : Nat) : Int), .int .i64 ((S : Nat) : Int), .int .i64 ((B : Nat) : Int), .int .i64 ((O : Nat) : Int), .int .i64 ((C : Nat) : Int), .int .i64 ((W : Nat) : Int), .int .i64 ((V : Nat) : Int)] 100 [.int .i64 ((R : Nat) : Int), .int .i64 ((S : Nat) : Int), .int .i64 ((B : Nat) : Int), .int .i64 ((O : Nat) : Int), .int .i64 ((C : Nat) : Int), .int .i64 ((W : Nat) : Int), .int .i64 ((V : Nat) : Int)] (by kernel_rfl) (by kernel_rfl) (by kernel_rfl) (by kernel_rfl) (by kernel_rfl) ?_
      refine q_val (.slice (some ⟨g, 0, none⟩) 9 cap) (by kernel_rfl) (fun _ => by kernel_rfl) ?_
      refine q_val (.pointer (some ⟨g, 0, none⟩)) (by kernel_rfl) (fun _ => by kernel_rfl) ?_
      refine q_loadc g 0 (.int .i64 ((M : Nat) : Int)) (fun _ H => H.rowCell 1 rfl 0 rfl) (by kernel_rfl) (fun _ => by kernel_rfl) ?_
      refine q_val (.slice (some ⟨g, 0, none⟩) 9 cap) (by kernel_rfl) (fun _ => by kernel_rfl) ?_
      refine q_val (.pointer (some ⟨g, 8, none⟩)) (by kernel_rfl) (fun _ => by kernel_rfl) ?_
      refine q_loadc g 8 (.int .i64 ((b : Nat) : Int)) (fun _ H => H.rowCell 1 rfl 8 rfl) (by kernel_rfl) (fun _ => by kernel_rfl) ?_
      refine q_val (.bool (decide (((b : Nat) : Int) = 1))) (by kernel_rfl) (fun _ => by kernel_rfl) ?_
      refine q_callB (.int .u64 ((Q : Nat) : Int)) (by kernel_rfl) (fun _ => by kernel_rfl) (fun _ => (packQ _)) ?_
      refine q_val (.int .u64 ((X : Nat) : Int)) (by kernel_rfl) (fun _ => by kernel_rfl) ?_
      refine q_val (.bool (!(decide (((Q : Nat) : Int) = ((X : Nat) : Int))))) (by kernel_rfl) (fun _ => by kernel_rfl) ?_
      refine q_val (.bool (!(decide (((Q : Nat) : Int) = ((X : Nat) : Int))))) (by kernel_rfl) (fun _ => by kernel_rfl) ?_
      refine q_nil ?_
      clear H
      intro v13 H
      refine x_frame' { tmps := #[.int .u64 ((X : Nat) : Int), undef, .pointer (some ⟨g1, 0, none⟩), .int .i64 0, .bool false, .int .i64 0, .slice (some ⟨g, 0, none⟩) 9 cap, .pointer (some ⟨g3, 0, none⟩), .int .u64 ((X : Nat) : Int), .slice (some ⟨g2, 0, none⟩) 9 9, .slice (some ⟨g, 0, none⟩) 9 cap, .slice (some ⟨g, 0, none⟩) 9 cap, .pointer (some ⟨g, 1, none⟩), .int .i64 ((R : Nat) : Int), .slice (some ⟨g, 0, none⟩) 9 cap, .pointer (some ⟨g, 2, none⟩), .int .i64 ((S : Nat) : Int), .slice (some ⟨g, 0, none⟩) 9 cap, .pointer (some ⟨g, 3, none⟩), .int .i64 ((B : Nat) : Int), .slice (some ⟨g, 0, none⟩) 9 cap, .pointer (some ⟨g, 4, none⟩), .int .i64 ((O : Nat) : Int), .slice (some ⟨g, 0, none⟩) 9 cap, .pointer (some ⟨g, 5, none⟩), .int .i64 ((C : Nat) : Int), .agg #[.int .i64 ((R : Nat) : Int), .int .i64 ((S : Nat) : Int), .int .i64 ((B : Nat) : Int), .int .i64 ((O : Nat) : Int), .int .i64 ((C : Nat) : Int)], .slice (some ⟨g, 0, none⟩) 9 cap, .pointer (some ⟨g, 6, none⟩), .int .i64 ((W : Nat) : Int), .slice (some ⟨g, 0, none⟩) 9 cap, .pointer (some ⟨g, 7, none⟩), .int .i64 ((V : Nat) : Int), .agg #[.int .i64 ((R : Nat) : Int), .int .i64 ((S : Nat) : Int), .int .i64 ((B : Nat) : Int), .int .i64 ((O : Nat) : Int), .int .i64 ((C : Nat) : Int), .int .i64 ((W : Nat) : Int), .int .i64 ((V : Nat) : Int)], .slice (some ⟨g, 0, none⟩) 9 cap, .pointer (some ⟨g, 0, none⟩), .int .i64 ((M : Nat) : Int), .bool true, .bool false, .bool false, .agg #[.int .i64 ((R : Nat) : Int), .int .i64 ((S : Nat) : Int), .int .i64 ((B : Nat) : Int), .int .i64 ((O : Nat) : Int), .int .i64 ((C : Nat) : Int), .int .i64 ((W : Nat) : Int), .int .i64 ((V : Nat) : Int)], .bool true, .bool false, .bool false, .bool false, .agg #[.int .i64 ((R : Nat) : Int), .int .i64 ((S : Nat) : Int), .int .i64 ((B : Nat) : Int), .int .i64 ((O : Nat) : Int), .int .i64 ((C : Nat) : Int), .int .i64 ((W : Nat) : Int), .int .i64 ((V : Nat) : Int)], .slice (some ⟨g, 0, none⟩) 9 cap, .pointer (some ⟨g, 0, none⟩), .int .i64 ((M : Nat) : Int), .slice (some ⟨g, 0, none⟩) 9 cap, .pointer (some ⟨g, 8, none⟩), .int .i64 ((b : Nat) : Int), .bool (decide (((b : Nat) : Int) = 1)), .int .u64 ((Q : Nat) : Int), .int .u64 ((X : Nat) : Int), .bool (!(decide (((Q : Nat) : Int) = ((X : Nat) : Int)))), .bool (!(decide (((Q : Nat) : Int) = ((X : Nat) : Int)))), undef, undef, undef, undef, undef, undef, undef, undef, undef], defers := [] } (by kernel_rfl) ?_
      refine x_then ?_
      cases h3 : decide (((Q : Nat) : Int) = ((X : Nat) : Int))
      · skip
        have h3p := of_decide_eq_false h3
        refine x_t (by kernel_rfl) ?_
        refine x_seq ?_
        refine x_region ?_
        refine x_val (.agg #[.int .i64 0, .int .i64 0, .int .i64 0, .int .i64 0, .int .i64 0, .int .i64 0, .int .i64 0]) (by kernel_rfl) rfl (by kernel_rfl) ?_
        refine x_store (t := 100) (v := .agg #[.int .i64 0, .int .i64 0, .int .i64 0, .int .i64 0, .int .i64 0, .int .i64 0, .int .i64 0]) H 3 g1 0 #[.int .i64 0, .int .i64 0, .int .i64 0, .int .i64 0, .int .i64 0, .int .i64 0, .int .i64 0] #[.int .i64 0, .int .i64 0, .int .i64 0, .int .i64 0, .int .i64 0, .int .i64 0, .int .i64 0] 100 [.int .i64 0, .int .i64 0, .int .i64 0, .int .i64 0, .int .i64 0, .int .i64 0, .int .i64 0] [.blk g3 #[.int .i64 ((R : Nat) : Int), .int .i64 ((S : Nat) : Int), .int .i64 ((B : Nat) : Int), .int .i64 ((O : Nat) : Int), .int .i64 ((C : Nat) : Int), .int .i64 ((W : Nat) : Int), .int .i64 ((V : Nat) : Int)] 100, .row (.slice (some ⟨g, 0, none⟩) 9 cap) 3 1 9 ([.int .i64 ((M : Nat) : Int), .int .i64 ((R : Nat) : Int), .int .i64 ((S : Nat) : Int), .int .i64 ((B : Nat) : Int), .int .i64 ((O : Nat) : Int), .int .i64 ((C : Nat) : Int), .int .i64 ((W : Nat) : Int), .int .i64 ((V : Nat) : Int), .int .i64 ((b : Nat) : Int)]), .blk g2 #[.int .i64 2, .int .i64 4, .int .i64 4, .int .i64 5, .int .i64 11, .int .i64 7, .int .i64 2, .int .i64 7, .int .i64 1] 3, .blk g1 #[.int .i64 0, .int .i64 0, .int .i64 0, .int .i64 0, .int .i64 0, .int .i64 0, .int .i64 0] 100] (by kernel_rfl) rfl (by kernel_rfl) (by kernel_rfl) (by kernel_rfl) (by kernel_rfl) (by kernel_rfl) (by kernel_rfl) (by kernel_rfl) (by kernel_rfl) ?_
        clear H
        intro v14 H
        refine x_val (.int .i64 0) (by kernel_rfl) rfl (by kernel_rfl) ?_
        refine x_val (.bool false) (by kernel_rfl) rfl (by kernel_rfl) ?_
        refine x_val (.int .i64 10) (by kernel_rfl) rfl (by kernel_rfl) ?_
        refine x_nil ?_
        refine x_then ?_
        refine x_retc ?_
        refine x_then_ret ?_
        refine x_ret (.tuple #[.agg #[.int .i64 0, .int .i64 0, .int .i64 0, .int .i64 0, .int .i64 0, .int .i64 0, .int .i64 0], .int .i64 0, .bool false, .int .i64 10]) (by kernel_rfl) (x_rescell H 3 g1 0 #[.int .i64 0, .int .i64 0, .int .i64 0, .int .i64 0, .int .i64 0, .int .i64 0, .int .i64 0] 100 [.int .i64 0, .int .i64 0, .int .i64 0, .int .i64 0, .int .i64 0, .int .i64 0, .int .i64 0] (fun x => .tuple #[x, .int .i64 0, .bool false, .int .i64 10]) (by kernel_rfl) (by kernel_rfl) (by kernel_rfl)) ?_
        exact ⟨rfl, H.below⟩
      · skip
        have h3p := of_decide_eq_true h3
        refine x_f (by kernel_rfl) ?_
        refine x_skipc ?_
        refine x_then ?_
        refine x_seq ?_
        refine x_region_s 12 (fun w' => Hs [] w0 w' [.blk g3 #[.int .i64 ((R : Nat) : Int), .int .i64 ((S : Nat) : Int), .int .i64 ((B : Nat) : Int), .int .i64 ((O : Nat) : Int), .int .i64 ((C : Nat) : Int), .int .i64 ((W : Nat) : Int), .int .i64 ((V : Nat) : Int)] 100, .row (.slice (some ⟨g, 0, none⟩) 9 cap) 3 1 9 ([.int .i64 ((M : Nat) : Int), .int .i64 ((R : Nat) : Int), .int .i64 ((S : Nat) : Int), .int .i64 ((B : Nat) : Int), .int .i64 ((O : Nat) : Int), .int .i64 ((C : Nat) : Int), .int .i64 ((W : Nat) : Int), .int .i64 ((V : Nat) : Int), .int .i64 ((b : Nat) : Int)]), .blk g2 #[.int .i64 2, .int .i64 4, .int .i64 4, .int .i64 5, .int .i64 11, .int .i64 7, .int .i64 2, .int .i64 7, .int .i64 1] 3]) (fun w' => Hs [] w0 w' [.blk g3 #[.int .i64 ((R : Nat) : Int), .int .i64 ((S : Nat) : Int), .int .i64 ((B : Nat) : Int), .int .i64 ((O : Nat) : Int), .int .i64 ((C : Nat) : Int), .int .i64 ((W : Nat) : Int), .int .i64 ((V : Nat) : Int)] 100, .row (.slice (some ⟨g, 0, none⟩) 9 cap) 3 1 9 ([.int .i64 ((M : Nat) : Int), .int .i64 ((R : Nat) : Int), .int .i64 ((S : Nat) : Int), .int .i64 ((B : Nat) : Int), .int .i64 ((O : Nat) : Int), .int .i64 ((C : Nat) : Int), .int .i64 ((W : Nat) : Int), .int .i64 ((V : Nat) : Int), .int .i64 ((b : Nat) : Int)]), .blk g2 #[.int .i64 2, .int .i64 4, .int .i64 4, .int .i64 5, .int .i64 11, .int .i64 7, .int .i64 2, .int .i64 7, .int .i64 1] 3, .blk g1 #[.int .i64 0, .int .i64 0, .int .i64 0, .int .i64 0, .int .i64 0, .int .i64 0, .int .i64 0] 100]) (by kernel_rfl) (by kernel_rfl) (by kernel_rfl) hsShut (fun _ h => h.pick [0, 1, 2] _ (by decide) (by kernel_rfl)) H.drew ?_
        refine s_quiet 0 rfl (by kernel_rfl) (y_loadn (t := 100) 0 g3 0 #[.int .i64 ((R : Nat) : Int), .int .i64 ((S : Nat) : Int), .int .i64 ((B : Nat) : Int), .int .i64 ((O : Nat) : Int), .int .i64 ((C : Nat) : Int), .int .i64 ((W : Nat) : Int), .int .i64 ((V : Nat) : Int)] 100 [.int .i64 ((R : Nat) : Int), .int .i64 ((S : Nat) : Int), .int .i64 ((B : Nat) : Int), .int .i64 ((O : Nat) : Int), .int .i64 ((C : Nat) : Int), .int .i64 ((W : Nat) : Int), .int .i64 ((V : Nat) : Int)] (by kernel_rfl) (by kernel_rfl) (by kernel_rfl) (by kernel_rfl) (by kernel_rfl)) ?_
        refine s_quiet 1 rfl (by kernel_rfl) (y_val (.slice (some ⟨g, 0, none⟩) 9 cap) (by kernel_rfl) (fun _ => by kernel_rfl)) ?_
        refine s_quiet 2 rfl (by kernel_rfl) (y_val (.pointer (some ⟨g, 0, none⟩)) (by kernel_rfl) (fun _ => by kernel_rfl)) ?_
        refine s_quiet 3 rfl (by kernel_rfl) (y_loadc g 0 (.int .i64 ((M : Nat) : Int)) (fun _ H => H.rowCell 1 rfl 0 rfl) (by kernel_rfl) (fun _ => by kernel_rfl)) ?_
        refine s_quiet 4 rfl (by kernel_rfl) (y_val (.slice (some ⟨g, 0, none⟩) 9 cap) (by kernel_rfl) (fun _ => by kernel_rfl)) ?_
        refine s_quiet 5 rfl (by kernel_rfl) (y_val (.pointer (some ⟨g, 8, none⟩)) (by kernel_rfl) (fun _ => by kernel_rfl)) ?_
        refine s_quiet 6 rfl (by kernel_rfl) (y_loadc g 8 (.int .i64 ((b : Nat) : Int)) (fun _ H => H.rowCell 1 rfl 8 rfl) (by kernel_rfl) (fun _ => by kernel_rfl)) ?_
        refine s_quiet 7 rfl (by kernel_rfl) (y_val (.bool (decide (((b : Nat) : Int) = 1))) (by kernel_rfl) (fun _ => by kernel_rfl)) ?_
        refine s_one 8 rfl (by kernel_rfl) rfl ?_
        clear H
        intro v15 H
        refine x_store (t := 100) (v := .agg #[.int .i64 ((R : Nat) : Int), .int .i64 ((S : Nat) : Int), .int .i64 ((B : Nat) : Int), .int .i64 ((O : Nat) : Int), .int .i64 ((C : Nat) : Int), .int .i64 ((W : Nat) : Int), .int .i64 ((V : Nat) : Int)]) H 3 g1 0 #[.int .i64 0, .int .i64 0, .int .i64 0, .int .i64 0, .int .i64 0, .int .i64 0, .int .i64 0] #[.int .i64 ((R : Nat) : Int), .int .i64 ((S : Nat) : Int), .int .i64 ((B : Nat) : Int), .int .i64 ((O : Nat) : Int), .int .i64 ((C : Nat) : Int), .int .i64 ((W : Nat) : Int), .int .i64 ((V : Nat) : Int)] 100 [.int .i64 ((R : Nat) : Int), .int .i64 ((S : Nat) : Int), .int .i64 ((B : Nat) : Int), .int .i64 ((O : Nat) : Int), .int .i64 ((C : Nat) : Int), .int .i64 ((W : Nat) : Int), .int .i64 ((V : Nat) : Int)] [.blk g3 #[.int .i64 ((R : Nat) : Int), .int .i64 ((S : Nat) : Int), .int .i64 ((B : Nat) : Int), .int .i64 ((O : Nat) : Int), .int .i64 ((C : Nat) : Int), .int .i64 ((W : Nat) : Int), .int .i64 ((V : Nat) : Int)] 100, .row (.slice (some ⟨g, 0, none⟩) 9 cap) 3 1 9 ([.int .i64 ((M : Nat) : Int), .int .i64 ((R : Nat) : Int), .int .i64 ((S : Nat) : Int), .int .i64 ((B : Nat) : Int), .int .i64 ((O : Nat) : Int), .int .i64 ((C : Nat) : Int), .int .i64 ((W : Nat) : Int), .int .i64 ((V : Nat) : Int), .int .i64 ((b : Nat) : Int)]), .blk g2 #[.int .i64 2, .int .i64 4, .int .i64 4, .int .i64 5, .int .i64 11, .int .i64 7, .int .i64 2, .int .i64 7, .int .i64 1] 3, .blk g1 #[.int .i64 ((R : Nat) : Int), .int .i64 ((S : Nat) : Int), .int .i64 ((B : Nat) : Int), .int .i64 ((O : Nat) : Int), .int .i64 ((C : Nat) : Int), .int .i64 ((W : Nat) : Int), .int .i64 ((V : Nat) : Int)] 100] (by kernel_rfl) rfl (by kernel_rfl) (by kernel_rfl) (by kernel_rfl) (by kernel_rfl) (by kernel_rfl) (by kernel_rfl) (by kernel_rfl) (by kernel_rfl) ?_
        clear H
        intro v16 H
        refine x_nil ?_
        refine x_then ?_
        refine ⟨fun w' => Hs [] w0 w' [.blk g3 #[.int .i64 ((R : Nat) : Int), .int .i64 ((S : Nat) : Int), .int .i64 ((B : Nat) : Int), .int .i64 ((O : Nat) : Int), .int .i64 ((C : Nat) : Int), .int .i64 ((W : Nat) : Int), .int .i64 ((V : Nat) : Int)] 100, .row (.slice (some ⟨g, 0, none⟩) 9 cap) 3 1 9 ([.int .i64 ((M : Nat) : Int), .int .i64 ((R : Nat) : Int), .int .i64 ((S : Nat) : Int), .int .i64 ((B : Nat) : Int), .int .i64 ((O : Nat) : Int), .int .i64 ((C : Nat) : Int), .int .i64 ((W : Nat) : Int), .int .i64 ((V : Nat) : Int), .int .i64 ((b : Nat) : Int)]), .blk g2 #[.int .i64 2, .int .i64 4, .int .i64 4, .int .i64 5, .int .i64 11, .int .i64 7, .int .i64 2, .int .i64 7, .int .i64 1] 3, .blk g1 #[.int .i64 ((R : Nat) : Int), .int .i64 ((S : Nat) : Int), .int .i64 ((B : Nat) : Int), .int .i64 ((O : Nat) : Int), .int .i64 ((C : Nat) : Int), .int .i64 ((W : Nat) : Int), .int .i64 ((V : Nat) : Int)] 100], fun w' => Hs [] w0 w' [.blk g3 #[.int .i64 ((R : Nat) : Int), .int .i64 ((S : Nat) : Int), .int .i64 ((B : Nat) : Int), .int .i64 ((O : Nat) : Int), .int .i64 ((C : Nat) : Int), .int .i64 ((W : Nat) : Int), .int .i64 ((V : Nat) : Int)] 100, .row (.slice (some ⟨g, 0, none⟩) 9 cap) 3 1 9 ([.int .i64 ((M : Nat) : Int), .int .i64 ((R : Nat) : Int), .int .i64 ((S : Nat) : Int), .int .i64 ((B : Nat) : Int), .int .i64 ((O : Nat) : Int), .int .i64 ((C : Nat) : Int), .int .i64 ((W : Nat) : Int), .int .i64 ((V : Nat) : Int), .int .i64 ((b : Nat) : Int)]), .blk g2 #[.int .i64 2, .int .i64 4, .int .i64 4, .int .i64 5, .int .i64 11, .int .i64 7, .int .i64 2, .int .i64 7, .int .i64 1] 3, .blk g1 #[.int .i64 ((R : Nat) : Int), .int .i64 ((S : Nat) : Int), .int .i64 ((B : Nat) : Int), .int .i64 ((O : Nat) : Int), .int .i64 ((C : Nat) : Int), .int .i64 ((W : Nat) : Int), .int .i64 ((V : Nat) : Int)] 100], H, hsShut, fun _ h => h.pick [0, 1, 2, 3] _ (by decide) (by kernel_rfl), fun _ h => h.pick [0, 1, 2] _ (by decide) (by kernel_rfl), ?_⟩
        refine s_quiet 9 rfl (by kernel_rfl) (y_val (.int .i64 ((M : Nat) : Int)) (by kernel_rfl) (fun _ => by kernel_rfl)) ?_
        refine s_quiet 10 rfl (by kernel_rfl) (y_val (.bool (decide (((b : Nat) : Int) = 1))) (by kernel_rfl) (fun _ => by kernel_rfl)) ?_
        refine s_quiet 11 rfl (by kernel_rfl) (y_val (.int .i64 0) (by kernel_rfl) (fun _ => by kernel_rfl)) ?_
        refine s_done (by kernel_rfl) ?_
        clear H
        intro v17 H
        refine x_frame' { tmps := #[.int .u64 ((X : Nat) : Int), undef, .pointer (some ⟨g1, 0, none⟩), .int .i64 ((M : Nat) : Int), .bool (decide (((b : Nat) : Int) = 1)), .int .i64 0, .slice (some ⟨g, 0, none⟩) 9 cap, .pointer (some ⟨g3, 0, none⟩), .int .u64 ((X : Nat) : Int), .slice (some ⟨g2, 0, none⟩) 9 9, .slice (some ⟨g, 0, none⟩) 9 cap, .slice (some ⟨g, 0, none⟩) 9 cap, .pointer (some ⟨g, 1, none⟩), .int .i64 ((R : Nat) : Int), .slice (some ⟨g, 0, none⟩) 9 cap, .pointer (some ⟨g, 2, none⟩), .int .i64 ((S : Nat) : Int), .slice (some ⟨g, 0, none⟩) 9 cap, .pointer (some ⟨g, 3, none⟩), .int .i64 ((B : Nat) : Int), .slice (some ⟨g, 0, none⟩) 9 cap, .pointer (some ⟨g, 4, none⟩), .int .i64 ((O : Nat) : Int), .slice (some ⟨g, 0, none⟩) 9 cap, .pointer (some ⟨g, 5, none⟩), .int .i64 ((C : Nat) : Int), .agg #[.int .i64 ((R : Nat) : Int), .int .i64 ((S : Nat) : Int), .int .i64 ((B : Nat) : Int), .int .i64 ((O : Nat) : Int), .int .i64 ((C : Nat) : Int)], .slice (some ⟨g, 0, none⟩) 9 cap, .pointer (some ⟨g, 6, none⟩), .int .i64 ((W : Nat) : Int), .slice (some ⟨g, 0, none⟩) 9 cap, .pointer (some ⟨g, 7, none⟩), .int .i64 ((V : Nat) : Int), .agg #[.int .i64 ((R : Nat) : Int), .int .i64 ((S : Nat) : Int), .int .i64 ((B : Nat) : Int), .int .i64 ((O : Nat) : Int), .int .i64 ((C : Nat) : Int), .int .i64 ((W : Nat) : Int), .int .i64 ((V : Nat) : Int)], .slice (some ⟨g, 0, none⟩) 9 cap, .pointer (some ⟨g, 0, none⟩), .int .i64 ((M : Nat) : Int), .bool true, .bool false, .bool false, .agg #[.int .i64 ((R : Nat) : Int), .int .i64 ((S : Nat) : Int), .int .i64 ((B : Nat) : Int), .int .i64 ((O : Nat) : Int), .int .i64 ((C : Nat) : Int), .int .i64 ((W : Nat) : Int), .int .i64 ((V : Nat) : Int)], .bool true, .bool false, .bool false, .bool false, .agg #[.int .i64 ((R : Nat) : Int), .int .i64 ((S : Nat) : Int), .int .i64 ((B : Nat) : Int), .int .i64 ((O : Nat) : Int), .int .i64 ((C : Nat) : Int), .int .i64 ((W : Nat) : Int), .int .i64 ((V : Nat) : Int)], .slice (some ⟨g, 0, none⟩) 9 cap, .pointer (some ⟨g, 0, none⟩), .int .i64 ((M : Nat) : Int), .slice (some ⟨g, 0, none⟩) 9 cap, .pointer (some ⟨g, 8, none⟩), .int .i64 ((b : Nat) : Int), .bool (decide (((b : Nat) : Int) = 1)), .int .u64 ((Q : Nat) : Int), .int .u64 ((X : Nat) : Int), .bool false, .bool false, undef, .agg #[.int .i64 ((R : Nat) : Int), .int .i64 ((S : Nat) : Int), .int .i64 ((B : Nat) : Int), .int .i64 ((O : Nat) : Int), .int .i64 ((C : Nat) : Int), .int .i64 ((W : Nat) : Int), .int .i64 ((V : Nat) : Int)], .slice (some ⟨g, 0, none⟩) 9 cap, .pointer (some ⟨g, 0, none⟩), .int .i64 ((M : Nat) : Int), .slice (some ⟨g, 0, none⟩) 9 cap, .pointer (some ⟨g, 8, none⟩), .int .i64 ((b : Nat) : Int), .bool (decide (((b : Nat) : Int) = 1))], defers := [] } (by kernel_rfl) ?_
        refine x_then ?_
        refine x_retc ?_
        refine x_ret (.tuple #[.agg #[.int .i64 ((R : Nat) : Int), .int .i64 ((S : Nat) : Int), .int .i64 ((B : Nat) : Int), .int .i64 ((O : Nat) : Int), .int .i64 ((C : Nat) : Int), .int .i64 ((W : Nat) : Int), .int .i64 ((V : Nat) : Int)], .int .i64 ((M : Nat) : Int), .bool (decide (((b : Nat) : Int) = 1)), .int .i64 0]) (by kernel_rfl) (x_rescell H 3 g1 0 #[.int .i64 ((R : Nat) : Int), .int .i64 ((S : Nat) : Int), .int .i64 ((B : Nat) : Int), .int .i64 ((O : Nat) : Int), .int .i64 ((C : Nat) : Int), .int .i64 ((W : Nat) : Int), .int .i64 ((V : Nat) : Int)] 100 [.int .i64 ((R : Nat) : Int), .int .i64 ((S : Nat) : Int), .int .i64 ((B : Nat) : Int), .int .i64 ((O : Nat) : Int), .int .i64 ((C : Nat) : Int), .int .i64 ((W : Nat) : Int), .int .i64 ((V : Nat) : Int)] (fun x => .tuple #[x, .int .i64 ((M : Nat) : Int), .bool (decide (((b : Nat) : Int) = 1)), .int .i64 0]) (by kernel_rfl) (by kernel_rfl) (by kernel_rfl)) ?_
        exact ⟨rfl, H.below⟩

end Go.Proofs.Ythmbiddnpogolaa
