/- A line's step. -/
import Derived.Test.YtjbaabffilejeaaDoorScrQ
import Derived.Test.YtjbaabffilejeaaDoorPxZ
namespace Go.Proofs.YtjbaabffilejeaaDoor
open Go Go.RowKit
set_option linter.unusedVariables false
set_option linter.unusedSimpArgs false
open Go.Lib (decDigits itoa)
set_option maxRecDepth 100000 in
set_option maxHeartbeats 4000000 in
theorem at_of {g i : Nat} {ws : List (List UInt8)} (w0 : World) (hR : Ro w0 [.row (.slice (some ⟨g, 0, none⟩) ws.length ws.length) 9 1 ws.length (List.map S ws)]) :
    Calls Tryd.prog 43 #[.slice (some ⟨g, 0, none⟩) ws.length ws.length, .int .i64 ((i : Nat) : Int)] w0 fun e w' => e = .returned (S (wAt ws i)) ∧ Below w0.heap.size w0 w' := by
  refine z_enter Tryd.func43 rfl ?_
  have H := Hs.nil w0
  have R0 := hR
  refine x_seq <| x_region <| x_b H [.m] <| x_nil <| x_then <| x_seq <| x_seq ?_
  refine x_region <| x_b H [.m, .m, .m, .v (.bool (decide (((ws.length : Nat) : Int) ≤ (i : Int))))] <| x_nil <| x_then ?_
  cases h1 : decide (((ws.length : Nat) : Int) ≤ (i : Int))
  · skip
    have h1p := of_decide_eq_false h1
    refine x_f (by kernel_rfl) <| x_skipc <| x_then <| x_seq <| x_region <| x_b H [.m, .m] <| x_ix (t := 60) g 0 i ws.length ws.length 9 1 i (by omega) (by omega) (by kernel_rfl) (by kernel_rfl) (by kernel_rfl) rfl (by kernel_rfl) ?_
    refine x_loadc g i (S (ws.getD i ([] : List UInt8))) ((H.ro R0).rowCell 0 rfl i (mapAt ([] : List UInt8) (by omega))) (by kernel_rfl) rfl (by kernel_rfl) <| x_b H [.m] <| x_nil <| x_then <| x_retc <| x_ret (S (ws.getD i ([] : List UInt8))) (by kernel_rfl) (by kernel_rfl) ?_
    exact ⟨rfl, H.below⟩
  have h1p := of_decide_eq_true h1
  refine x_t (by kernel_rfl) <| x_seq <| x_region <| x_b H [.m] <| x_nil <| x_then <| x_retc ?_
  refine x_then_ret <| x_ret (S ([] : List UInt8)) (by kernel_rfl) (by kernel_rfl) ?_
  have e : wAt ws i = [] := by unfold wAt; rw [List.getD_eq_getElem?_getD, List.getElem?_eq_none (by omega)]; rfl
  exact ⟨by rw [e], H.below⟩
theorem WIx_v {x : List UInt8} {i : Nat} (h : wIx x = i) {w : World} (E : EnvS w) : Calls Tryd.prog 42 #[.slice (some ⟨1, 1, none⟩) 7 7, S x] w fun e w' => e = .returned (.int .i64 (((i : Nat) : Int) - 1)) ∧ Below w.heap.size w w' := by
  rw [← h]; exact WIx_of x E
theorem FIx_v {x : List UInt8} {i : Nat} (h : fIx x = i) {w : World} (E : EnvS w) : Calls Tryd.prog 42 #[.slice (some ⟨0, 1, none⟩) 7 7, S x] w fun e w' => e = .returned (.int .i64 (((i : Nat) : Int) - 1)) ∧ Below w.heap.size w w' := by
  rw [← h]; exact FIx_of x E
theorem SShow_zero (w : World) : Calls Tryd.prog 17 #[.agg (stepA zeroS)] w fun e w' => e = .returned (.tuple #[S [], .int .i64 10]) ∧ Below w.heap.size w w' :=
  SShow_no (x := zeroS) (fun h => absurd (show (1 : Int) ≤ 0 from h.1) (by decide)) w
set_option maxRecDepth 100000 in
set_option maxHeartbeats 4000000 in
theorem Parse_w1 {l : List UInt8} (hl : l.length ≤ 100000) (hw : wIx ((words l).getD 0 []) = 1) (hf : fIx ((words l).getD 0 []) = 0) (w0 : World) (hE : EnvS w0) :
    Calls Tryd.prog 19 #[S l] w0 fun e w' => e = .returned (pres (fillW 1 (words l)) l) ∧ Below w0.heap.size w0 w' := by
  refine z_enter Tryd.func19 rfl ?_
  have H := Hs.nil w0
  have hM := nilM
  have hwp := words_pos l
  refine x_seq <| x_region <| z_box H (stepA ⟨0, 0, (fun _ => 0), 0, 0, 0, 0, 0, 0, 0, 0, 0⟩) 41 (fun v1 g1 H => ?_)
  refine x_b H [.m] <| x_nil <| x_then <| x_seq <| x_region <| x_b H [.m] <| z_call (Split_of l hl (hE.on hM H)) ?_
  rintro _ v2 ⟨gs, rfl, hN'⟩
  refine ⟨_, rfl, ?_⟩
  replace H := H.more hN'
  clear hN'
  refine x_b H [.m] <| x_nil <| x_then <| x_seq <| x_region <| z_box H (stepA ⟨0, 0, (fun _ => 0), 0, 0, 0, 0, 0, 0, 0, 0, 0⟩) 41 (fun v3 g2 H => ?_)
  refine x_nil <| x_then <| x_seq <| x_seq <| z_region_whole H <| q_b [.m, .m] <| q_ix (t := 60) gs 0 0 ((words l).length) ((words l).length) 9 1 0 (words_pos l) (by omega) (by kernel_rfl) (by kernel_rfl) (by kernel_rfl) (fun _ => by kernel_rfl) ?_
  refine q_loadc gs 0 (S ((words l).getD 0 ([] : List UInt8))) (fun _ H => H.rowCell 1 rfl 0 (mapAt ([] : List UInt8) (by omega))) (by kernel_rfl) (fun _ => by kernel_rfl) <| q_callR (.int .i64 0) (by kernel_rfl) (fun _ => by kernel_rfl) (fun _ H => (WIx_v hw (hE.on hM H))) <| q_b [.m] <| q_nil ?_
  clear H
  intro v4 H
  refine x_then <| x_seq <| x_region <| x_b H [.m, .m] <| x_nil <| x_then <| x_t (by kernel_rfl) ?_
  refine x_seq <| x_region <| x_b H [.m, .m, .m] <| z_store H 0 0 [.int .i64 1] (fun v5 H => ?_)
  refine x_nil <| x_then <| x_seq <| x_region <| x_b H [.m] <| z_callB H (at_of (g := gs) (i := 1) (ws := words l) _ (roAs (H.ro1 [1]) rfl)) fun v6 H => z_call (Atoi_of (wAt (words l) 1) (Nat.le_trans (wAt_len l 1) (by omega)) ((hE.on hM H)).toEnv) ?_
  rintro _ v7 ⟨ev, rfl, hB'⟩
  refine ⟨_, rfl, ?_⟩
  replace H := H.via hB'
  clear hB'
  refine x_b H [.m, .m, .m, .m] <| z_store H 0 1 [.int .i64 (atoiV (wAt (words l) 1))] (fun v8 H => ?_)
  refine x_nil <| x_then <| x_seq <| x_region <| x_b H [.m] <| z_callB H (at_of (g := gs) (i := 2) (ws := words l) _ (roAs (H.ro1 [1]) rfl)) fun v9 H => z_call (LRead_of (wAt (words l) 2) _) ?_
  rintro _ v10 ⟨ev, rfl, hB'⟩
  refine ⟨_, rfl, ?_⟩
  replace H := H.via hB'
  clear hB'
  refine x_b H [.m, .m, .m, .m] <| z_store H 0 2 ((arrL (lineV (wAt (words l) 2)) 64 0).toArray).toList (fun v11 H => ?_)
  refine x_nil <| x_then <| x_region <| x_b H [.m] <| z_callB H (at_of (g := gs) (i := 3) (ws := words l) _ (roAs (H.ro1 [1]) rfl)) fun v12 H => z_call (PUint_of (wAt (words l) 3) (Nat.le_trans (wAt_len l 3) (by omega)) (hE.on hM H)) ?_
  rintro _ v13 ⟨ev, rfl, hB'⟩
  refine ⟨_, rfl, ?_⟩
  replace H := H.via hB'
  clear hB'
  refine x_b H [.m, .m, .m, .m] <| z_store H 0 66 [.int .u64 ((uintV (wAt (words l) 3) : Nat) : Int)] (fun v14 H => ?_)
  refine x_nil <| z_fr 92 [(0, S l), (2, .pointer (some ⟨g1, 0, none⟩)), (4, .slice (some ⟨gs, 0, none⟩) ((words l).length) ((words l).length)), (5, .pointer (some ⟨g2, 0, none⟩))] [] fun uf1 => x_then <| x_seq <| x_seq <| z_region_whole H <| q_b [.m, .m] ?_
  refine q_ix (t := 60) gs 0 0 ((words l).length) ((words l).length) 9 1 0 (words_pos l) (by omega) (by kernel_rfl) (by kernel_rfl) (by kernel_rfl) (fun _ => by kernel_rfl) <| q_loadc gs 0 (S ((words l).getD 0 ([] : List UInt8))) (fun _ H => H.rowCell 1 rfl 0 (mapAt ([] : List UInt8) (by omega))) (by kernel_rfl) (fun _ => by kernel_rfl) <| q_callR (.int .i64 (-1)) (by kernel_rfl) (fun _ => by kernel_rfl) (fun _ H => (FIx_v hf (hE.on hM H))) <| q_b [.m] <| q_nil ?_
  clear H
  intro v15 H
  refine x_then <| x_seq <| x_region <| x_b H [.m, .m] <| x_nil <| x_then <| x_f (by kernel_rfl) ?_
  refine x_skipc <| x_then <| x_seq <| x_region <| x_b H [.n 0 0 75 41] <| z_callB H (bare_of ⟨1, (atoiV (wAt (words l) 1)), (lineV (wAt (words l) 2)), uintV (wAt (words l) 3), 0, 0, 0, 0, 0, 0, 0, 0⟩ _) fun v16 H => z_store H 0 0 ((stepA ⟨1, (atoiV (wAt (words l) 1)), (fun _ => 0), 0, 0, 0, 0, 0, 0, 0, 0, 0⟩)).toList (fun v17 H => ?_)
  refine x_nil <| x_then <| x_seq <| x_seq <| x_region <| x_b H [.n 0 0 75 41] <| z_callB H (SShow_yes (x := (fillW 1 (words l))) (fillW_rng (by decide) _) (fillW_right (by decide) (by decide) _) _ (hE.on hM H)) fun v18 H => ?_
  refine x_b H [.m, .m, .m, .m, .m] <| x_nil <| x_then <| x_seq <| x_region <| x_b H [.m, .m, .m, .m, .m] <| x_eq (.bool (!(decide (txtS (fillW 1 (words l)) = l)))) (strNe (txtS (fillW 1 (words l))) l) (by kernel_rfl) rfl (by kernel_rfl) ?_
  refine x_b H [.v (.bool (!(decide (txtS (fillW 1 (words l)) = l))))] <| x_nil <| x_then ?_
  cases h1 : decide (txtS (fillW 1 (words l)) = l)
  · skip
    have h1p := of_decide_eq_false h1
    refine x_t (by kernel_rfl) <| x_seq <| x_region <| x_b H [.m] <| z_store H 2 0 ((stepA ⟨0, 0, (fun _ => 0), 0, 0, 0, 0, 0, 0, 0, 0, 0⟩)).toList (fun v19 H => ?_)
    refine x_b H [.m] <| x_nil <| x_then <| x_retc <| x_then_ret <| x_ret (.tuple #[.agg (stepA ⟨0, 0, (fun _ => 0), 0, 0, 0, 0, 0, 0, 0, 0, 0⟩), .int .i64 61]) (by kernel_rfl) (x_results [.cell 2 41, .tmp 3] [.agg (stepA ⟨0, 0, (fun _ => 0), 0, 0, 0, 0, 0, 0, 0, 0, 0⟩), .int .i64 61] _ rfl (AllR.cell (by kernel_rfl) (ldR H 2 g1 0 (stepA ⟨0, 0, (fun _ => 0), 0, 0, 0, 0, 0, 0, 0, 0, 0⟩) 41 (stepL ⟨0, 0, (fun _ => 0), 0, 0, 0, 0, 0, 0, 0, 0, 0⟩) (by kernel_rfl) (by kernel_rfl) (by kernel_rfl)) (AllR.tmp (by kernel_rfl) AllR.nil)) (by kernel_rfl)) ?_
    exact ⟨by rw [pres_no (of_decide_eq_false h1)]; rfl, H.below⟩
  have h1p := of_decide_eq_true h1
  refine x_f (by kernel_rfl) <| x_skipc <| x_then <| x_seq <| x_region <| x_b H [.n 0 0 75 41] <| z_store H 2 0 ((stepA ⟨1, (atoiV (wAt (words l) 1)), (fun _ => 0), 0, 0, 0, 0, 0, 0, 0, 0, 0⟩)).toList (fun v20 H => ?_)
  refine x_b H [.m] <| x_nil <| x_then <| x_retc <| x_ret (.tuple #[.agg (stepA ⟨1, (atoiV (wAt (words l) 1)), (fun _ => 0), 0, 0, 0, 0, 0, 0, 0, 0, 0⟩), .int .i64 0]) (by kernel_rfl) (x_results [.cell 2 41, .tmp 3] [.agg (stepA ⟨1, (atoiV (wAt (words l) 1)), (fun _ => 0), 0, 0, 0, 0, 0, 0, 0, 0, 0⟩), .int .i64 0] _ rfl (AllR.cell (by kernel_rfl) (ldR H 2 g1 0 (stepA ⟨1, (atoiV (wAt (words l) 1)), (fun _ => 0), 0, 0, 0, 0, 0, 0, 0, 0, 0⟩) 41 (stepL ⟨1, (atoiV (wAt (words l) 1)), (fun _ => 0), 0, 0, 0, 0, 0, 0, 0, 0, 0⟩) (by kernel_rfl) (by kernel_rfl) (by kernel_rfl)) (AllR.tmp (by kernel_rfl) AllR.nil)) (by kernel_rfl)) ?_
  exact ⟨by rw [pres_yes (of_decide_eq_true h1)]; rfl, H.below⟩
set_option maxRecDepth 100000 in
set_option maxHeartbeats 4000000 in
theorem Parse_w2 {l : List UInt8} (hl : l.length ≤ 100000) (hw : wIx ((words l).getD 0 []) = 2) (hf : fIx ((words l).getD 0 []) = 0) (w0 : World) (hE : EnvS w0) :
    Calls Tryd.prog 19 #[S l] w0 fun e w' => e = .returned (pres (fillW 2 (words l)) l) ∧ Below w0.heap.size w0 w' := by
  refine z_enter Tryd.func19 rfl ?_
  have H := Hs.nil w0
  have hM := nilM
  have hwp := words_pos l
  refine x_seq <| x_region <| z_box H (stepA ⟨0, 0, (fun _ => 0), 0, 0, 0, 0, 0, 0, 0, 0, 0⟩) 41 (fun v1 g1 H => ?_)
  refine x_b H [.m] <| x_nil <| x_then <| x_seq <| x_region <| x_b H [.m] <| z_call (Split_of l hl (hE.on hM H)) ?_
  rintro _ v2 ⟨gs, rfl, hN'⟩
  refine ⟨_, rfl, ?_⟩
  replace H := H.more hN'
  clear hN'
  refine x_b H [.m] <| x_nil <| x_then <| x_seq <| x_region <| z_box H (stepA ⟨0, 0, (fun _ => 0), 0, 0, 0, 0, 0, 0, 0, 0, 0⟩) 41 (fun v3 g2 H => ?_)
  refine x_nil <| x_then <| x_seq <| x_seq <| z_region_whole H <| q_b [.m, .m] <| q_ix (t := 60) gs 0 0 ((words l).length) ((words l).length) 9 1 0 (words_pos l) (by omega) (by kernel_rfl) (by kernel_rfl) (by kernel_rfl) (fun _ => by kernel_rfl) ?_
  refine q_loadc gs 0 (S ((words l).getD 0 ([] : List UInt8))) (fun _ H => H.rowCell 1 rfl 0 (mapAt ([] : List UInt8) (by omega))) (by kernel_rfl) (fun _ => by kernel_rfl) <| q_callR (.int .i64 1) (by kernel_rfl) (fun _ => by kernel_rfl) (fun _ H => (WIx_v hw (hE.on hM H))) <| q_b [.m] <| q_nil ?_
  clear H
  intro v4 H
  refine x_then <| x_seq <| x_region <| x_b H [.m, .m] <| x_nil <| x_then <| x_t (by kernel_rfl) ?_
  refine x_seq <| x_region <| x_b H [.m, .m, .m] <| z_store H 0 0 [.int .i64 2] (fun v5 H => ?_)
  refine x_nil <| x_then <| x_seq <| x_region <| x_b H [.m] <| z_callB H (at_of (g := gs) (i := 1) (ws := words l) _ (roAs (H.ro1 [1]) rfl)) fun v6 H => z_call (Atoi_of (wAt (words l) 1) (Nat.le_trans (wAt_len l 1) (by omega)) ((hE.on hM H)).toEnv) ?_
  rintro _ v7 ⟨ev, rfl, hB'⟩
  refine ⟨_, rfl, ?_⟩
  replace H := H.via hB'
  clear hB'
  refine x_b H [.m, .m, .m, .m] <| z_store H 0 1 [.int .i64 (atoiV (wAt (words l) 1))] (fun v8 H => ?_)
  refine x_nil <| x_then <| x_seq <| x_region <| x_b H [.m] <| z_callB H (at_of (g := gs) (i := 2) (ws := words l) _ (roAs (H.ro1 [1]) rfl)) fun v9 H => z_call (LRead_of (wAt (words l) 2) _) ?_
  rintro _ v10 ⟨ev, rfl, hB'⟩
  refine ⟨_, rfl, ?_⟩
  replace H := H.via hB'
  clear hB'
  refine x_b H [.m, .m, .m, .m] <| z_store H 0 2 ((arrL (lineV (wAt (words l) 2)) 64 0).toArray).toList (fun v11 H => ?_)
  refine x_nil <| x_then <| x_region <| x_b H [.m] <| z_callB H (at_of (g := gs) (i := 3) (ws := words l) _ (roAs (H.ro1 [1]) rfl)) fun v12 H => z_call (PUint_of (wAt (words l) 3) (Nat.le_trans (wAt_len l 3) (by omega)) (hE.on hM H)) ?_
  rintro _ v13 ⟨ev, rfl, hB'⟩
  refine ⟨_, rfl, ?_⟩
  replace H := H.via hB'
  clear hB'
  refine x_b H [.m, .m, .m, .m] <| z_store H 0 66 [.int .u64 ((uintV (wAt (words l) 3) : Nat) : Int)] (fun v14 H => ?_)
  refine x_nil <| z_fr 92 [(0, S l), (2, .pointer (some ⟨g1, 0, none⟩)), (4, .slice (some ⟨gs, 0, none⟩) ((words l).length) ((words l).length)), (5, .pointer (some ⟨g2, 0, none⟩))] [] fun uf1 => x_then <| x_seq <| x_seq <| z_region_whole H <| q_b [.m, .m] ?_
  refine q_ix (t := 60) gs 0 0 ((words l).length) ((words l).length) 9 1 0 (words_pos l) (by omega) (by kernel_rfl) (by kernel_rfl) (by kernel_rfl) (fun _ => by kernel_rfl) <| q_loadc gs 0 (S ((words l).getD 0 ([] : List UInt8))) (fun _ H => H.rowCell 1 rfl 0 (mapAt ([] : List UInt8) (by omega))) (by kernel_rfl) (fun _ => by kernel_rfl) <| q_callR (.int .i64 (-1)) (by kernel_rfl) (fun _ => by kernel_rfl) (fun _ H => (FIx_v hf (hE.on hM H))) <| q_b [.m] <| q_nil ?_
  clear H
  intro v15 H
  refine x_then <| x_seq <| x_region <| x_b H [.m, .m] <| x_nil <| x_then <| x_f (by kernel_rfl) ?_
  refine x_skipc <| x_then <| x_seq <| x_region <| x_b H [.n 0 0 75 41] <| z_callB H (bare_of ⟨2, (atoiV (wAt (words l) 1)), (lineV (wAt (words l) 2)), uintV (wAt (words l) 3), 0, 0, 0, 0, 0, 0, 0, 0⟩ _) fun v16 H => z_store H 0 0 ((stepA ⟨2, (atoiV (wAt (words l) 1)), (lineV (wAt (words l) 2)), 0, 0, 0, 0, 0, 0, 0, 0, 0⟩)).toList (fun v17 H => ?_)
  refine x_nil <| x_then <| x_seq <| x_seq <| x_region <| x_b H [.n 0 0 75 41] <| z_callB H (SShow_yes (x := (fillW 2 (words l))) (fillW_rng (by decide) _) (fillW_right (by decide) (by decide) _) _ (hE.on hM H)) fun v18 H => ?_
  refine x_b H [.m, .m, .m, .m, .m] <| x_nil <| x_then <| x_seq <| x_region <| x_b H [.m, .m, .m, .m, .m] <| x_eq (.bool (!(decide (txtS (fillW 2 (words l)) = l)))) (strNe (txtS (fillW 2 (words l))) l) (by kernel_rfl) rfl (by kernel_rfl) ?_
  refine x_b H [.v (.bool (!(decide (txtS (fillW 2 (words l)) = l))))] <| x_nil <| x_then ?_
  cases h1 : decide (txtS (fillW 2 (words l)) = l)
  · skip
    have h1p := of_decide_eq_false h1
    refine x_t (by kernel_rfl) <| x_seq <| x_region <| x_b H [.m] <| z_store H 2 0 ((stepA ⟨0, 0, (fun _ => 0), 0, 0, 0, 0, 0, 0, 0, 0, 0⟩)).toList (fun v19 H => ?_)
    refine x_b H [.m] <| x_nil <| x_then <| x_retc <| x_then_ret <| x_ret (.tuple #[.agg (stepA ⟨0, 0, (fun _ => 0), 0, 0, 0, 0, 0, 0, 0, 0, 0⟩), .int .i64 61]) (by kernel_rfl) (x_results [.cell 2 41, .tmp 3] [.agg (stepA ⟨0, 0, (fun _ => 0), 0, 0, 0, 0, 0, 0, 0, 0, 0⟩), .int .i64 61] _ rfl (AllR.cell (by kernel_rfl) (ldR H 2 g1 0 (stepA ⟨0, 0, (fun _ => 0), 0, 0, 0, 0, 0, 0, 0, 0, 0⟩) 41 (stepL ⟨0, 0, (fun _ => 0), 0, 0, 0, 0, 0, 0, 0, 0, 0⟩) (by kernel_rfl) (by kernel_rfl) (by kernel_rfl)) (AllR.tmp (by kernel_rfl) AllR.nil)) (by kernel_rfl)) ?_
    exact ⟨by rw [pres_no (of_decide_eq_false h1)]; rfl, H.below⟩
  have h1p := of_decide_eq_true h1
  refine x_f (by kernel_rfl) <| x_skipc <| x_then <| x_seq <| x_region <| x_b H [.n 0 0 75 41] <| z_store H 2 0 ((stepA ⟨2, (atoiV (wAt (words l) 1)), (lineV (wAt (words l) 2)), 0, 0, 0, 0, 0, 0, 0, 0, 0⟩)).toList (fun v20 H => ?_)
  refine x_b H [.m] <| x_nil <| x_then <| x_retc <| x_ret (.tuple #[.agg (stepA ⟨2, (atoiV (wAt (words l) 1)), (lineV (wAt (words l) 2)), 0, 0, 0, 0, 0, 0, 0, 0, 0⟩), .int .i64 0]) (by kernel_rfl) (x_results [.cell 2 41, .tmp 3] [.agg (stepA ⟨2, (atoiV (wAt (words l) 1)), (lineV (wAt (words l) 2)), 0, 0, 0, 0, 0, 0, 0, 0, 0⟩), .int .i64 0] _ rfl (AllR.cell (by kernel_rfl) (ldR H 2 g1 0 (stepA ⟨2, (atoiV (wAt (words l) 1)), (lineV (wAt (words l) 2)), 0, 0, 0, 0, 0, 0, 0, 0, 0⟩) 41 (stepL ⟨2, (atoiV (wAt (words l) 1)), (lineV (wAt (words l) 2)), 0, 0, 0, 0, 0, 0, 0, 0, 0⟩) (by kernel_rfl) (by kernel_rfl) (by kernel_rfl)) (AllR.tmp (by kernel_rfl) AllR.nil)) (by kernel_rfl)) ?_
  exact ⟨by rw [pres_yes (of_decide_eq_true h1)]; rfl, H.below⟩
set_option maxRecDepth 100000 in
set_option maxHeartbeats 4000000 in
theorem Parse_w3 {l : List UInt8} (hl : l.length ≤ 100000) (hw : wIx ((words l).getD 0 []) = 3) (hf : fIx ((words l).getD 0 []) = 0) (w0 : World) (hE : EnvS w0) :
    Calls Tryd.prog 19 #[S l] w0 fun e w' => e = .returned (pres (fillW 3 (words l)) l) ∧ Below w0.heap.size w0 w' := by
  refine z_enter Tryd.func19 rfl ?_
  have H := Hs.nil w0
  have hM := nilM
  have hwp := words_pos l
  refine x_seq <| x_region <| z_box H (stepA ⟨0, 0, (fun _ => 0), 0, 0, 0, 0, 0, 0, 0, 0, 0⟩) 41 (fun v1 g1 H => ?_)
  refine x_b H [.m] <| x_nil <| x_then <| x_seq <| x_region <| x_b H [.m] <| z_call (Split_of l hl (hE.on hM H)) ?_
  rintro _ v2 ⟨gs, rfl, hN'⟩
  refine ⟨_, rfl, ?_⟩
  replace H := H.more hN'
  clear hN'
  refine x_b H [.m] <| x_nil <| x_then <| x_seq <| x_region <| z_box H (stepA ⟨0, 0, (fun _ => 0), 0, 0, 0, 0, 0, 0, 0, 0, 0⟩) 41 (fun v3 g2 H => ?_)
  refine x_nil <| x_then <| x_seq <| x_seq <| z_region_whole H <| q_b [.m, .m] <| q_ix (t := 60) gs 0 0 ((words l).length) ((words l).length) 9 1 0 (words_pos l) (by omega) (by kernel_rfl) (by kernel_rfl) (by kernel_rfl) (fun _ => by kernel_rfl) ?_
  refine q_loadc gs 0 (S ((words l).getD 0 ([] : List UInt8))) (fun _ H => H.rowCell 1 rfl 0 (mapAt ([] : List UInt8) (by omega))) (by kernel_rfl) (fun _ => by kernel_rfl) <| q_callR (.int .i64 2) (by kernel_rfl) (fun _ => by kernel_rfl) (fun _ H => (WIx_v hw (hE.on hM H))) <| q_b [.m] <| q_nil ?_
  clear H
  intro v4 H
  refine x_then <| x_seq <| x_region <| x_b H [.m, .m] <| x_nil <| x_then <| x_t (by kernel_rfl) ?_
  refine x_seq <| x_region <| x_b H [.m, .m, .m] <| z_store H 0 0 [.int .i64 3] (fun v5 H => ?_)
  refine x_nil <| x_then <| x_seq <| x_region <| x_b H [.m] <| z_callB H (at_of (g := gs) (i := 1) (ws := words l) _ (roAs (H.ro1 [1]) rfl)) fun v6 H => z_call (Atoi_of (wAt (words l) 1) (Nat.le_trans (wAt_len l 1) (by omega)) ((hE.on hM H)).toEnv) ?_
  rintro _ v7 ⟨ev, rfl, hB'⟩
  refine ⟨_, rfl, ?_⟩
  replace H := H.via hB'
  clear hB'
  refine x_b H [.m, .m, .m, .m] <| z_store H 0 1 [.int .i64 (atoiV (wAt (words l) 1))] (fun v8 H => ?_)
  refine x_nil <| x_then <| x_seq <| x_region <| x_b H [.m] <| z_callB H (at_of (g := gs) (i := 2) (ws := words l) _ (roAs (H.ro1 [1]) rfl)) fun v9 H => z_call (LRead_of (wAt (words l) 2) _) ?_
  rintro _ v10 ⟨ev, rfl, hB'⟩
  refine ⟨_, rfl, ?_⟩
  replace H := H.via hB'
  clear hB'
  refine x_b H [.m, .m, .m, .m] <| z_store H 0 2 ((arrL (lineV (wAt (words l) 2)) 64 0).toArray).toList (fun v11 H => ?_)
  refine x_nil <| x_then <| x_region <| x_b H [.m] <| z_callB H (at_of (g := gs) (i := 3) (ws := words l) _ (roAs (H.ro1 [1]) rfl)) fun v12 H => z_call (PUint_of (wAt (words l) 3) (Nat.le_trans (wAt_len l 3) (by omega)) (hE.on hM H)) ?_
  rintro _ v13 ⟨ev, rfl, hB'⟩
  refine ⟨_, rfl, ?_⟩
  replace H := H.via hB'
  clear hB'
  refine x_b H [.m, .m, .m, .m] <| z_store H 0 66 [.int .u64 ((uintV (wAt (words l) 3) : Nat) : Int)] (fun v14 H => ?_)
  refine x_nil <| z_fr 92 [(0, S l), (2, .pointer (some ⟨g1, 0, none⟩)), (4, .slice (some ⟨gs, 0, none⟩) ((words l).length) ((words l).length)), (5, .pointer (some ⟨g2, 0, none⟩))] [] fun uf1 => x_then <| x_seq <| x_seq <| z_region_whole H <| q_b [.m, .m] ?_
  refine q_ix (t := 60) gs 0 0 ((words l).length) ((words l).length) 9 1 0 (words_pos l) (by omega) (by kernel_rfl) (by kernel_rfl) (by kernel_rfl) (fun _ => by kernel_rfl) <| q_loadc gs 0 (S ((words l).getD 0 ([] : List UInt8))) (fun _ H => H.rowCell 1 rfl 0 (mapAt ([] : List UInt8) (by omega))) (by kernel_rfl) (fun _ => by kernel_rfl) <| q_callR (.int .i64 (-1)) (by kernel_rfl) (fun _ => by kernel_rfl) (fun _ H => (FIx_v hf (hE.on hM H))) <| q_b [.m] <| q_nil ?_
  clear H
  intro v15 H
  refine x_then <| x_seq <| x_region <| x_b H [.m, .m] <| x_nil <| x_then <| x_f (by kernel_rfl) ?_
  refine x_skipc <| x_then <| x_seq <| x_region <| x_b H [.n 0 0 75 41] <| z_callB H (bare_of ⟨3, (atoiV (wAt (words l) 1)), (lineV (wAt (words l) 2)), uintV (wAt (words l) 3), 0, 0, 0, 0, 0, 0, 0, 0⟩ _) fun v16 H => z_store H 0 0 ((stepA ⟨3, (atoiV (wAt (words l) 1)), (lineV (wAt (words l) 2)), (uintV (wAt (words l) 3)), 0, 0, 0, 0, 0, 0, 0, 0⟩)).toList (fun v17 H => ?_)
  refine x_nil <| x_then <| x_seq <| x_seq <| x_region <| x_b H [.n 0 0 75 41] <| z_callB H (SShow_yes (x := (fillW 3 (words l))) (fillW_rng (by decide) _) (fillW_right (by decide) (by decide) _) _ (hE.on hM H)) fun v18 H => ?_
  refine x_b H [.m, .m, .m, .m, .m] <| x_nil <| x_then <| x_seq <| x_region <| x_b H [.m, .m, .m, .m, .m] <| x_eq (.bool (!(decide (txtS (fillW 3 (words l)) = l)))) (strNe (txtS (fillW 3 (words l))) l) (by kernel_rfl) rfl (by kernel_rfl) ?_
  refine x_b H [.v (.bool (!(decide (txtS (fillW 3 (words l)) = l))))] <| x_nil <| x_then ?_
  cases h1 : decide (txtS (fillW 3 (words l)) = l)
  · skip
    have h1p := of_decide_eq_false h1
    refine x_t (by kernel_rfl) <| x_seq <| x_region <| x_b H [.m] <| z_store H 2 0 ((stepA ⟨0, 0, (fun _ => 0), 0, 0, 0, 0, 0, 0, 0, 0, 0⟩)).toList (fun v19 H => ?_)
    refine x_b H [.m] <| x_nil <| x_then <| x_retc <| x_then_ret <| x_ret (.tuple #[.agg (stepA ⟨0, 0, (fun _ => 0), 0, 0, 0, 0, 0, 0, 0, 0, 0⟩), .int .i64 61]) (by kernel_rfl) (x_results [.cell 2 41, .tmp 3] [.agg (stepA ⟨0, 0, (fun _ => 0), 0, 0, 0, 0, 0, 0, 0, 0, 0⟩), .int .i64 61] _ rfl (AllR.cell (by kernel_rfl) (ldR H 2 g1 0 (stepA ⟨0, 0, (fun _ => 0), 0, 0, 0, 0, 0, 0, 0, 0, 0⟩) 41 (stepL ⟨0, 0, (fun _ => 0), 0, 0, 0, 0, 0, 0, 0, 0, 0⟩) (by kernel_rfl) (by kernel_rfl) (by kernel_rfl)) (AllR.tmp (by kernel_rfl) AllR.nil)) (by kernel_rfl)) ?_
    exact ⟨by rw [pres_no (of_decide_eq_false h1)]; rfl, H.below⟩
  have h1p := of_decide_eq_true h1
  refine x_f (by kernel_rfl) <| x_skipc <| x_then <| x_seq <| x_region <| x_b H [.n 0 0 75 41] <| z_store H 2 0 ((stepA ⟨3, (atoiV (wAt (words l) 1)), (lineV (wAt (words l) 2)), (uintV (wAt (words l) 3)), 0, 0, 0, 0, 0, 0, 0, 0⟩)).toList (fun v20 H => ?_)
  refine x_b H [.m] <| x_nil <| x_then <| x_retc <| x_ret (.tuple #[.agg (stepA ⟨3, (atoiV (wAt (words l) 1)), (lineV (wAt (words l) 2)), (uintV (wAt (words l) 3)), 0, 0, 0, 0, 0, 0, 0, 0⟩), .int .i64 0]) (by kernel_rfl) (x_results [.cell 2 41, .tmp 3] [.agg (stepA ⟨3, (atoiV (wAt (words l) 1)), (lineV (wAt (words l) 2)), (uintV (wAt (words l) 3)), 0, 0, 0, 0, 0, 0, 0, 0⟩), .int .i64 0] _ rfl (AllR.cell (by kernel_rfl) (ldR H 2 g1 0 (stepA ⟨3, (atoiV (wAt (words l) 1)), (lineV (wAt (words l) 2)), (uintV (wAt (words l) 3)), 0, 0, 0, 0, 0, 0, 0, 0⟩) 41 (stepL ⟨3, (atoiV (wAt (words l) 1)), (lineV (wAt (words l) 2)), (uintV (wAt (words l) 3)), 0, 0, 0, 0, 0, 0, 0, 0⟩) (by kernel_rfl) (by kernel_rfl) (by kernel_rfl)) (AllR.tmp (by kernel_rfl) AllR.nil)) (by kernel_rfl)) ?_
  exact ⟨by rw [pres_yes (of_decide_eq_true h1)]; rfl, H.below⟩
set_option maxRecDepth 100000 in
set_option maxHeartbeats 4000000 in
theorem Parse_w4 {l : List UInt8} (hl : l.length ≤ 100000) (hw : wIx ((words l).getD 0 []) = 4) (hf : fIx ((words l).getD 0 []) = 0) (w0 : World) (hE : EnvS w0) :
    Calls Tryd.prog 19 #[S l] w0 fun e w' => e = .returned (pres (fillW 4 (words l)) l) ∧ Below w0.heap.size w0 w' := by
  refine z_enter Tryd.func19 rfl ?_
  have H := Hs.nil w0
  have hM := nilM
  have hwp := words_pos l
  refine x_seq <| x_region <| z_box H (stepA ⟨0, 0, (fun _ => 0), 0, 0, 0, 0, 0, 0, 0, 0, 0⟩) 41 (fun v1 g1 H => ?_)
  refine x_b H [.m] <| x_nil <| x_then <| x_seq <| x_region <| x_b H [.m] <| z_call (Split_of l hl (hE.on hM H)) ?_
  rintro _ v2 ⟨gs, rfl, hN'⟩
  refine ⟨_, rfl, ?_⟩
  replace H := H.more hN'
  clear hN'
  refine x_b H [.m] <| x_nil <| x_then <| x_seq <| x_region <| z_box H (stepA ⟨0, 0, (fun _ => 0), 0, 0, 0, 0, 0, 0, 0, 0, 0⟩) 41 (fun v3 g2 H => ?_)
  refine x_nil <| x_then <| x_seq <| x_seq <| z_region_whole H <| q_b [.m, .m] <| q_ix (t := 60) gs 0 0 ((words l).length) ((words l).length) 9 1 0 (words_pos l) (by omega) (by kernel_rfl) (by kernel_rfl) (by kernel_rfl) (fun _ => by kernel_rfl) ?_
  refine q_loadc gs 0 (S ((words l).getD 0 ([] : List UInt8))) (fun _ H => H.rowCell 1 rfl 0 (mapAt ([] : List UInt8) (by omega))) (by kernel_rfl) (fun _ => by kernel_rfl) <| q_callR (.int .i64 3) (by kernel_rfl) (fun _ => by kernel_rfl) (fun _ H => (WIx_v hw (hE.on hM H))) <| q_b [.m] <| q_nil ?_
  clear H
  intro v4 H
  refine x_then <| x_seq <| x_region <| x_b H [.m, .m] <| x_nil <| x_then <| x_t (by kernel_rfl) ?_
  refine x_seq <| x_region <| x_b H [.m, .m, .m] <| z_store H 0 0 [.int .i64 4] (fun v5 H => ?_)
  refine x_nil <| x_then <| x_seq <| x_region <| x_b H [.m] <| z_callB H (at_of (g := gs) (i := 1) (ws := words l) _ (roAs (H.ro1 [1]) rfl)) fun v6 H => z_call (Atoi_of (wAt (words l) 1) (Nat.le_trans (wAt_len l 1) (by omega)) ((hE.on hM H)).toEnv) ?_
  rintro _ v7 ⟨ev, rfl, hB'⟩
  refine ⟨_, rfl, ?_⟩
  replace H := H.via hB'
  clear hB'
  refine x_b H [.m, .m, .m, .m] <| z_store H 0 1 [.int .i64 (atoiV (wAt (words l) 1))] (fun v8 H => ?_)
  refine x_nil <| x_then <| x_seq <| x_region <| x_b H [.m] <| z_callB H (at_of (g := gs) (i := 2) (ws := words l) _ (roAs (H.ro1 [1]) rfl)) fun v9 H => z_call (LRead_of (wAt (words l) 2) _) ?_
  rintro _ v10 ⟨ev, rfl, hB'⟩
  refine ⟨_, rfl, ?_⟩
  replace H := H.via hB'
  clear hB'
  refine x_b H [.m, .m, .m, .m] <| z_store H 0 2 ((arrL (lineV (wAt (words l) 2)) 64 0).toArray).toList (fun v11 H => ?_)
  refine x_nil <| x_then <| x_region <| x_b H [.m] <| z_callB H (at_of (g := gs) (i := 3) (ws := words l) _ (roAs (H.ro1 [1]) rfl)) fun v12 H => z_call (PUint_of (wAt (words l) 3) (Nat.le_trans (wAt_len l 3) (by omega)) (hE.on hM H)) ?_
  rintro _ v13 ⟨ev, rfl, hB'⟩
  refine ⟨_, rfl, ?_⟩
  replace H := H.via hB'
  clear hB'
  refine x_b H [.m, .m, .m, .m] <| z_store H 0 66 [.int .u64 ((uintV (wAt (words l) 3) : Nat) : Int)] (fun v14 H => ?_)
  refine x_nil <| z_fr 92 [(0, S l), (2, .pointer (some ⟨g1, 0, none⟩)), (4, .slice (some ⟨gs, 0, none⟩) ((words l).length) ((words l).length)), (5, .pointer (some ⟨g2, 0, none⟩))] [] fun uf1 => x_then <| x_seq <| x_seq <| z_region_whole H <| q_b [.m, .m] ?_
  refine q_ix (t := 60) gs 0 0 ((words l).length) ((words l).length) 9 1 0 (words_pos l) (by omega) (by kernel_rfl) (by kernel_rfl) (by kernel_rfl) (fun _ => by kernel_rfl) <| q_loadc gs 0 (S ((words l).getD 0 ([] : List UInt8))) (fun _ H => H.rowCell 1 rfl 0 (mapAt ([] : List UInt8) (by omega))) (by kernel_rfl) (fun _ => by kernel_rfl) <| q_callR (.int .i64 (-1)) (by kernel_rfl) (fun _ => by kernel_rfl) (fun _ H => (FIx_v hf (hE.on hM H))) <| q_b [.m] <| q_nil ?_
  clear H
  intro v15 H
  refine x_then <| x_seq <| x_region <| x_b H [.m, .m] <| x_nil <| x_then <| x_f (by kernel_rfl) ?_
  refine x_skipc <| x_then <| x_seq <| x_region <| x_b H [.n 0 0 75 41] <| z_callB H (bare_of ⟨4, (atoiV (wAt (words l) 1)), (lineV (wAt (words l) 2)), uintV (wAt (words l) 3), 0, 0, 0, 0, 0, 0, 0, 0⟩ _) fun v16 H => z_store H 0 0 ((stepA ⟨4, 0, (fun _ => 0), 0, 0, 0, 0, 0, 0, 0, 0, 0⟩)).toList (fun v17 H => ?_)
  refine x_nil <| x_then <| x_seq <| x_seq <| x_region <| x_b H [.n 0 0 75 41] <| z_callB H (SShow_yes (x := (fillW 4 (words l))) (fillW_rng (by decide) _) (fillW_right (by decide) (by decide) _) _ (hE.on hM H)) fun v18 H => ?_
  refine x_b H [.m, .m, .m, .m, .m] <| x_nil <| x_then <| x_seq <| x_region <| x_b H [.m, .m, .m, .m, .m] <| x_eq (.bool (!(decide (txtS (fillW 4 (words l)) = l)))) (strNe (txtS (fillW 4 (words l))) l) (by kernel_rfl) rfl (by kernel_rfl) ?_
  refine x_b H [.v (.bool (!(decide (txtS (fillW 4 (words l)) = l))))] <| x_nil <| x_then ?_
  cases h1 : decide (txtS (fillW 4 (words l)) = l)
  · skip
    have h1p := of_decide_eq_false h1
    refine x_t (by kernel_rfl) <| x_seq <| x_region <| x_b H [.m] <| z_store H 2 0 ((stepA ⟨0, 0, (fun _ => 0), 0, 0, 0, 0, 0, 0, 0, 0, 0⟩)).toList (fun v19 H => ?_)
    refine x_b H [.m] <| x_nil <| x_then <| x_retc <| x_then_ret <| x_ret (.tuple #[.agg (stepA ⟨0, 0, (fun _ => 0), 0, 0, 0, 0, 0, 0, 0, 0, 0⟩), .int .i64 61]) (by kernel_rfl) (x_results [.cell 2 41, .tmp 3] [.agg (stepA ⟨0, 0, (fun _ => 0), 0, 0, 0, 0, 0, 0, 0, 0, 0⟩), .int .i64 61] _ rfl (AllR.cell (by kernel_rfl) (ldR H 2 g1 0 (stepA ⟨0, 0, (fun _ => 0), 0, 0, 0, 0, 0, 0, 0, 0, 0⟩) 41 (stepL ⟨0, 0, (fun _ => 0), 0, 0, 0, 0, 0, 0, 0, 0, 0⟩) (by kernel_rfl) (by kernel_rfl) (by kernel_rfl)) (AllR.tmp (by kernel_rfl) AllR.nil)) (by kernel_rfl)) ?_
    exact ⟨by rw [pres_no (of_decide_eq_false h1)]; rfl, H.below⟩
  have h1p := of_decide_eq_true h1
  refine x_f (by kernel_rfl) <| x_skipc <| x_then <| x_seq <| x_region <| x_b H [.n 0 0 75 41] <| z_store H 2 0 ((stepA ⟨4, 0, (fun _ => 0), 0, 0, 0, 0, 0, 0, 0, 0, 0⟩)).toList (fun v20 H => ?_)
  refine x_b H [.m] <| x_nil <| x_then <| x_retc <| x_ret (.tuple #[.agg (stepA ⟨4, 0, (fun _ => 0), 0, 0, 0, 0, 0, 0, 0, 0, 0⟩), .int .i64 0]) (by kernel_rfl) (x_results [.cell 2 41, .tmp 3] [.agg (stepA ⟨4, 0, (fun _ => 0), 0, 0, 0, 0, 0, 0, 0, 0, 0⟩), .int .i64 0] _ rfl (AllR.cell (by kernel_rfl) (ldR H 2 g1 0 (stepA ⟨4, 0, (fun _ => 0), 0, 0, 0, 0, 0, 0, 0, 0, 0⟩) 41 (stepL ⟨4, 0, (fun _ => 0), 0, 0, 0, 0, 0, 0, 0, 0, 0⟩) (by kernel_rfl) (by kernel_rfl) (by kernel_rfl)) (AllR.tmp (by kernel_rfl) AllR.nil)) (by kernel_rfl)) ?_
  exact ⟨by rw [pres_yes (of_decide_eq_true h1)]; rfl, H.below⟩
set_option maxRecDepth 100000 in
set_option maxHeartbeats 4000000 in
theorem Parse_w5 {l : List UInt8} (hl : l.length ≤ 100000) (hw : wIx ((words l).getD 0 []) = 5) (hf : fIx ((words l).getD 0 []) = 0) (w0 : World) (hE : EnvS w0) :
    Calls Tryd.prog 19 #[S l] w0 fun e w' => e = .returned (pres (fillW 5 (words l)) l) ∧ Below w0.heap.size w0 w' := by
  refine z_enter Tryd.func19 rfl ?_
  have H := Hs.nil w0
  have hM := nilM
  have hwp := words_pos l
  refine x_seq <| x_region <| z_box H (stepA ⟨0, 0, (fun _ => 0), 0, 0, 0, 0, 0, 0, 0, 0, 0⟩) 41 (fun v1 g1 H => ?_)
  refine x_b H [.m] <| x_nil <| x_then <| x_seq <| x_region <| x_b H [.m] <| z_call (Split_of l hl (hE.on hM H)) ?_
  rintro _ v2 ⟨gs, rfl, hN'⟩
  refine ⟨_, rfl, ?_⟩
  replace H := H.more hN'
  clear hN'
  refine x_b H [.m] <| x_nil <| x_then <| x_seq <| x_region <| z_box H (stepA ⟨0, 0, (fun _ => 0), 0, 0, 0, 0, 0, 0, 0, 0, 0⟩) 41 (fun v3 g2 H => ?_)
  refine x_nil <| x_then <| x_seq <| x_seq <| z_region_whole H <| q_b [.m, .m] <| q_ix (t := 60) gs 0 0 ((words l).length) ((words l).length) 9 1 0 (words_pos l) (by omega) (by kernel_rfl) (by kernel_rfl) (by kernel_rfl) (fun _ => by kernel_rfl) ?_
  refine q_loadc gs 0 (S ((words l).getD 0 ([] : List UInt8))) (fun _ H => H.rowCell 1 rfl 0 (mapAt ([] : List UInt8) (by omega))) (by kernel_rfl) (fun _ => by kernel_rfl) <| q_callR (.int .i64 4) (by kernel_rfl) (fun _ => by kernel_rfl) (fun _ H => (WIx_v hw (hE.on hM H))) <| q_b [.m] <| q_nil ?_
  clear H
  intro v4 H
  refine x_then <| x_seq <| x_region <| x_b H [.m, .m] <| x_nil <| x_then <| x_t (by kernel_rfl) ?_
  refine x_seq <| x_region <| x_b H [.m, .m, .m] <| z_store H 0 0 [.int .i64 5] (fun v5 H => ?_)
  refine x_nil <| x_then <| x_seq <| x_region <| x_b H [.m] <| z_callB H (at_of (g := gs) (i := 1) (ws := words l) _ (roAs (H.ro1 [1]) rfl)) fun v6 H => z_call (Atoi_of (wAt (words l) 1) (Nat.le_trans (wAt_len l 1) (by omega)) ((hE.on hM H)).toEnv) ?_
  rintro _ v7 ⟨ev, rfl, hB'⟩
  refine ⟨_, rfl, ?_⟩
  replace H := H.via hB'
  clear hB'
  refine x_b H [.m, .m, .m, .m] <| z_store H 0 1 [.int .i64 (atoiV (wAt (words l) 1))] (fun v8 H => ?_)
  refine x_nil <| x_then <| x_seq <| x_region <| x_b H [.m] <| z_callB H (at_of (g := gs) (i := 2) (ws := words l) _ (roAs (H.ro1 [1]) rfl)) fun v9 H => z_call (LRead_of (wAt (words l) 2) _) ?_
  rintro _ v10 ⟨ev, rfl, hB'⟩
  refine ⟨_, rfl, ?_⟩
  replace H := H.via hB'
  clear hB'
  refine x_b H [.m, .m, .m, .m] <| z_store H 0 2 ((arrL (lineV (wAt (words l) 2)) 64 0).toArray).toList (fun v11 H => ?_)
  refine x_nil <| x_then <| x_region <| x_b H [.m] <| z_callB H (at_of (g := gs) (i := 3) (ws := words l) _ (roAs (H.ro1 [1]) rfl)) fun v12 H => z_call (PUint_of (wAt (words l) 3) (Nat.le_trans (wAt_len l 3) (by omega)) (hE.on hM H)) ?_
  rintro _ v13 ⟨ev, rfl, hB'⟩
  refine ⟨_, rfl, ?_⟩
  replace H := H.via hB'
  clear hB'
  refine x_b H [.m, .m, .m, .m] <| z_store H 0 66 [.int .u64 ((uintV (wAt (words l) 3) : Nat) : Int)] (fun v14 H => ?_)
  refine x_nil <| z_fr 92 [(0, S l), (2, .pointer (some ⟨g1, 0, none⟩)), (4, .slice (some ⟨gs, 0, none⟩) ((words l).length) ((words l).length)), (5, .pointer (some ⟨g2, 0, none⟩))] [] fun uf1 => x_then <| x_seq <| x_seq <| z_region_whole H <| q_b [.m, .m] ?_
  refine q_ix (t := 60) gs 0 0 ((words l).length) ((words l).length) 9 1 0 (words_pos l) (by omega) (by kernel_rfl) (by kernel_rfl) (by kernel_rfl) (fun _ => by kernel_rfl) <| q_loadc gs 0 (S ((words l).getD 0 ([] : List UInt8))) (fun _ H => H.rowCell 1 rfl 0 (mapAt ([] : List UInt8) (by omega))) (by kernel_rfl) (fun _ => by kernel_rfl) <| q_callR (.int .i64 (-1)) (by kernel_rfl) (fun _ => by kernel_rfl) (fun _ H => (FIx_v hf (hE.on hM H))) <| q_b [.m] <| q_nil ?_
  clear H
  intro v15 H
  refine x_then <| x_seq <| x_region <| x_b H [.m, .m] <| x_nil <| x_then <| x_f (by kernel_rfl) ?_
  refine x_skipc <| x_then <| x_seq <| x_region <| x_b H [.n 0 0 75 41] <| z_callB H (bare_of ⟨5, (atoiV (wAt (words l) 1)), (lineV (wAt (words l) 2)), uintV (wAt (words l) 3), 0, 0, 0, 0, 0, 0, 0, 0⟩ _) fun v16 H => z_store H 0 0 ((stepA ⟨5, 0, (fun _ => 0), 0, 0, 0, 0, 0, 0, 0, 0, 0⟩)).toList (fun v17 H => ?_)
  refine x_nil <| x_then <| x_seq <| x_seq <| x_region <| x_b H [.n 0 0 75 41] <| z_callB H (SShow_yes (x := (fillW 5 (words l))) (fillW_rng (by decide) _) (fillW_right (by decide) (by decide) _) _ (hE.on hM H)) fun v18 H => ?_
  refine x_b H [.m, .m, .m, .m, .m] <| x_nil <| x_then <| x_seq <| x_region <| x_b H [.m, .m, .m, .m, .m] <| x_eq (.bool (!(decide (txtS (fillW 5 (words l)) = l)))) (strNe (txtS (fillW 5 (words l))) l) (by kernel_rfl) rfl (by kernel_rfl) ?_
  refine x_b H [.v (.bool (!(decide (txtS (fillW 5 (words l)) = l))))] <| x_nil <| x_then ?_
  cases h1 : decide (txtS (fillW 5 (words l)) = l)
  · skip
    have h1p := of_decide_eq_false h1
    refine x_t (by kernel_rfl) <| x_seq <| x_region <| x_b H [.m] <| z_store H 2 0 ((stepA ⟨0, 0, (fun _ => 0), 0, 0, 0, 0, 0, 0, 0, 0, 0⟩)).toList (fun v19 H => ?_)
    refine x_b H [.m] <| x_nil <| x_then <| x_retc <| x_then_ret <| x_ret (.tuple #[.agg (stepA ⟨0, 0, (fun _ => 0), 0, 0, 0, 0, 0, 0, 0, 0, 0⟩), .int .i64 61]) (by kernel_rfl) (x_results [.cell 2 41, .tmp 3] [.agg (stepA ⟨0, 0, (fun _ => 0), 0, 0, 0, 0, 0, 0, 0, 0, 0⟩), .int .i64 61] _ rfl (AllR.cell (by kernel_rfl) (ldR H 2 g1 0 (stepA ⟨0, 0, (fun _ => 0), 0, 0, 0, 0, 0, 0, 0, 0, 0⟩) 41 (stepL ⟨0, 0, (fun _ => 0), 0, 0, 0, 0, 0, 0, 0, 0, 0⟩) (by kernel_rfl) (by kernel_rfl) (by kernel_rfl)) (AllR.tmp (by kernel_rfl) AllR.nil)) (by kernel_rfl)) ?_
    exact ⟨by rw [pres_no (of_decide_eq_false h1)]; rfl, H.below⟩
  have h1p := of_decide_eq_true h1
  refine x_f (by kernel_rfl) <| x_skipc <| x_then <| x_seq <| x_region <| x_b H [.n 0 0 75 41] <| z_store H 2 0 ((stepA ⟨5, 0, (fun _ => 0), 0, 0, 0, 0, 0, 0, 0, 0, 0⟩)).toList (fun v20 H => ?_)
  refine x_b H [.m] <| x_nil <| x_then <| x_retc <| x_ret (.tuple #[.agg (stepA ⟨5, 0, (fun _ => 0), 0, 0, 0, 0, 0, 0, 0, 0, 0⟩), .int .i64 0]) (by kernel_rfl) (x_results [.cell 2 41, .tmp 3] [.agg (stepA ⟨5, 0, (fun _ => 0), 0, 0, 0, 0, 0, 0, 0, 0, 0⟩), .int .i64 0] _ rfl (AllR.cell (by kernel_rfl) (ldR H 2 g1 0 (stepA ⟨5, 0, (fun _ => 0), 0, 0, 0, 0, 0, 0, 0, 0, 0⟩) 41 (stepL ⟨5, 0, (fun _ => 0), 0, 0, 0, 0, 0, 0, 0, 0, 0⟩) (by kernel_rfl) (by kernel_rfl) (by kernel_rfl)) (AllR.tmp (by kernel_rfl) AllR.nil)) (by kernel_rfl)) ?_
  exact ⟨by rw [pres_yes (of_decide_eq_true h1)]; rfl, H.below⟩
set_option maxRecDepth 100000 in
set_option maxHeartbeats 4000000 in
theorem Parse_w6 {l : List UInt8} (hl : l.length ≤ 100000) (hw : wIx ((words l).getD 0 []) = 6) (hf : fIx ((words l).getD 0 []) = 0) (w0 : World) (hE : EnvS w0) :
    Calls Tryd.prog 19 #[S l] w0 fun e w' => e = .returned (pres (fillW 6 (words l)) l) ∧ Below w0.heap.size w0 w' := by
  refine z_enter Tryd.func19 rfl ?_
  have H := Hs.nil w0
  have hM := nilM
  have hwp := words_pos l
  refine x_seq <| x_region <| z_box H (stepA ⟨0, 0, (fun _ => 0), 0, 0, 0, 0, 0, 0, 0, 0, 0⟩) 41 (fun v1 g1 H => ?_)
  refine x_b H [.m] <| x_nil <| x_then <| x_seq <| x_region <| x_b H [.m] <| z_call (Split_of l hl (hE.on hM H)) ?_
  rintro _ v2 ⟨gs, rfl, hN'⟩
  refine ⟨_, rfl, ?_⟩
  replace H := H.more hN'
  clear hN'
  refine x_b H [.m] <| x_nil <| x_then <| x_seq <| x_region <| z_box H (stepA ⟨0, 0, (fun _ => 0), 0, 0, 0, 0, 0, 0, 0, 0, 0⟩) 41 (fun v3 g2 H => ?_)
  refine x_nil <| x_then <| x_seq <| x_seq <| z_region_whole H <| q_b [.m, .m] <| q_ix (t := 60) gs 0 0 ((words l).length) ((words l).length) 9 1 0 (words_pos l) (by omega) (by kernel_rfl) (by kernel_rfl) (by kernel_rfl) (fun _ => by kernel_rfl) ?_
  refine q_loadc gs 0 (S ((words l).getD 0 ([] : List UInt8))) (fun _ H => H.rowCell 1 rfl 0 (mapAt ([] : List UInt8) (by omega))) (by kernel_rfl) (fun _ => by kernel_rfl) <| q_callR (.int .i64 5) (by kernel_rfl) (fun _ => by kernel_rfl) (fun _ H => (WIx_v hw (hE.on hM H))) <| q_b [.m] <| q_nil ?_
  clear H
  intro v4 H
  refine x_then <| x_seq <| x_region <| x_b H [.m, .m] <| x_nil <| x_then <| x_t (by kernel_rfl) ?_
  refine x_seq <| x_region <| x_b H [.m, .m, .m] <| z_store H 0 0 [.int .i64 6] (fun v5 H => ?_)
  refine x_nil <| x_then <| x_seq <| x_region <| x_b H [.m] <| z_callB H (at_of (g := gs) (i := 1) (ws := words l) _ (roAs (H.ro1 [1]) rfl)) fun v6 H => z_call (Atoi_of (wAt (words l) 1) (Nat.le_trans (wAt_len l 1) (by omega)) ((hE.on hM H)).toEnv) ?_
  rintro _ v7 ⟨ev, rfl, hB'⟩
  refine ⟨_, rfl, ?_⟩
  replace H := H.via hB'
  clear hB'
  refine x_b H [.m, .m, .m, .m] <| z_store H 0 1 [.int .i64 (atoiV (wAt (words l) 1))] (fun v8 H => ?_)
  refine x_nil <| x_then <| x_seq <| x_region <| x_b H [.m] <| z_callB H (at_of (g := gs) (i := 2) (ws := words l) _ (roAs (H.ro1 [1]) rfl)) fun v9 H => z_call (LRead_of (wAt (words l) 2) _) ?_
  rintro _ v10 ⟨ev, rfl, hB'⟩
  refine ⟨_, rfl, ?_⟩
  replace H := H.via hB'
  clear hB'
  refine x_b H [.m, .m, .m, .m] <| z_store H 0 2 ((arrL (lineV (wAt (words l) 2)) 64 0).toArray).toList (fun v11 H => ?_)
  refine x_nil <| x_then <| x_region <| x_b H [.m] <| z_callB H (at_of (g := gs) (i := 3) (ws := words l) _ (roAs (H.ro1 [1]) rfl)) fun v12 H => z_call (PUint_of (wAt (words l) 3) (Nat.le_trans (wAt_len l 3) (by omega)) (hE.on hM H)) ?_
  rintro _ v13 ⟨ev, rfl, hB'⟩
  refine ⟨_, rfl, ?_⟩
  replace H := H.via hB'
  clear hB'
  refine x_b H [.m, .m, .m, .m] <| z_store H 0 66 [.int .u64 ((uintV (wAt (words l) 3) : Nat) : Int)] (fun v14 H => ?_)
  refine x_nil <| z_fr 92 [(0, S l), (2, .pointer (some ⟨g1, 0, none⟩)), (4, .slice (some ⟨gs, 0, none⟩) ((words l).length) ((words l).length)), (5, .pointer (some ⟨g2, 0, none⟩))] [] fun uf1 => x_then <| x_seq <| x_seq <| z_region_whole H <| q_b [.m, .m] ?_
  refine q_ix (t := 60) gs 0 0 ((words l).length) ((words l).length) 9 1 0 (words_pos l) (by omega) (by kernel_rfl) (by kernel_rfl) (by kernel_rfl) (fun _ => by kernel_rfl) <| q_loadc gs 0 (S ((words l).getD 0 ([] : List UInt8))) (fun _ H => H.rowCell 1 rfl 0 (mapAt ([] : List UInt8) (by omega))) (by kernel_rfl) (fun _ => by kernel_rfl) <| q_callR (.int .i64 (-1)) (by kernel_rfl) (fun _ => by kernel_rfl) (fun _ H => (FIx_v hf (hE.on hM H))) <| q_b [.m] <| q_nil ?_
  clear H
  intro v15 H
  refine x_then <| x_seq <| x_region <| x_b H [.m, .m] <| x_nil <| x_then <| x_f (by kernel_rfl) ?_
  refine x_skipc <| x_then <| x_seq <| x_region <| x_b H [.n 0 0 75 41] <| z_callB H (bare_of ⟨6, (atoiV (wAt (words l) 1)), (lineV (wAt (words l) 2)), uintV (wAt (words l) 3), 0, 0, 0, 0, 0, 0, 0, 0⟩ _) fun v16 H => z_store H 0 0 ((stepA ⟨6, 0, (fun _ => 0), 0, 0, 0, 0, 0, 0, 0, 0, 0⟩)).toList (fun v17 H => ?_)
  refine x_nil <| x_then <| x_seq <| x_seq <| x_region <| x_b H [.n 0 0 75 41] <| z_callB H (SShow_yes (x := (fillW 6 (words l))) (fillW_rng (by decide) _) (fillW_right (by decide) (by decide) _) _ (hE.on hM H)) fun v18 H => ?_
  refine x_b H [.m, .m, .m, .m, .m] <| x_nil <| x_then <| x_seq <| x_region <| x_b H [.m, .m, .m, .m, .m] <| x_eq (.bool (!(decide (txtS (fillW 6 (words l)) = l)))) (strNe (txtS (fillW 6 (words l))) l) (by kernel_rfl) rfl (by kernel_rfl) ?_
  refine x_b H [.v (.bool (!(decide (txtS (fillW 6 (words l)) = l))))] <| x_nil <| x_then ?_
  cases h1 : decide (txtS (fillW 6 (words l)) = l)
  · skip
    have h1p := of_decide_eq_false h1
    refine x_t (by kernel_rfl) <| x_seq <| x_region <| x_b H [.m] <| z_store H 2 0 ((stepA ⟨0, 0, (fun _ => 0), 0, 0, 0, 0, 0, 0, 0, 0, 0⟩)).toList (fun v19 H => ?_)
    refine x_b H [.m] <| x_nil <| x_then <| x_retc <| x_then_ret <| x_ret (.tuple #[.agg (stepA ⟨0, 0, (fun _ => 0), 0, 0, 0, 0, 0, 0, 0, 0, 0⟩), .int .i64 61]) (by kernel_rfl) (x_results [.cell 2 41, .tmp 3] [.agg (stepA ⟨0, 0, (fun _ => 0), 0, 0, 0, 0, 0, 0, 0, 0, 0⟩), .int .i64 61] _ rfl (AllR.cell (by kernel_rfl) (ldR H 2 g1 0 (stepA ⟨0, 0, (fun _ => 0), 0, 0, 0, 0, 0, 0, 0, 0, 0⟩) 41 (stepL ⟨0, 0, (fun _ => 0), 0, 0, 0, 0, 0, 0, 0, 0, 0⟩) (by kernel_rfl) (by kernel_rfl) (by kernel_rfl)) (AllR.tmp (by kernel_rfl) AllR.nil)) (by kernel_rfl)) ?_
    exact ⟨by rw [pres_no (of_decide_eq_false h1)]; rfl, H.below⟩
  have h1p := of_decide_eq_true h1
  refine x_f (by kernel_rfl) <| x_skipc <| x_then <| x_seq <| x_region <| x_b H [.n 0 0 75 41] <| z_store H 2 0 ((stepA ⟨6, 0, (fun _ => 0), 0, 0, 0, 0, 0, 0, 0, 0, 0⟩)).toList (fun v20 H => ?_)
  refine x_b H [.m] <| x_nil <| x_then <| x_retc <| x_ret (.tuple #[.agg (stepA ⟨6, 0, (fun _ => 0), 0, 0, 0, 0, 0, 0, 0, 0, 0⟩), .int .i64 0]) (by kernel_rfl) (x_results [.cell 2 41, .tmp 3] [.agg (stepA ⟨6, 0, (fun _ => 0), 0, 0, 0, 0, 0, 0, 0, 0, 0⟩), .int .i64 0] _ rfl (AllR.cell (by kernel_rfl) (ldR H 2 g1 0 (stepA ⟨6, 0, (fun _ => 0), 0, 0, 0, 0, 0, 0, 0, 0, 0⟩) 41 (stepL ⟨6, 0, (fun _ => 0), 0, 0, 0, 0, 0, 0, 0, 0, 0⟩) (by kernel_rfl) (by kernel_rfl) (by kernel_rfl)) (AllR.tmp (by kernel_rfl) AllR.nil)) (by kernel_rfl)) ?_
  exact ⟨by rw [pres_yes (of_decide_eq_true h1)]; rfl, H.below⟩
set_option maxRecDepth 100000 in
set_option maxHeartbeats 4000000 in
theorem Parse_w7 {l : List UInt8} (hl : l.length ≤ 100000) (hw : wIx ((words l).getD 0 []) = 7) (hf : fIx ((words l).getD 0 []) = 0) (w0 : World) (hE : EnvS w0) :
    Calls Tryd.prog 19 #[S l] w0 fun e w' => e = .returned (pres (fillW 7 (words l)) l) ∧ Below w0.heap.size w0 w' := by
  refine z_enter Tryd.func19 rfl ?_
  have H := Hs.nil w0
  have hM := nilM
  have hwp := words_pos l
  refine x_seq <| x_region <| z_box H (stepA ⟨0, 0, (fun _ => 0), 0, 0, 0, 0, 0, 0, 0, 0, 0⟩) 41 (fun v1 g1 H => ?_)
  refine x_b H [.m] <| x_nil <| x_then <| x_seq <| x_region <| x_b H [.m] <| z_call (Split_of l hl (hE.on hM H)) ?_
  rintro _ v2 ⟨gs, rfl, hN'⟩
  refine ⟨_, rfl, ?_⟩
  replace H := H.more hN'
  clear hN'
  refine x_b H [.m] <| x_nil <| x_then <| x_seq <| x_region <| z_box H (stepA ⟨0, 0, (fun _ => 0), 0, 0, 0, 0, 0, 0, 0, 0, 0⟩) 41 (fun v3 g2 H => ?_)
  refine x_nil <| x_then <| x_seq <| x_seq <| z_region_whole H <| q_b [.m, .m] <| q_ix (t := 60) gs 0 0 ((words l).length) ((words l).length) 9 1 0 (words_pos l) (by omega) (by kernel_rfl) (by kernel_rfl) (by kernel_rfl) (fun _ => by kernel_rfl) ?_
  refine q_loadc gs 0 (S ((words l).getD 0 ([] : List UInt8))) (fun _ H => H.rowCell 1 rfl 0 (mapAt ([] : List UInt8) (by omega))) (by kernel_rfl) (fun _ => by kernel_rfl) <| q_callR (.int .i64 6) (by kernel_rfl) (fun _ => by kernel_rfl) (fun _ H => (WIx_v hw (hE.on hM H))) <| q_b [.m] <| q_nil ?_
  clear H
  intro v4 H
  refine x_then <| x_seq <| x_region <| x_b H [.m, .m] <| x_nil <| x_then <| x_t (by kernel_rfl) ?_
  refine x_seq <| x_region <| x_b H [.m, .m, .m] <| z_store H 0 0 [.int .i64 7] (fun v5 H => ?_)
  refine x_nil <| x_then <| x_seq <| x_region <| x_b H [.m] <| z_callB H (at_of (g := gs) (i := 1) (ws := words l) _ (roAs (H.ro1 [1]) rfl)) fun v6 H => z_call (Atoi_of (wAt (words l) 1) (Nat.le_trans (wAt_len l 1) (by omega)) ((hE.on hM H)).toEnv) ?_
  rintro _ v7 ⟨ev, rfl, hB'⟩
  refine ⟨_, rfl, ?_⟩
  replace H := H.via hB'
  clear hB'
  refine x_b H [.m, .m, .m, .m] <| z_store H 0 1 [.int .i64 (atoiV (wAt (words l) 1))] (fun v8 H => ?_)
  refine x_nil <| x_then <| x_seq <| x_region <| x_b H [.m] <| z_callB H (at_of (g := gs) (i := 2) (ws := words l) _ (roAs (H.ro1 [1]) rfl)) fun v9 H => z_call (LRead_of (wAt (words l) 2) _) ?_
  rintro _ v10 ⟨ev, rfl, hB'⟩
  refine ⟨_, rfl, ?_⟩
  replace H := H.via hB'
  clear hB'
  refine x_b H [.m, .m, .m, .m] <| z_store H 0 2 ((arrL (lineV (wAt (words l) 2)) 64 0).toArray).toList (fun v11 H => ?_)
  refine x_nil <| x_then <| x_region <| x_b H [.m] <| z_callB H (at_of (g := gs) (i := 3) (ws := words l) _ (roAs (H.ro1 [1]) rfl)) fun v12 H => z_call (PUint_of (wAt (words l) 3) (Nat.le_trans (wAt_len l 3) (by omega)) (hE.on hM H)) ?_
  rintro _ v13 ⟨ev, rfl, hB'⟩
  refine ⟨_, rfl, ?_⟩
  replace H := H.via hB'
  clear hB'
  refine x_b H [.m, .m, .m, .m] <| z_store H 0 66 [.int .u64 ((uintV (wAt (words l) 3) : Nat) : Int)] (fun v14 H => ?_)
  refine x_nil <| z_fr 92 [(0, S l), (2, .pointer (some ⟨g1, 0, none⟩)), (4, .slice (some ⟨gs, 0, none⟩) ((words l).length) ((words l).length)), (5, .pointer (some ⟨g2, 0, none⟩))] [] fun uf1 => x_then <| x_seq <| x_seq <| z_region_whole H <| q_b [.m, .m] ?_
  refine q_ix (t := 60) gs 0 0 ((words l).length) ((words l).length) 9 1 0 (words_pos l) (by omega) (by kernel_rfl) (by kernel_rfl) (by kernel_rfl) (fun _ => by kernel_rfl) <| q_loadc gs 0 (S ((words l).getD 0 ([] : List UInt8))) (fun _ H => H.rowCell 1 rfl 0 (mapAt ([] : List UInt8) (by omega))) (by kernel_rfl) (fun _ => by kernel_rfl) <| q_callR (.int .i64 (-1)) (by kernel_rfl) (fun _ => by kernel_rfl) (fun _ H => (FIx_v hf (hE.on hM H))) <| q_b [.m] <| q_nil ?_
  clear H
  intro v15 H
  refine x_then <| x_seq <| x_region <| x_b H [.m, .m] <| x_nil <| x_then <| x_f (by kernel_rfl) ?_
  refine x_skipc <| x_then <| x_seq <| x_region <| x_b H [.n 0 0 75 41] <| z_callB H (bare_of ⟨7, (atoiV (wAt (words l) 1)), (lineV (wAt (words l) 2)), uintV (wAt (words l) 3), 0, 0, 0, 0, 0, 0, 0, 0⟩ _) fun v16 H => z_store H 0 0 ((stepA ⟨7, 0, (fun _ => 0), 0, 0, 0, 0, 0, 0, 0, 0, 0⟩)).toList (fun v17 H => ?_)
  refine x_nil <| x_then <| x_seq <| x_seq <| x_region <| x_b H [.n 0 0 75 41] <| z_callB H (SShow_yes (x := (fillW 7 (words l))) (fillW_rng (by decide) _) (fillW_right (by decide) (by decide) _) _ (hE.on hM H)) fun v18 H => ?_
  refine x_b H [.m, .m, .m, .m, .m] <| x_nil <| x_then <| x_seq <| x_region <| x_b H [.m, .m, .m, .m, .m] <| x_eq (.bool (!(decide (txtS (fillW 7 (words l)) = l)))) (strNe (txtS (fillW 7 (words l))) l) (by kernel_rfl) rfl (by kernel_rfl) ?_
  refine x_b H [.v (.bool (!(decide (txtS (fillW 7 (words l)) = l))))] <| x_nil <| x_then ?_
  cases h1 : decide (txtS (fillW 7 (words l)) = l)
  · skip
    have h1p := of_decide_eq_false h1
    refine x_t (by kernel_rfl) <| x_seq <| x_region <| x_b H [.m] <| z_store H 2 0 ((stepA ⟨0, 0, (fun _ => 0), 0, 0, 0, 0, 0, 0, 0, 0, 0⟩)).toList (fun v19 H => ?_)
    refine x_b H [.m] <| x_nil <| x_then <| x_retc <| x_then_ret <| x_ret (.tuple #[.agg (stepA ⟨0, 0, (fun _ => 0), 0, 0, 0, 0, 0, 0, 0, 0, 0⟩), .int .i64 61]) (by kernel_rfl) (x_results [.cell 2 41, .tmp 3] [.agg (stepA ⟨0, 0, (fun _ => 0), 0, 0, 0, 0, 0, 0, 0, 0, 0⟩), .int .i64 61] _ rfl (AllR.cell (by kernel_rfl) (ldR H 2 g1 0 (stepA ⟨0, 0, (fun _ => 0), 0, 0, 0, 0, 0, 0, 0, 0, 0⟩) 41 (stepL ⟨0, 0, (fun _ => 0), 0, 0, 0, 0, 0, 0, 0, 0, 0⟩) (by kernel_rfl) (by kernel_rfl) (by kernel_rfl)) (AllR.tmp (by kernel_rfl) AllR.nil)) (by kernel_rfl)) ?_
    exact ⟨by rw [pres_no (of_decide_eq_false h1)]; rfl, H.below⟩
  have h1p := of_decide_eq_true h1
  refine x_f (by kernel_rfl) <| x_skipc <| x_then <| x_seq <| x_region <| x_b H [.n 0 0 75 41] <| z_store H 2 0 ((stepA ⟨7, 0, (fun _ => 0), 0, 0, 0, 0, 0, 0, 0, 0, 0⟩)).toList (fun v20 H => ?_)
  refine x_b H [.m] <| x_nil <| x_then <| x_retc <| x_ret (.tuple #[.agg (stepA ⟨7, 0, (fun _ => 0), 0, 0, 0, 0, 0, 0, 0, 0, 0⟩), .int .i64 0]) (by kernel_rfl) (x_results [.cell 2 41, .tmp 3] [.agg (stepA ⟨7, 0, (fun _ => 0), 0, 0, 0, 0, 0, 0, 0, 0, 0⟩), .int .i64 0] _ rfl (AllR.cell (by kernel_rfl) (ldR H 2 g1 0 (stepA ⟨7, 0, (fun _ => 0), 0, 0, 0, 0, 0, 0, 0, 0, 0⟩) 41 (stepL ⟨7, 0, (fun _ => 0), 0, 0, 0, 0, 0, 0, 0, 0, 0⟩) (by kernel_rfl) (by kernel_rfl) (by kernel_rfl)) (AllR.tmp (by kernel_rfl) AllR.nil)) (by kernel_rfl)) ?_
  exact ⟨by rw [pres_yes (of_decide_eq_true h1)]; rfl, H.below⟩
set_option maxRecDepth 100000 in
set_option maxHeartbeats 4000000 in
theorem Parse_f1 {l : List UInt8} (hl : l.length ≤ 100000) (hw : wIx ((words l).getD 0 []) = 0) (hf : fIx ((words l).getD 0 []) = 1) (w0 : World) (hE : EnvS w0) :
    Calls Tryd.prog 19 #[S l] w0 fun e w' => e = .returned (pres (fillF 1 (words l)) l) ∧ Below w0.heap.size w0 w' := by
  refine z_enter Tryd.func19 rfl ?_
  have H := Hs.nil w0
  have hM := nilM
  have hwp := words_pos l
  refine x_seq <| x_region <| z_box H (stepA ⟨0, 0, (fun _ => 0), 0, 0, 0, 0, 0, 0, 0, 0, 0⟩) 41 (fun v1 g1 H => ?_)
  refine x_b H [.m] <| x_nil <| x_then <| x_seq <| x_region <| x_b H [.m] <| z_call (Split_of l hl (hE.on hM H)) ?_
  rintro _ v2 ⟨gs, rfl, hN'⟩
  refine ⟨_, rfl, ?_⟩
  replace H := H.more hN'
  clear hN'
  refine x_b H [.m] <| x_nil <| x_then <| x_seq <| x_region <| z_box H (stepA ⟨0, 0, (fun _ => 0), 0, 0, 0, 0, 0, 0, 0, 0, 0⟩) 41 (fun v3 g2 H => ?_)
  refine x_nil <| x_then <| x_seq <| x_seq <| z_region_whole H <| q_b [.m, .m] <| q_ix (t := 60) gs 0 0 ((words l).length) ((words l).length) 9 1 0 (words_pos l) (by omega) (by kernel_rfl) (by kernel_rfl) (by kernel_rfl) (fun _ => by kernel_rfl) ?_
  refine q_loadc gs 0 (S ((words l).getD 0 ([] : List UInt8))) (fun _ H => H.rowCell 1 rfl 0 (mapAt ([] : List UInt8) (by omega))) (by kernel_rfl) (fun _ => by kernel_rfl) <| q_callR (.int .i64 (-1)) (by kernel_rfl) (fun _ => by kernel_rfl) (fun _ H => (WIx_v hw (hE.on hM H))) <| q_b [.m] <| q_nil ?_
  clear H
  intro v4 H
  refine x_then <| x_seq <| x_region <| x_b H [.m, .m] <| x_nil <| x_then <| x_f (by kernel_rfl) ?_
  refine x_skipc <| x_then <| x_seq <| x_seq <| z_region_whole H <| q_b [.m, .m] <| q_ix (t := 60) gs 0 0 ((words l).length) ((words l).length) 9 1 0 (words_pos l) (by omega) (by kernel_rfl) (by kernel_rfl) (by kernel_rfl) (fun _ => by kernel_rfl) ?_
  refine q_loadc gs 0 (S ((words l).getD 0 ([] : List UInt8))) (fun _ H => H.rowCell 1 rfl 0 (mapAt ([] : List UInt8) (by omega))) (by kernel_rfl) (fun _ => by kernel_rfl) <| q_callR (.int .i64 0) (by kernel_rfl) (fun _ => by kernel_rfl) (fun _ H => (FIx_v hf (hE.on hM H))) <| q_b [.m] <| q_nil ?_
  clear H
  intro v5 H
  refine x_then <| x_seq <| x_region <| x_b H [.m, .m] <| x_nil <| x_then <| x_t (by kernel_rfl) ?_
  refine x_seq <| x_region <| x_b H [.m] <| z_store H 0 0 [.int .i64 8] (fun v6 H => ?_)
  refine x_nil <| x_then <| x_seq <| x_region <| x_b H [.m, .m, .m, .m] <| z_store H 0 67 [.int .i64 1] (fun v7 H => ?_)
  refine x_nil <| x_then <| x_seq <| x_region <| x_b H [.m] <| z_call (numbers_1 (g := g2) (sk := 8) (sl := 0) (sd := (fun _ => 0)) (sm := 0) (rk := 0) (bk := 0) (ro := 0) (co := 0) (ch := 0) (bi := 0) (va := 0) _ (roAs (H.ro1 [0]) (by kernel_rfl))) ?_
  rintro _ v8 ⟨nq1, rfl, hN'⟩
  refine ⟨_, rfl, ?_⟩
  replace H := H.more hN'
  clear hN'
  refine x_b H [.m, .m] <| x_nil <| x_then <| x_block <| x_loop (G := Nat) (fun (c : Nat) a w' => ∃ uf1 : Nat → Value, a = frm 92 uf1 [(0, S l), (2, .pointer (some ⟨g1, 0, none⟩)), (4, .slice (some ⟨gs, 0, none⟩) ((words l).length) ((words l).length)), (5, .pointer (some ⟨g2, 0, none⟩)), (58, .slice (some ⟨nq1, 0, none⟩) 5 5), (59, .int .i64 5), (60, .int .i64 (c : Int))] [] ∧ Hs [] w0 w' [.blk nq1 #[.pointer (some ⟨g2, 68, none⟩), .pointer (some ⟨g2, 69, none⟩), .pointer (some ⟨g2, 70, none⟩), .pointer (some ⟨g2, 71, none⟩), .pointer (some ⟨g2, 73, none⟩)] 61, .blk g2 (stepA (([⟨8, 0, (fun _ => 0), 0, 1, 0, 0, 0, 0, 0, 0, 0⟩, ⟨8, 0, (fun _ => 0), 0, 1, (nV (words l) 0), 0, 0, 0, 0, 0, 0⟩, ⟨8, 0, (fun _ => 0), 0, 1, (nV (words l) 0), (nV (words l) 1), 0, 0, 0, 0, 0⟩, ⟨8, 0, (fun _ => 0), 0, 1, (nV (words l) 0), (nV (words l) 1), (nV (words l) 2), 0, 0, 0, 0⟩, ⟨8, 0, (fun _ => 0), 0, 1, (nV (words l) 0), (nV (words l) 1), (nV (words l) 2), (nV (words l) 3), 0, 0, 0⟩, ⟨8, 0, (fun _ => 0), 0, 1, (nV (words l) 0), (nV (words l) 1), (nV (words l) 2), (nV (words l) 3), 0, (nV (words l) 4), 0⟩] : List Stp).getD c zeroS)) 41, .row (.slice (some ⟨gs, 0, none⟩) ((words l).length) ((words l).length)) 9 1 ((words l).length) (List.map S (words l)), .blk g1 (stepA ⟨0, 0, (fun _ => 0), 0, 0, 0, 0, 0, 0, 0, 0, 0⟩) 41] ∧ (c ≤ 5)) (fun (c : Nat) => 5 - c) 0 ⟨_, frm_of, H, (Nat.zero_le _)⟩ ?_
  clear H
  rintro c _ v9 ⟨uf1, rfl, H, r1⟩
  rcases (show c = 0 ∨ c = 1 ∨ c = 2 ∨ c = 3 ∨ c = 4 ∨ c = 5 by omega) with rfl | rfl | rfl | rfl | rfl | rfl
  · skip
    replace H : Hs [] w0 _ [.blk nq1 #[.pointer (some ⟨g2, 68, none⟩), .pointer (some ⟨g2, 69, none⟩), .pointer (some ⟨g2, 70, none⟩), .pointer (some ⟨g2, 71, none⟩), .pointer (some ⟨g2, 73, none⟩)] 61, .blk g2 (stepA ⟨8, 0, (fun _ => 0), 0, 1, 0, 0, 0, 0, 0, 0, 0⟩) 41, .row (.slice (some ⟨gs, 0, none⟩) ((words l).length) ((words l).length)) 9 1 ((words l).length) (List.map S (words l)), .blk g1 (stepA ⟨0, 0, (fun _ => 0), 0, 0, 0, 0, 0, 0, 0, 0, 0⟩) 41] := hsAs H (by kernel_rfl)
    refine x_seq <| x_region <| x_b H [.m] <| x_nil <| x_then <| x_seq <| x_t (by kernel_rfl) ?_
    refine x_skipc <| x_then <| x_seq <| x_block <| x_seq <| x_region <| x_b H [.m, .m, .l 0 0, .m, .m] ?_
    refine x_nil <| x_then <| x_region <| x_b H [.m, .m, .m, .m] <| z_callB H (at_of (g := gs) (i := 1) (ws := words l) _ (roAs (H.ro1 [2]) rfl)) fun v10 H => z_call (Atoi_of (wAt (words l) 1) (Nat.le_trans (wAt_len l 1) (by omega)) ((hE.on hM H)).toEnv) ?_
    rintro _ v11 ⟨ev, rfl, hB'⟩
    refine ⟨_, rfl, ?_⟩
    replace H := H.via hB'
    clear hB'
    refine x_b H [.m, .m, .m, .m] <| z_store H 1 68 [.int .i64 (nV (words l) 0)] (fun v12 H => ?_)
    refine x_nil <| x_blk <| x_then <| x_region <| x_b H [.m, .m] <| x_nil <| x_then ?_
    replace H := H.pk [0, 1, 2, 3]
    replace H : Hs [] w0 _ [.blk nq1 #[.pointer (some ⟨g2, 68, none⟩), .pointer (some ⟨g2, 69, none⟩), .pointer (some ⟨g2, 70, none⟩), .pointer (some ⟨g2, 71, none⟩), .pointer (some ⟨g2, 73, none⟩)] 61, .blk g2 (stepA (([⟨8, 0, (fun _ => 0), 0, 1, 0, 0, 0, 0, 0, 0, 0⟩, ⟨8, 0, (fun _ => 0), 0, 1, (nV (words l) 0), 0, 0, 0, 0, 0, 0⟩, ⟨8, 0, (fun _ => 0), 0, 1, (nV (words l) 0), (nV (words l) 1), 0, 0, 0, 0, 0⟩, ⟨8, 0, (fun _ => 0), 0, 1, (nV (words l) 0), (nV (words l) 1), (nV (words l) 2), 0, 0, 0, 0⟩, ⟨8, 0, (fun _ => 0), 0, 1, (nV (words l) 0), (nV (words l) 1), (nV (words l) 2), (nV (words l) 3), 0, 0, 0⟩, ⟨8, 0, (fun _ => 0), 0, 1, (nV (words l) 0), (nV (words l) 1), (nV (words l) 2), (nV (words l) 3), 0, (nV (words l) 4), 0⟩] : List Stp).getD 1 zeroS)) 41, .row (.slice (some ⟨gs, 0, none⟩) ((words l).length) ((words l).length)) 9 1 ((words l).length) (List.map S (words l)), .blk g1 (stepA ⟨0, 0, (fun _ => 0), 0, 0, 0, 0, 0, 0, 0, 0, 0⟩) 41] := hsAs H (by kernel_rfl)
    exact ⟨1, (by omega), _, frm_of, H, (by omega)⟩
  · skip
    replace H : Hs [] w0 _ [.blk nq1 #[.pointer (some ⟨g2, 68, none⟩), .pointer (some ⟨g2, 69, none⟩), .pointer (some ⟨g2, 70, none⟩), .pointer (some ⟨g2, 71, none⟩), .pointer (some ⟨g2, 73, none⟩)] 61, .blk g2 (stepA ⟨8, 0, (fun _ => 0), 0, 1, (nV (words l) 0), 0, 0, 0, 0, 0, 0⟩) 41, .row (.slice (some ⟨gs, 0, none⟩) ((words l).length) ((words l).length)) 9 1 ((words l).length) (List.map S (words l)), .blk g1 (stepA ⟨0, 0, (fun _ => 0), 0, 0, 0, 0, 0, 0, 0, 0, 0⟩) 41] := hsAs H (by kernel_rfl)
    refine x_seq <| x_region <| x_b H [.m] <| x_nil <| x_then <| x_seq <| x_t (by kernel_rfl) ?_
    refine x_skipc <| x_then <| x_seq <| x_block <| x_seq <| x_region <| x_b H [.m, .m, .l 0 1, .m, .m] ?_
    refine x_nil <| x_then <| x_region <| x_b H [.m, .m, .m, .m] <| z_callB H (at_of (g := gs) (i := 2) (ws := words l) _ (roAs (H.ro1 [2]) rfl)) fun v13 H => z_call (Atoi_of (wAt (words l) 2) (Nat.le_trans (wAt_len l 2) (by omega)) ((hE.on hM H)).toEnv) ?_
    rintro _ v14 ⟨ev, rfl, hB'⟩
    refine ⟨_, rfl, ?_⟩
    replace H := H.via hB'
    clear hB'
    refine x_b H [.m, .m, .m, .m] <| z_store H 1 69 [.int .i64 (nV (words l) 1)] (fun v15 H => ?_)
    refine x_nil <| x_blk <| x_then <| x_region <| x_b H [.m, .m] <| x_nil <| x_then ?_
    replace H := H.pk [0, 1, 2, 3]
    replace H : Hs [] w0 _ [.blk nq1 #[.pointer (some ⟨g2, 68, none⟩), .pointer (some ⟨g2, 69, none⟩), .pointer (some ⟨g2, 70, none⟩), .pointer (some ⟨g2, 71, none⟩), .pointer (some ⟨g2, 73, none⟩)] 61, .blk g2 (stepA (([⟨8, 0, (fun _ => 0), 0, 1, 0, 0, 0, 0, 0, 0, 0⟩, ⟨8, 0, (fun _ => 0), 0, 1, (nV (words l) 0), 0, 0, 0, 0, 0, 0⟩, ⟨8, 0, (fun _ => 0), 0, 1, (nV (words l) 0), (nV (words l) 1), 0, 0, 0, 0, 0⟩, ⟨8, 0, (fun _ => 0), 0, 1, (nV (words l) 0), (nV (words l) 1), (nV (words l) 2), 0, 0, 0, 0⟩, ⟨8, 0, (fun _ => 0), 0, 1, (nV (words l) 0), (nV (words l) 1), (nV (words l) 2), (nV (words l) 3), 0, 0, 0⟩, ⟨8, 0, (fun _ => 0), 0, 1, (nV (words l) 0), (nV (words l) 1), (nV (words l) 2), (nV (words l) 3), 0, (nV (words l) 4), 0⟩] : List Stp).getD 2 zeroS)) 41, .row (.slice (some ⟨gs, 0, none⟩) ((words l).length) ((words l).length)) 9 1 ((words l).length) (List.map S (words l)), .blk g1 (stepA ⟨0, 0, (fun _ => 0), 0, 0, 0, 0, 0, 0, 0, 0, 0⟩) 41] := hsAs H (by kernel_rfl)
    exact ⟨2, (by omega), _, frm_of, H, (by omega)⟩
  · skip
    replace H : Hs [] w0 _ [.blk nq1 #[.pointer (some ⟨g2, 68, none⟩), .pointer (some ⟨g2, 69, none⟩), .pointer (some ⟨g2, 70, none⟩), .pointer (some ⟨g2, 71, none⟩), .pointer (some ⟨g2, 73, none⟩)] 61, .blk g2 (stepA ⟨8, 0, (fun _ => 0), 0, 1, (nV (words l) 0), (nV (words l) 1), 0, 0, 0, 0, 0⟩) 41, .row (.slice (some ⟨gs, 0, none⟩) ((words l).length) ((words l).length)) 9 1 ((words l).length) (List.map S (words l)), .blk g1 (stepA ⟨0, 0, (fun _ => 0), 0, 0, 0, 0, 0, 0, 0, 0, 0⟩) 41] := hsAs H (by kernel_rfl)
    refine x_seq <| x_region <| x_b H [.m] <| x_nil <| x_then <| x_seq <| x_t (by kernel_rfl) ?_
    refine x_skipc <| x_then <| x_seq <| x_block <| x_seq <| x_region <| x_b H [.m, .m, .l 0 2, .m, .m] ?_
    refine x_nil <| x_then <| x_region <| x_b H [.m, .m, .m, .m] <| z_callB H (at_of (g := gs) (i := 3) (ws := words l) _ (roAs (H.ro1 [2]) rfl)) fun v16 H => z_call (Atoi_of (wAt (words l) 3) (Nat.le_trans (wAt_len l 3) (by omega)) ((hE.on hM H)).toEnv) ?_
    rintro _ v17 ⟨ev, rfl, hB'⟩
    refine ⟨_, rfl, ?_⟩
    replace H := H.via hB'
    clear hB'
    refine x_b H [.m, .m, .m, .m] <| z_store H 1 70 [.int .i64 (nV (words l) 2)] (fun v18 H => ?_)
    refine x_nil <| x_blk <| x_then <| x_region <| x_b H [.m, .m] <| x_nil <| x_then ?_
    replace H := H.pk [0, 1, 2, 3]
    replace H : Hs [] w0 _ [.blk nq1 #[.pointer (some ⟨g2, 68, none⟩), .pointer (some ⟨g2, 69, none⟩), .pointer (some ⟨g2, 70, none⟩), .pointer (some ⟨g2, 71, none⟩), .pointer (some ⟨g2, 73, none⟩)] 61, .blk g2 (stepA (([⟨8, 0, (fun _ => 0), 0, 1, 0, 0, 0, 0, 0, 0, 0⟩, ⟨8, 0, (fun _ => 0), 0, 1, (nV (words l) 0), 0, 0, 0, 0, 0, 0⟩, ⟨8, 0, (fun _ => 0), 0, 1, (nV (words l) 0), (nV (words l) 1), 0, 0, 0, 0, 0⟩, ⟨8, 0, (fun _ => 0), 0, 1, (nV (words l) 0), (nV (words l) 1), (nV (words l) 2), 0, 0, 0, 0⟩, ⟨8, 0, (fun _ => 0), 0, 1, (nV (words l) 0), (nV (words l) 1), (nV (words l) 2), (nV (words l) 3), 0, 0, 0⟩, ⟨8, 0, (fun _ => 0), 0, 1, (nV (words l) 0), (nV (words l) 1), (nV (words l) 2), (nV (words l) 3), 0, (nV (words l) 4), 0⟩] : List Stp).getD 3 zeroS)) 41, .row (.slice (some ⟨gs, 0, none⟩) ((words l).length) ((words l).length)) 9 1 ((words l).length) (List.map S (words l)), .blk g1 (stepA ⟨0, 0, (fun _ => 0), 0, 0, 0, 0, 0, 0, 0, 0, 0⟩) 41] := hsAs H (by kernel_rfl)
    exact ⟨3, (by omega), _, frm_of, H, (by omega)⟩
  · skip
    replace H : Hs [] w0 _ [.blk nq1 #[.pointer (some ⟨g2, 68, none⟩), .pointer (some ⟨g2, 69, none⟩), .pointer (some ⟨g2, 70, none⟩), .pointer (some ⟨g2, 71, none⟩), .pointer (some ⟨g2, 73, none⟩)] 61, .blk g2 (stepA ⟨8, 0, (fun _ => 0), 0, 1, (nV (words l) 0), (nV (words l) 1), (nV (words l) 2), 0, 0, 0, 0⟩) 41, .row (.slice (some ⟨gs, 0, none⟩) ((words l).length) ((words l).length)) 9 1 ((words l).length) (List.map S (words l)), .blk g1 (stepA ⟨0, 0, (fun _ => 0), 0, 0, 0, 0, 0, 0, 0, 0, 0⟩) 41] := hsAs H (by kernel_rfl)
    refine x_seq <| x_region <| x_b H [.m] <| x_nil <| x_then <| x_seq <| x_t (by kernel_rfl) ?_
    refine x_skipc <| x_then <| x_seq <| x_block <| x_seq <| x_region <| x_b H [.m, .m, .l 0 3, .m, .m] ?_
    refine x_nil <| x_then <| x_region <| x_b H [.m, .m, .m, .m] <| z_callB H (at_of (g := gs) (i := 4) (ws := words l) _ (roAs (H.ro1 [2]) rfl)) fun v19 H => z_call (Atoi_of (wAt (words l) 4) (Nat.le_trans (wAt_len l 4) (by omega)) ((hE.on hM H)).toEnv) ?_
    rintro _ v20 ⟨ev, rfl, hB'⟩
    refine ⟨_, rfl, ?_⟩
    replace H := H.via hB'
    clear hB'
    refine x_b H [.m, .m, .m, .m] <| z_store H 1 71 [.int .i64 (nV (words l) 3)] (fun v21 H => ?_)
    refine x_nil <| x_blk <| x_then <| x_region <| x_b H [.m, .m] <| x_nil <| x_then ?_
    replace H := H.pk [0, 1, 2, 3]
    replace H : Hs [] w0 _ [.blk nq1 #[.pointer (some ⟨g2, 68, none⟩), .pointer (some ⟨g2, 69, none⟩), .pointer (some ⟨g2, 70, none⟩), .pointer (some ⟨g2, 71, none⟩), .pointer (some ⟨g2, 73, none⟩)] 61, .blk g2 (stepA (([⟨8, 0, (fun _ => 0), 0, 1, 0, 0, 0, 0, 0, 0, 0⟩, ⟨8, 0, (fun _ => 0), 0, 1, (nV (words l) 0), 0, 0, 0, 0, 0, 0⟩, ⟨8, 0, (fun _ => 0), 0, 1, (nV (words l) 0), (nV (words l) 1), 0, 0, 0, 0, 0⟩, ⟨8, 0, (fun _ => 0), 0, 1, (nV (words l) 0), (nV (words l) 1), (nV (words l) 2), 0, 0, 0, 0⟩, ⟨8, 0, (fun _ => 0), 0, 1, (nV (words l) 0), (nV (words l) 1), (nV (words l) 2), (nV (words l) 3), 0, 0, 0⟩, ⟨8, 0, (fun _ => 0), 0, 1, (nV (words l) 0), (nV (words l) 1), (nV (words l) 2), (nV (words l) 3), 0, (nV (words l) 4), 0⟩] : List Stp).getD 4 zeroS)) 41, .row (.slice (some ⟨gs, 0, none⟩) ((words l).length) ((words l).length)) 9 1 ((words l).length) (List.map S (words l)), .blk g1 (stepA ⟨0, 0, (fun _ => 0), 0, 0, 0, 0, 0, 0, 0, 0, 0⟩) 41] := hsAs H (by kernel_rfl)
    exact ⟨4, (by omega), _, frm_of, H, (by omega)⟩
  · skip
    replace H : Hs [] w0 _ [.blk nq1 #[.pointer (some ⟨g2, 68, none⟩), .pointer (some ⟨g2, 69, none⟩), .pointer (some ⟨g2, 70, none⟩), .pointer (some ⟨g2, 71, none⟩), .pointer (some ⟨g2, 73, none⟩)] 61, .blk g2 (stepA ⟨8, 0, (fun _ => 0), 0, 1, (nV (words l) 0), (nV (words l) 1), (nV (words l) 2), (nV (words l) 3), 0, 0, 0⟩) 41, .row (.slice (some ⟨gs, 0, none⟩) ((words l).length) ((words l).length)) 9 1 ((words l).length) (List.map S (words l)), .blk g1 (stepA ⟨0, 0, (fun _ => 0), 0, 0, 0, 0, 0, 0, 0, 0, 0⟩) 41] := hsAs H (by kernel_rfl)
    refine x_seq <| x_region <| x_b H [.m] <| x_nil <| x_then <| x_seq <| x_t (by kernel_rfl) ?_
    refine x_skipc <| x_then <| x_seq <| x_block <| x_seq <| x_region <| x_b H [.m, .m, .l 0 4, .m, .m] ?_
    refine x_nil <| x_then <| x_region <| x_b H [.m, .m, .m, .m] <| z_callB H (at_of (g := gs) (i := 5) (ws := words l) _ (roAs (H.ro1 [2]) rfl)) fun v22 H => z_call (Atoi_of (wAt (words l) 5) (Nat.le_trans (wAt_len l 5) (by omega)) ((hE.on hM H)).toEnv) ?_
    rintro _ v23 ⟨ev, rfl, hB'⟩
    refine ⟨_, rfl, ?_⟩
    replace H := H.via hB'
    clear hB'
    refine x_b H [.m, .m, .m, .m] <| z_store H 1 73 [.int .i64 (nV (words l) 4)] (fun v24 H => ?_)
    refine x_nil <| x_blk <| x_then <| x_region <| x_b H [.m, .m] <| x_nil <| x_then ?_
    replace H := H.pk [0, 1, 2, 3]
    replace H : Hs [] w0 _ [.blk nq1 #[.pointer (some ⟨g2, 68, none⟩), .pointer (some ⟨g2, 69, none⟩), .pointer (some ⟨g2, 70, none⟩), .pointer (some ⟨g2, 71, none⟩), .pointer (some ⟨g2, 73, none⟩)] 61, .blk g2 (stepA (([⟨8, 0, (fun _ => 0), 0, 1, 0, 0, 0, 0, 0, 0, 0⟩, ⟨8, 0, (fun _ => 0), 0, 1, (nV (words l) 0), 0, 0, 0, 0, 0, 0⟩, ⟨8, 0, (fun _ => 0), 0, 1, (nV (words l) 0), (nV (words l) 1), 0, 0, 0, 0, 0⟩, ⟨8, 0, (fun _ => 0), 0, 1, (nV (words l) 0), (nV (words l) 1), (nV (words l) 2), 0, 0, 0, 0⟩, ⟨8, 0, (fun _ => 0), 0, 1, (nV (words l) 0), (nV (words l) 1), (nV (words l) 2), (nV (words l) 3), 0, 0, 0⟩, ⟨8, 0, (fun _ => 0), 0, 1, (nV (words l) 0), (nV (words l) 1), (nV (words l) 2), (nV (words l) 3), 0, (nV (words l) 4), 0⟩] : List Stp).getD 5 zeroS)) 41, .row (.slice (some ⟨gs, 0, none⟩) ((words l).length) ((words l).length)) 9 1 ((words l).length) (List.map S (words l)), .blk g1 (stepA ⟨0, 0, (fun _ => 0), 0, 0, 0, 0, 0, 0, 0, 0, 0⟩) 41] := hsAs H (by kernel_rfl)
    exact ⟨5, (by omega), _, frm_of, H, (by omega)⟩
  · skip
    replace H : Hs [] w0 _ [.blk nq1 #[.pointer (some ⟨g2, 68, none⟩), .pointer (some ⟨g2, 69, none⟩), .pointer (some ⟨g2, 70, none⟩), .pointer (some ⟨g2, 71, none⟩), .pointer (some ⟨g2, 73, none⟩)] 61, .blk g2 (stepA ⟨8, 0, (fun _ => 0), 0, 1, (nV (words l) 0), (nV (words l) 1), (nV (words l) 2), (nV (words l) 3), 0, (nV (words l) 4), 0⟩) 41, .row (.slice (some ⟨gs, 0, none⟩) ((words l).length) ((words l).length)) 9 1 ((words l).length) (List.map S (words l)), .blk g1 (stepA ⟨0, 0, (fun _ => 0), 0, 0, 0, 0, 0, 0, 0, 0, 0⟩) 41] := hsAs H (by kernel_rfl)
    refine x_seq <| x_region <| x_b H [.m] <| x_nil <| x_then <| x_seq <| x_f (by kernel_rfl) ?_
    refine x_exit <| x_then_exit <| x_then_exit <| x_blk_exit <| x_then <| x_seq <| x_region ?_
    refine x_b H [.n 1 0 75 41] <| z_callB H (bare_of ⟨8, 0, (fun _ => 0), 0, 1, (nV (words l) 0), (nV (words l) 1), (nV (words l) 2), (nV (words l) 3), 0, (nV (words l) 4), 0⟩ _) fun v25 H => z_store H 1 0 ((stepA ⟨8, 0, (fun _ => 0), 0, 1, (nV (words l) 0), (nV (words l) 1), (nV (words l) 2), (nV (words l) 3), 0, (nV (words l) 4), 0⟩)).toList (fun v26 H => ?_)
    refine x_nil <| x_then <| x_seq <| x_seq <| x_region <| x_b H [.n 1 0 75 41] <| z_callB H (SShow_yes (x := (fillF 1 (words l))) (fillF_rng (by decide) _) (fillF_right (by decide) (by decide) _) _ (hE.on hM H)) fun v27 H => ?_
    refine x_b H [.m, .m, .m, .m, .m] <| x_nil <| x_then <| x_seq <| x_region <| x_b H [.m, .m, .m, .m, .m] <| x_eq (.bool (!(decide (txtS (fillF 1 (words l)) = l)))) (strNe (txtS (fillF 1 (words l))) l) (by kernel_rfl) rfl (by kernel_rfl) ?_
    refine x_b H [.v (.bool (!(decide (txtS (fillF 1 (words l)) = l))))] <| x_nil <| x_then ?_
    cases h1 : decide (txtS (fillF 1 (words l)) = l)
    · skip
      have h1p := of_decide_eq_false h1
      refine x_t (by kernel_rfl) <| x_seq <| x_region <| x_b H [.m] <| z_store H 3 0 ((stepA ⟨0, 0, (fun _ => 0), 0, 0, 0, 0, 0, 0, 0, 0, 0⟩)).toList (fun v28 H => ?_)
      refine x_b H [.m] <| x_nil <| x_then <| x_retc <| x_then_ret <| x_ret (.tuple #[.agg (stepA ⟨0, 0, (fun _ => 0), 0, 0, 0, 0, 0, 0, 0, 0, 0⟩), .int .i64 61]) (by kernel_rfl) (x_results [.cell 2 41, .tmp 3] [.agg (stepA ⟨0, 0, (fun _ => 0), 0, 0, 0, 0, 0, 0, 0, 0, 0⟩), .int .i64 61] _ rfl (AllR.cell (by kernel_rfl) (ldR H 3 g1 0 (stepA ⟨0, 0, (fun _ => 0), 0, 0, 0, 0, 0, 0, 0, 0, 0⟩) 41 (stepL ⟨0, 0, (fun _ => 0), 0, 0, 0, 0, 0, 0, 0, 0, 0⟩) (by kernel_rfl) (by kernel_rfl) (by kernel_rfl)) (AllR.tmp (by kernel_rfl) AllR.nil)) (by kernel_rfl)) ?_
      exact ⟨by rw [pres_no (of_decide_eq_false h1)]; rfl, H.below⟩
    have h1p := of_decide_eq_true h1
    refine x_f (by kernel_rfl) <| x_skipc <| x_then <| x_seq <| x_region <| x_b H [.n 1 0 75 41] <| z_store H 3 0 ((stepA ⟨8, 0, (fun _ => 0), 0, 1, (nV (words l) 0), (nV (words l) 1), (nV (words l) 2), (nV (words l) 3), 0, (nV (words l) 4), 0⟩)).toList (fun v29 H => ?_)
    refine x_b H [.m] <| x_nil <| x_then <| x_retc <| x_ret (.tuple #[.agg (stepA ⟨8, 0, (fun _ => 0), 0, 1, (nV (words l) 0), (nV (words l) 1), (nV (words l) 2), (nV (words l) 3), 0, (nV (words l) 4), 0⟩), .int .i64 0]) (by kernel_rfl) (x_results [.cell 2 41, .tmp 3] [.agg (stepA ⟨8, 0, (fun _ => 0), 0, 1, (nV (words l) 0), (nV (words l) 1), (nV (words l) 2), (nV (words l) 3), 0, (nV (words l) 4), 0⟩), .int .i64 0] _ rfl (AllR.cell (by kernel_rfl) (ldR H 3 g1 0 (stepA ⟨8, 0, (fun _ => 0), 0, 1, (nV (words l) 0), (nV (words l) 1), (nV (words l) 2), (nV (words l) 3), 0, (nV (words l) 4), 0⟩) 41 (stepL ⟨8, 0, (fun _ => 0), 0, 1, (nV (words l) 0), (nV (words l) 1), (nV (words l) 2), (nV (words l) 3), 0, (nV (words l) 4), 0⟩) (by kernel_rfl) (by kernel_rfl) (by kernel_rfl)) (AllR.tmp (by kernel_rfl) AllR.nil)) (by kernel_rfl)) ?_
    exact ⟨by rw [pres_yes (of_decide_eq_true h1)]; rfl, H.below⟩
set_option maxRecDepth 100000 in
set_option maxHeartbeats 4000000 in
theorem Parse_f2 {l : List UInt8} (hl : l.length ≤ 100000) (hw : wIx ((words l).getD 0 []) = 0) (hf : fIx ((words l).getD 0 []) = 2) (w0 : World) (hE : EnvS w0) :
    Calls Tryd.prog 19 #[S l] w0 fun e w' => e = .returned (pres (fillF 2 (words l)) l) ∧ Below w0.heap.size w0 w' := by
  refine z_enter Tryd.func19 rfl ?_
  have H := Hs.nil w0
  have hM := nilM
  have hwp := words_pos l
  refine x_seq <| x_region <| z_box H (stepA ⟨0, 0, (fun _ => 0), 0, 0, 0, 0, 0, 0, 0, 0, 0⟩) 41 (fun v1 g1 H => ?_)
  refine x_b H [.m] <| x_nil <| x_then <| x_seq <| x_region <| x_b H [.m] <| z_call (Split_of l hl (hE.on hM H)) ?_
  rintro _ v2 ⟨gs, rfl, hN'⟩
  refine ⟨_, rfl, ?_⟩
  replace H := H.more hN'
  clear hN'
  refine x_b H [.m] <| x_nil <| x_then <| x_seq <| x_region <| z_box H (stepA ⟨0, 0, (fun _ => 0), 0, 0, 0, 0, 0, 0, 0, 0, 0⟩) 41 (fun v3 g2 H => ?_)
  refine x_nil <| x_then <| x_seq <| x_seq <| z_region_whole H <| q_b [.m, .m] <| q_ix (t := 60) gs 0 0 ((words l).length) ((words l).length) 9 1 0 (words_pos l) (by omega) (by kernel_rfl) (by kernel_rfl) (by kernel_rfl) (fun _ => by kernel_rfl) ?_
  refine q_loadc gs 0 (S ((words l).getD 0 ([] : List UInt8))) (fun _ H => H.rowCell 1 rfl 0 (mapAt ([] : List UInt8) (by omega))) (by kernel_rfl) (fun _ => by kernel_rfl) <| q_callR (.int .i64 (-1)) (by kernel_rfl) (fun _ => by kernel_rfl) (fun _ H => (WIx_v hw (hE.on hM H))) <| q_b [.m] <| q_nil ?_
  clear H
  intro v4 H
  refine x_then <| x_seq <| x_region <| x_b H [.m, .m] <| x_nil <| x_then <| x_f (by kernel_rfl) ?_
  refine x_skipc <| x_then <| x_seq <| x_seq <| z_region_whole H <| q_b [.m, .m] <| q_ix (t := 60) gs 0 0 ((words l).length) ((words l).length) 9 1 0 (words_pos l) (by omega) (by kernel_rfl) (by kernel_rfl) (by kernel_rfl) (fun _ => by kernel_rfl) ?_
  refine q_loadc gs 0 (S ((words l).getD 0 ([] : List UInt8))) (fun _ H => H.rowCell 1 rfl 0 (mapAt ([] : List UInt8) (by omega))) (by kernel_rfl) (fun _ => by kernel_rfl) <| q_callR (.int .i64 1) (by kernel_rfl) (fun _ => by kernel_rfl) (fun _ H => (FIx_v hf (hE.on hM H))) <| q_b [.m] <| q_nil ?_
  clear H
  intro v5 H
  refine x_then <| x_seq <| x_region <| x_b H [.m, .m] <| x_nil <| x_then <| x_t (by kernel_rfl) ?_
  refine x_seq <| x_region <| x_b H [.m] <| z_store H 0 0 [.int .i64 8] (fun v6 H => ?_)
  refine x_nil <| x_then <| x_seq <| x_region <| x_b H [.m, .m, .m, .m] <| z_store H 0 67 [.int .i64 2] (fun v7 H => ?_)
  refine x_nil <| x_then <| x_seq <| x_region <| x_b H [.m] <| z_call (numbers_2 (g := g2) (sk := 8) (sl := 0) (sd := (fun _ => 0)) (sm := 0) (rk := 0) (bk := 0) (ro := 0) (co := 0) (ch := 0) (bi := 0) (va := 0) _ (roAs (H.ro1 [0]) (by kernel_rfl))) ?_
  rintro _ v8 ⟨nq1, rfl, hN'⟩
  refine ⟨_, rfl, ?_⟩
  replace H := H.more hN'
  clear hN'
  refine x_b H [.m, .m] <| x_nil <| x_then <| x_block <| x_loop (G := Nat) (fun (c : Nat) a w' => ∃ uf1 : Nat → Value, a = frm 92 uf1 [(0, S l), (2, .pointer (some ⟨g1, 0, none⟩)), (4, .slice (some ⟨gs, 0, none⟩) ((words l).length) ((words l).length)), (5, .pointer (some ⟨g2, 0, none⟩)), (58, .slice (some ⟨nq1, 0, none⟩) 6 6), (59, .int .i64 6), (60, .int .i64 (c : Int))] [] ∧ Hs [] w0 w' [.blk nq1 #[.pointer (some ⟨g2, 68, none⟩), .pointer (some ⟨g2, 69, none⟩), .pointer (some ⟨g2, 70, none⟩), .pointer (some ⟨g2, 71, none⟩), .pointer (some ⟨g2, 73, none⟩), .pointer (some ⟨g2, 74, none⟩)] 61, .blk g2 (stepA (([⟨8, 0, (fun _ => 0), 0, 2, 0, 0, 0, 0, 0, 0, 0⟩, ⟨8, 0, (fun _ => 0), 0, 2, (nV (words l) 0), 0, 0, 0, 0, 0, 0⟩, ⟨8, 0, (fun _ => 0), 0, 2, (nV (words l) 0), (nV (words l) 1), 0, 0, 0, 0, 0⟩, ⟨8, 0, (fun _ => 0), 0, 2, (nV (words l) 0), (nV (words l) 1), (nV (words l) 2), 0, 0, 0, 0⟩, ⟨8, 0, (fun _ => 0), 0, 2, (nV (words l) 0), (nV (words l) 1), (nV (words l) 2), (nV (words l) 3), 0, 0, 0⟩, ⟨8, 0, (fun _ => 0), 0, 2, (nV (words l) 0), (nV (words l) 1), (nV (words l) 2), (nV (words l) 3), 0, (nV (words l) 4), 0⟩, ⟨8, 0, (fun _ => 0), 0, 2, (nV (words l) 0), (nV (words l) 1), (nV (words l) 2), (nV (words l) 3), 0, (nV (words l) 4), (nV (words l) 5)⟩] : List Stp).getD c zeroS)) 41, .row (.slice (some ⟨gs, 0, none⟩) ((words l).length) ((words l).length)) 9 1 ((words l).length) (List.map S (words l)), .blk g1 (stepA ⟨0, 0, (fun _ => 0), 0, 0, 0, 0, 0, 0, 0, 0, 0⟩) 41] ∧ (c ≤ 6)) (fun (c : Nat) => 6 - c) 0 ⟨_, frm_of, H, (Nat.zero_le _)⟩ ?_
  clear H
  rintro c _ v9 ⟨uf1, rfl, H, r1⟩
  rcases (show c = 0 ∨ c = 1 ∨ c = 2 ∨ c = 3 ∨ c = 4 ∨ c = 5 ∨ c = 6 by omega) with rfl | rfl | rfl | rfl | rfl | rfl | rfl
  · skip
    replace H : Hs [] w0 _ [.blk nq1 #[.pointer (some ⟨g2, 68, none⟩), .pointer (some ⟨g2, 69, none⟩), .pointer (some ⟨g2, 70, none⟩), .pointer (some ⟨g2, 71, none⟩), .pointer (some ⟨g2, 73, none⟩), .pointer (some ⟨g2, 74, none⟩)] 61, .blk g2 (stepA ⟨8, 0, (fun _ => 0), 0, 2, 0, 0, 0, 0, 0, 0, 0⟩) 41, .row (.slice (some ⟨gs, 0, none⟩) ((words l).length) ((words l).length)) 9 1 ((words l).length) (List.map S (words l)), .blk g1 (stepA ⟨0, 0, (fun _ => 0), 0, 0, 0, 0, 0, 0, 0, 0, 0⟩) 41] := hsAs H (by kernel_rfl)
    refine x_seq <| x_region <| x_b H [.m] <| x_nil <| x_then <| x_seq <| x_t (by kernel_rfl) ?_
    refine x_skipc <| x_then <| x_seq <| x_block <| x_seq <| x_region <| x_b H [.m, .m, .l 0 0, .m, .m] ?_
    refine x_nil <| x_then <| x_region <| x_b H [.m, .m, .m, .m] <| z_callB H (at_of (g := gs) (i := 1) (ws := words l) _ (roAs (H.ro1 [2]) rfl)) fun v10 H => z_call (Atoi_of (wAt (words l) 1) (Nat.le_trans (wAt_len l 1) (by omega)) ((hE.on hM H)).toEnv) ?_
    rintro _ v11 ⟨ev, rfl, hB'⟩
    refine ⟨_, rfl, ?_⟩
    replace H := H.via hB'
    clear hB'
    refine x_b H [.m, .m, .m, .m] <| z_store H 1 68 [.int .i64 (nV (words l) 0)] (fun v12 H => ?_)
    refine x_nil <| x_blk <| x_then <| x_region <| x_b H [.m, .m] <| x_nil <| x_then ?_
    replace H := H.pk [0, 1, 2, 3]
    replace H : Hs [] w0 _ [.blk nq1 #[.pointer (some ⟨g2, 68, none⟩), .pointer (some ⟨g2, 69, none⟩), .pointer (some ⟨g2, 70, none⟩), .pointer (some ⟨g2, 71, none⟩), .pointer (some ⟨g2, 73, none⟩), .pointer (some ⟨g2, 74, none⟩)] 61, .blk g2 (stepA (([⟨8, 0, (fun _ => 0), 0, 2, 0, 0, 0, 0, 0, 0, 0⟩, ⟨8, 0, (fun _ => 0), 0, 2, (nV (words l) 0), 0, 0, 0, 0, 0, 0⟩, ⟨8, 0, (fun _ => 0), 0, 2, (nV (words l) 0), (nV (words l) 1), 0, 0, 0, 0, 0⟩, ⟨8, 0, (fun _ => 0), 0, 2, (nV (words l) 0), (nV (words l) 1), (nV (words l) 2), 0, 0, 0, 0⟩, ⟨8, 0, (fun _ => 0), 0, 2, (nV (words l) 0), (nV (words l) 1), (nV (words l) 2), (nV (words l) 3), 0, 0, 0⟩, ⟨8, 0, (fun _ => 0), 0, 2, (nV (words l) 0), (nV (words l) 1), (nV (words l) 2), (nV (words l) 3), 0, (nV (words l) 4), 0⟩, ⟨8, 0, (fun _ => 0), 0, 2, (nV (words l) 0), (nV (words l) 1), (nV (words l) 2), (nV (words l) 3), 0, (nV (words l) 4), (nV (words l) 5)⟩] : List Stp).getD 1 zeroS)) 41, .row (.slice (some ⟨gs, 0, none⟩) ((words l).length) ((words l).length)) 9 1 ((words l).length) (List.map S (words l)), .blk g1 (stepA ⟨0, 0, (fun _ => 0), 0, 0, 0, 0, 0, 0, 0, 0, 0⟩) 41] := hsAs H (by kernel_rfl)
    exact ⟨1, (by omega), _, frm_of, H, (by omega)⟩
  · skip
    replace H : Hs [] w0 _ [.blk nq1 #[.pointer (some ⟨g2, 68, none⟩), .pointer (some ⟨g2, 69, none⟩), .pointer (some ⟨g2, 70, none⟩), .pointer (some ⟨g2, 71, none⟩), .pointer (some ⟨g2, 73, none⟩), .pointer (some ⟨g2, 74, none⟩)] 61, .blk g2 (stepA ⟨8, 0, (fun _ => 0), 0, 2, (nV (words l) 0), 0, 0, 0, 0, 0, 0⟩) 41, .row (.slice (some ⟨gs, 0, none⟩) ((words l).length) ((words l).length)) 9 1 ((words l).length) (List.map S (words l)), .blk g1 (stepA ⟨0, 0, (fun _ => 0), 0, 0, 0, 0, 0, 0, 0, 0, 0⟩) 41] := hsAs H (by kernel_rfl)
    refine x_seq <| x_region <| x_b H [.m] <| x_nil <| x_then <| x_seq <| x_t (by kernel_rfl) ?_
    refine x_skipc <| x_then <| x_seq <| x_block <| x_seq <| x_region <| x_b H [.m, .m, .l 0 1, .m, .m] ?_
    refine x_nil <| x_then <| x_region <| x_b H [.m, .m, .m, .m] <| z_callB H (at_of (g := gs) (i := 2) (ws := words l) _ (roAs (H.ro1 [2]) rfl)) fun v13 H => z_call (Atoi_of (wAt (words l) 2) (Nat.le_trans (wAt_len l 2) (by omega)) ((hE.on hM H)).toEnv) ?_
    rintro _ v14 ⟨ev, rfl, hB'⟩
    refine ⟨_, rfl, ?_⟩
    replace H := H.via hB'
    clear hB'
    refine x_b H [.m, .m, .m, .m] <| z_store H 1 69 [.int .i64 (nV (words l) 1)] (fun v15 H => ?_)
    refine x_nil <| x_blk <| x_then <| x_region <| x_b H [.m, .m] <| x_nil <| x_then ?_
    replace H := H.pk [0, 1, 2, 3]
    replace H : Hs [] w0 _ [.blk nq1 #[.pointer (some ⟨g2, 68, none⟩), .pointer (some ⟨g2, 69, none⟩), .pointer (some ⟨g2, 70, none⟩), .pointer (some ⟨g2, 71, none⟩), .pointer (some ⟨g2, 73, none⟩), .pointer (some ⟨g2, 74, none⟩)] 61, .blk g2 (stepA (([⟨8, 0, (fun _ => 0), 0, 2, 0, 0, 0, 0, 0, 0, 0⟩, ⟨8, 0, (fun _ => 0), 0, 2, (nV (words l) 0), 0, 0, 0, 0, 0, 0⟩, ⟨8, 0, (fun _ => 0), 0, 2, (nV (words l) 0), (nV (words l) 1), 0, 0, 0, 0, 0⟩, ⟨8, 0, (fun _ => 0), 0, 2, (nV (words l) 0), (nV (words l) 1), (nV (words l) 2), 0, 0, 0, 0⟩, ⟨8, 0, (fun _ => 0), 0, 2, (nV (words l) 0), (nV (words l) 1), (nV (words l) 2), (nV (words l) 3), 0, 0, 0⟩, ⟨8, 0, (fun _ => 0), 0, 2, (nV (words l) 0), (nV (words l) 1), (nV (words l) 2), (nV (words l) 3), 0, (nV (words l) 4), 0⟩, ⟨8, 0, (fun _ => 0), 0, 2, (nV (words l) 0), (nV (words l) 1), (nV (words l) 2), (nV (words l) 3), 0, (nV (words l) 4), (nV (words l) 5)⟩] : List Stp).getD 2 zeroS)) 41, .row (.slice (some ⟨gs, 0, none⟩) ((words l).length) ((words l).length)) 9 1 ((words l).length) (List.map S (words l)), .blk g1 (stepA ⟨0, 0, (fun _ => 0), 0, 0, 0, 0, 0, 0, 0, 0, 0⟩) 41] := hsAs H (by kernel_rfl)
    exact ⟨2, (by omega), _, frm_of, H, (by omega)⟩
  · skip
    replace H : Hs [] w0 _ [.blk nq1 #[.pointer (some ⟨g2, 68, none⟩), .pointer (some ⟨g2, 69, none⟩), .pointer (some ⟨g2, 70, none⟩), .pointer (some ⟨g2, 71, none⟩), .pointer (some ⟨g2, 73, none⟩), .pointer (some ⟨g2, 74, none⟩)] 61, .blk g2 (stepA ⟨8, 0, (fun _ => 0), 0, 2, (nV (words l) 0), (nV (words l) 1), 0, 0, 0, 0, 0⟩) 41, .row (.slice (some ⟨gs, 0, none⟩) ((words l).length) ((words l).length)) 9 1 ((words l).length) (List.map S (words l)), .blk g1 (stepA ⟨0, 0, (fun _ => 0), 0, 0, 0, 0, 0, 0, 0, 0, 0⟩) 41] := hsAs H (by kernel_rfl)
    refine x_seq <| x_region <| x_b H [.m] <| x_nil <| x_then <| x_seq <| x_t (by kernel_rfl) ?_
    refine x_skipc <| x_then <| x_seq <| x_block <| x_seq <| x_region <| x_b H [.m, .m, .l 0 2, .m, .m] ?_
    refine x_nil <| x_then <| x_region <| x_b H [.m, .m, .m, .m] <| z_callB H (at_of (g := gs) (i := 3) (ws := words l) _ (roAs (H.ro1 [2]) rfl)) fun v16 H => z_call (Atoi_of (wAt (words l) 3) (Nat.le_trans (wAt_len l 3) (by omega)) ((hE.on hM H)).toEnv) ?_
    rintro _ v17 ⟨ev, rfl, hB'⟩
    refine ⟨_, rfl, ?_⟩
    replace H := H.via hB'
    clear hB'
    refine x_b H [.m, .m, .m, .m] <| z_store H 1 70 [.int .i64 (nV (words l) 2)] (fun v18 H => ?_)
    refine x_nil <| x_blk <| x_then <| x_region <| x_b H [.m, .m] <| x_nil <| x_then ?_
    replace H := H.pk [0, 1, 2, 3]
    replace H : Hs [] w0 _ [.blk nq1 #[.pointer (some ⟨g2, 68, none⟩), .pointer (some ⟨g2, 69, none⟩), .pointer (some ⟨g2, 70, none⟩), .pointer (some ⟨g2, 71, none⟩), .pointer (some ⟨g2, 73, none⟩), .pointer (some ⟨g2, 74, none⟩)] 61, .blk g2 (stepA (([⟨8, 0, (fun _ => 0), 0, 2, 0, 0, 0, 0, 0, 0, 0⟩, ⟨8, 0, (fun _ => 0), 0, 2, (nV (words l) 0), 0, 0, 0, 0, 0, 0⟩, ⟨8, 0, (fun _ => 0), 0, 2, (nV (words l) 0), (nV (words l) 1), 0, 0, 0, 0, 0⟩, ⟨8, 0, (fun _ => 0), 0, 2, (nV (words l) 0), (nV (words l) 1), (nV (words l) 2), 0, 0, 0, 0⟩, ⟨8, 0, (fun _ => 0), 0, 2, (nV (words l) 0), (nV (words l) 1), (nV (words l) 2), (nV (words l) 3), 0, 0, 0⟩, ⟨8, 0, (fun _ => 0), 0, 2, (nV (words l) 0), (nV (words l) 1), (nV (words l) 2), (nV (words l) 3), 0, (nV (words l) 4), 0⟩, ⟨8, 0, (fun _ => 0), 0, 2, (nV (words l) 0), (nV (words l) 1), (nV (words l) 2), (nV (words l) 3), 0, (nV (words l) 4), (nV (words l) 5)⟩] : List Stp).getD 3 zeroS)) 41, .row (.slice (some ⟨gs, 0, none⟩) ((words l).length) ((words l).length)) 9 1 ((words l).length) (List.map S (words l)), .blk g1 (stepA ⟨0, 0, (fun _ => 0), 0, 0, 0, 0, 0, 0, 0, 0, 0⟩) 41] := hsAs H (by kernel_rfl)
    exact ⟨3, (by omega), _, frm_of, H, (by omega)⟩
  · skip
    replace H : Hs [] w0 _ [.blk nq1 #[.pointer (some ⟨g2, 68, none⟩), .pointer (some ⟨g2, 69, none⟩), .pointer (some ⟨g2, 70, none⟩), .pointer (some ⟨g2, 71, none⟩), .pointer (some ⟨g2, 73, none⟩), .pointer (some ⟨g2, 74, none⟩)] 61, .blk g2 (stepA ⟨8, 0, (fun _ => 0), 0, 2, (nV (words l) 0), (nV (words l) 1), (nV (words l) 2), 0, 0, 0, 0⟩) 41, .row (.slice (some ⟨gs, 0, none⟩) ((words l).length) ((words l).length)) 9 1 ((words l).length) (List.map S (words l)), .blk g1 (stepA ⟨0, 0, (fun _ => 0), 0, 0, 0, 0, 0, 0, 0, 0, 0⟩) 41] := hsAs H (by kernel_rfl)
    refine x_seq <| x_region <| x_b H [.m] <| x_nil <| x_then <| x_seq <| x_t (by kernel_rfl) ?_
    refine x_skipc <| x_then <| x_seq <| x_block <| x_seq <| x_region <| x_b H [.m, .m, .l 0 3, .m, .m] ?_
    refine x_nil <| x_then <| x_region <| x_b H [.m, .m, .m, .m] <| z_callB H (at_of (g := gs) (i := 4) (ws := words l) _ (roAs (H.ro1 [2]) rfl)) fun v19 H => z_call (Atoi_of (wAt (words l) 4) (Nat.le_trans (wAt_len l 4) (by omega)) ((hE.on hM H)).toEnv) ?_
    rintro _ v20 ⟨ev, rfl, hB'⟩
    refine ⟨_, rfl, ?_⟩
    replace H := H.via hB'
    clear hB'
    refine x_b H [.m, .m, .m, .m] <| z_store H 1 71 [.int .i64 (nV (words l) 3)] (fun v21 H => ?_)
    refine x_nil <| x_blk <| x_then <| x_region <| x_b H [.m, .m] <| x_nil <| x_then ?_
    replace H := H.pk [0, 1, 2, 3]
    replace H : Hs [] w0 _ [.blk nq1 #[.pointer (some ⟨g2, 68, none⟩), .pointer (some ⟨g2, 69, none⟩), .pointer (some ⟨g2, 70, none⟩), .pointer (some ⟨g2, 71, none⟩), .pointer (some ⟨g2, 73, none⟩), .pointer (some ⟨g2, 74, none⟩)] 61, .blk g2 (stepA (([⟨8, 0, (fun _ => 0), 0, 2, 0, 0, 0, 0, 0, 0, 0⟩, ⟨8, 0, (fun _ => 0), 0, 2, (nV (words l) 0), 0, 0, 0, 0, 0, 0⟩, ⟨8, 0, (fun _ => 0), 0, 2, (nV (words l) 0), (nV (words l) 1), 0, 0, 0, 0, 0⟩, ⟨8, 0, (fun _ => 0), 0, 2, (nV (words l) 0), (nV (words l) 1), (nV (words l) 2), 0, 0, 0, 0⟩, ⟨8, 0, (fun _ => 0), 0, 2, (nV (words l) 0), (nV (words l) 1), (nV (words l) 2), (nV (words l) 3), 0, 0, 0⟩, ⟨8, 0, (fun _ => 0), 0, 2, (nV (words l) 0), (nV (words l) 1), (nV (words l) 2), (nV (words l) 3), 0, (nV (words l) 4), 0⟩, ⟨8, 0, (fun _ => 0), 0, 2, (nV (words l) 0), (nV (words l) 1), (nV (words l) 2), (nV (words l) 3), 0, (nV (words l) 4), (nV (words l) 5)⟩] : List Stp).getD 4 zeroS)) 41, .row (.slice (some ⟨gs, 0, none⟩) ((words l).length) ((words l).length)) 9 1 ((words l).length) (List.map S (words l)), .blk g1 (stepA ⟨0, 0, (fun _ => 0), 0, 0, 0, 0, 0, 0, 0, 0, 0⟩) 41] := hsAs H (by kernel_rfl)
    exact ⟨4, (by omega), _, frm_of, H, (by omega)⟩
  · skip
    replace H : Hs [] w0 _ [.blk nq1 #[.pointer (some ⟨g2, 68, none⟩), .pointer (some ⟨g2, 69, none⟩), .pointer (some ⟨g2, 70, none⟩), .pointer (some ⟨g2, 71, none⟩), .pointer (some ⟨g2, 73, none⟩), .pointer (some ⟨g2, 74, none⟩)] 61, .blk g2 (stepA ⟨8, 0, (fun _ => 0), 0, 2, (nV (words l) 0), (nV (words l) 1), (nV (words l) 2), (nV (words l) 3), 0, 0, 0⟩) 41, .row (.slice (some ⟨gs, 0, none⟩) ((words l).length) ((words l).length)) 9 1 ((words l).length) (List.map S (words l)), .blk g1 (stepA ⟨0, 0, (fun _ => 0), 0, 0, 0, 0, 0, 0, 0, 0, 0⟩) 41] := hsAs H (by kernel_rfl)
    refine x_seq <| x_region <| x_b H [.m] <| x_nil <| x_then <| x_seq <| x_t (by kernel_rfl) ?_
    refine x_skipc <| x_then <| x_seq <| x_block <| x_seq <| x_region <| x_b H [.m, .m, .l 0 4, .m, .m] ?_
    refine x_nil <| x_then <| x_region <| x_b H [.m, .m, .m, .m] <| z_callB H (at_of (g := gs) (i := 5) (ws := words l) _ (roAs (H.ro1 [2]) rfl)) fun v22 H => z_call (Atoi_of (wAt (words l) 5) (Nat.le_trans (wAt_len l 5) (by omega)) ((hE.on hM H)).toEnv) ?_
    rintro _ v23 ⟨ev, rfl, hB'⟩
    refine ⟨_, rfl, ?_⟩
    replace H := H.via hB'
    clear hB'
    refine x_b H [.m, .m, .m, .m] <| z_store H 1 73 [.int .i64 (nV (words l) 4)] (fun v24 H => ?_)
    refine x_nil <| x_blk <| x_then <| x_region <| x_b H [.m, .m] <| x_nil <| x_then ?_
    replace H := H.pk [0, 1, 2, 3]
    replace H : Hs [] w0 _ [.blk nq1 #[.pointer (some ⟨g2, 68, none⟩), .pointer (some ⟨g2, 69, none⟩), .pointer (some ⟨g2, 70, none⟩), .pointer (some ⟨g2, 71, none⟩), .pointer (some ⟨g2, 73, none⟩), .pointer (some ⟨g2, 74, none⟩)] 61, .blk g2 (stepA (([⟨8, 0, (fun _ => 0), 0, 2, 0, 0, 0, 0, 0, 0, 0⟩, ⟨8, 0, (fun _ => 0), 0, 2, (nV (words l) 0), 0, 0, 0, 0, 0, 0⟩, ⟨8, 0, (fun _ => 0), 0, 2, (nV (words l) 0), (nV (words l) 1), 0, 0, 0, 0, 0⟩, ⟨8, 0, (fun _ => 0), 0, 2, (nV (words l) 0), (nV (words l) 1), (nV (words l) 2), 0, 0, 0, 0⟩, ⟨8, 0, (fun _ => 0), 0, 2, (nV (words l) 0), (nV (words l) 1), (nV (words l) 2), (nV (words l) 3), 0, 0, 0⟩, ⟨8, 0, (fun _ => 0), 0, 2, (nV (words l) 0), (nV (words l) 1), (nV (words l) 2), (nV (words l) 3), 0, (nV (words l) 4), 0⟩, ⟨8, 0, (fun _ => 0), 0, 2, (nV (words l) 0), (nV (words l) 1), (nV (words l) 2), (nV (words l) 3), 0, (nV (words l) 4), (nV (words l) 5)⟩] : List Stp).getD 5 zeroS)) 41, .row (.slice (some ⟨gs, 0, none⟩) ((words l).length) ((words l).length)) 9 1 ((words l).length) (List.map S (words l)), .blk g1 (stepA ⟨0, 0, (fun _ => 0), 0, 0, 0, 0, 0, 0, 0, 0, 0⟩) 41] := hsAs H (by kernel_rfl)
    exact ⟨5, (by omega), _, frm_of, H, (by omega)⟩
  · skip
    replace H : Hs [] w0 _ [.blk nq1 #[.pointer (some ⟨g2, 68, none⟩), .pointer (some ⟨g2, 69, none⟩), .pointer (some ⟨g2, 70, none⟩), .pointer (some ⟨g2, 71, none⟩), .pointer (some ⟨g2, 73, none⟩), .pointer (some ⟨g2, 74, none⟩)] 61, .blk g2 (stepA ⟨8, 0, (fun _ => 0), 0, 2, (nV (words l) 0), (nV (words l) 1), (nV (words l) 2), (nV (words l) 3), 0, (nV (words l) 4), 0⟩) 41, .row (.slice (some ⟨gs, 0, none⟩) ((words l).length) ((words l).length)) 9 1 ((words l).length) (List.map S (words l)), .blk g1 (stepA ⟨0, 0, (fun _ => 0), 0, 0, 0, 0, 0, 0, 0, 0, 0⟩) 41] := hsAs H (by kernel_rfl)
    refine x_seq <| x_region <| x_b H [.m] <| x_nil <| x_then <| x_seq <| x_t (by kernel_rfl) ?_
    refine x_skipc <| x_then <| x_seq <| x_block <| x_seq <| x_region <| x_b H [.m, .m, .l 0 5, .m, .m] ?_
    refine x_nil <| x_then <| x_region <| x_b H [.m, .m, .m, .m] <| z_callB H (at_of (g := gs) (i := 6) (ws := words l) _ (roAs (H.ro1 [2]) rfl)) fun v25 H => z_call (Atoi_of (wAt (words l) 6) (Nat.le_trans (wAt_len l 6) (by omega)) ((hE.on hM H)).toEnv) ?_
    rintro _ v26 ⟨ev, rfl, hB'⟩
    refine ⟨_, rfl, ?_⟩
    replace H := H.via hB'
    clear hB'
    refine x_b H [.m, .m, .m, .m] <| z_store H 1 74 [.int .i64 (nV (words l) 5)] (fun v27 H => ?_)
    refine x_nil <| x_blk <| x_then <| x_region <| x_b H [.m, .m] <| x_nil <| x_then ?_
    replace H := H.pk [0, 1, 2, 3]
    replace H : Hs [] w0 _ [.blk nq1 #[.pointer (some ⟨g2, 68, none⟩), .pointer (some ⟨g2, 69, none⟩), .pointer (some ⟨g2, 70, none⟩), .pointer (some ⟨g2, 71, none⟩), .pointer (some ⟨g2, 73, none⟩), .pointer (some ⟨g2, 74, none⟩)] 61, .blk g2 (stepA (([⟨8, 0, (fun _ => 0), 0, 2, 0, 0, 0, 0, 0, 0, 0⟩, ⟨8, 0, (fun _ => 0), 0, 2, (nV (words l) 0), 0, 0, 0, 0, 0, 0⟩, ⟨8, 0, (fun _ => 0), 0, 2, (nV (words l) 0), (nV (words l) 1), 0, 0, 0, 0, 0⟩, ⟨8, 0, (fun _ => 0), 0, 2, (nV (words l) 0), (nV (words l) 1), (nV (words l) 2), 0, 0, 0, 0⟩, ⟨8, 0, (fun _ => 0), 0, 2, (nV (words l) 0), (nV (words l) 1), (nV (words l) 2), (nV (words l) 3), 0, 0, 0⟩, ⟨8, 0, (fun _ => 0), 0, 2, (nV (words l) 0), (nV (words l) 1), (nV (words l) 2), (nV (words l) 3), 0, (nV (words l) 4), 0⟩, ⟨8, 0, (fun _ => 0), 0, 2, (nV (words l) 0), (nV (words l) 1), (nV (words l) 2), (nV (words l) 3), 0, (nV (words l) 4), (nV (words l) 5)⟩] : List Stp).getD 6 zeroS)) 41, .row (.slice (some ⟨gs, 0, none⟩) ((words l).length) ((words l).length)) 9 1 ((words l).length) (List.map S (words l)), .blk g1 (stepA ⟨0, 0, (fun _ => 0), 0, 0, 0, 0, 0, 0, 0, 0, 0⟩) 41] := hsAs H (by kernel_rfl)
    exact ⟨6, (by omega), _, frm_of, H, (by omega)⟩
  · skip
    replace H : Hs [] w0 _ [.blk nq1 #[.pointer (some ⟨g2, 68, none⟩), .pointer (some ⟨g2, 69, none⟩), .pointer (some ⟨g2, 70, none⟩), .pointer (some ⟨g2, 71, none⟩), .pointer (some ⟨g2, 73, none⟩), .pointer (some ⟨g2, 74, none⟩)] 61, .blk g2 (stepA ⟨8, 0, (fun _ => 0), 0, 2, (nV (words l) 0), (nV (words l) 1), (nV (words l) 2), (nV (words l) 3), 0, (nV (words l) 4), (nV (words l) 5)⟩) 41, .row (.slice (some ⟨gs, 0, none⟩) ((words l).length) ((words l).length)) 9 1 ((words l).length) (List.map S (words l)), .blk g1 (stepA ⟨0, 0, (fun _ => 0), 0, 0, 0, 0, 0, 0, 0, 0, 0⟩) 41] := hsAs H (by kernel_rfl)
    refine x_seq <| x_region <| x_b H [.m] <| x_nil <| x_then <| x_seq <| x_f (by kernel_rfl) ?_
    refine x_exit <| x_then_exit <| x_then_exit <| x_blk_exit <| x_then <| x_seq <| x_region ?_
    refine x_b H [.n 1 0 75 41] <| z_callB H (bare_of ⟨8, 0, (fun _ => 0), 0, 2, (nV (words l) 0), (nV (words l) 1), (nV (words l) 2), (nV (words l) 3), 0, (nV (words l) 4), (nV (words l) 5)⟩ _) fun v28 H => z_store H 1 0 ((stepA ⟨8, 0, (fun _ => 0), 0, 2, (nV (words l) 0), (nV (words l) 1), (nV (words l) 2), (nV (words l) 3), 0, (nV (words l) 4), (nV (words l) 5)⟩)).toList (fun v29 H => ?_)
    refine x_nil <| x_then <| x_seq <| x_seq <| x_region <| x_b H [.n 1 0 75 41] <| z_callB H (SShow_yes (x := (fillF 2 (words l))) (fillF_rng (by decide) _) (fillF_right (by decide) (by decide) _) _ (hE.on hM H)) fun v30 H => ?_
    refine x_b H [.m, .m, .m, .m, .m] <| x_nil <| x_then <| x_seq <| x_region <| x_b H [.m, .m, .m, .m, .m] <| x_eq (.bool (!(decide (txtS (fillF 2 (words l)) = l)))) (strNe (txtS (fillF 2 (words l))) l) (by kernel_rfl) rfl (by kernel_rfl) ?_
    refine x_b H [.v (.bool (!(decide (txtS (fillF 2 (words l)) = l))))] <| x_nil <| x_then ?_
    cases h1 : decide (txtS (fillF 2 (words l)) = l)
    · skip
      have h1p := of_decide_eq_false h1
      refine x_t (by kernel_rfl) <| x_seq <| x_region <| x_b H [.m] <| z_store H 3 0 ((stepA ⟨0, 0, (fun _ => 0), 0, 0, 0, 0, 0, 0, 0, 0, 0⟩)).toList (fun v31 H => ?_)
      refine x_b H [.m] <| x_nil <| x_then <| x_retc <| x_then_ret <| x_ret (.tuple #[.agg (stepA ⟨0, 0, (fun _ => 0), 0, 0, 0, 0, 0, 0, 0, 0, 0⟩), .int .i64 61]) (by kernel_rfl) (x_results [.cell 2 41, .tmp 3] [.agg (stepA ⟨0, 0, (fun _ => 0), 0, 0, 0, 0, 0, 0, 0, 0, 0⟩), .int .i64 61] _ rfl (AllR.cell (by kernel_rfl) (ldR H 3 g1 0 (stepA ⟨0, 0, (fun _ => 0), 0, 0, 0, 0, 0, 0, 0, 0, 0⟩) 41 (stepL ⟨0, 0, (fun _ => 0), 0, 0, 0, 0, 0, 0, 0, 0, 0⟩) (by kernel_rfl) (by kernel_rfl) (by kernel_rfl)) (AllR.tmp (by kernel_rfl) AllR.nil)) (by kernel_rfl)) ?_
      exact ⟨by rw [pres_no (of_decide_eq_false h1)]; rfl, H.below⟩
    have h1p := of_decide_eq_true h1
    refine x_f (by kernel_rfl) <| x_skipc <| x_then <| x_seq <| x_region <| x_b H [.n 1 0 75 41] <| z_store H 3 0 ((stepA ⟨8, 0, (fun _ => 0), 0, 2, (nV (words l) 0), (nV (words l) 1), (nV (words l) 2), (nV (words l) 3), 0, (nV (words l) 4), (nV (words l) 5)⟩)).toList (fun v32 H => ?_)
    refine x_b H [.m] <| x_nil <| x_then <| x_retc <| x_ret (.tuple #[.agg (stepA ⟨8, 0, (fun _ => 0), 0, 2, (nV (words l) 0), (nV (words l) 1), (nV (words l) 2), (nV (words l) 3), 0, (nV (words l) 4), (nV (words l) 5)⟩), .int .i64 0]) (by kernel_rfl) (x_results [.cell 2 41, .tmp 3] [.agg (stepA ⟨8, 0, (fun _ => 0), 0, 2, (nV (words l) 0), (nV (words l) 1), (nV (words l) 2), (nV (words l) 3), 0, (nV (words l) 4), (nV (words l) 5)⟩), .int .i64 0] _ rfl (AllR.cell (by kernel_rfl) (ldR H 3 g1 0 (stepA ⟨8, 0, (fun _ => 0), 0, 2, (nV (words l) 0), (nV (words l) 1), (nV (words l) 2), (nV (words l) 3), 0, (nV (words l) 4), (nV (words l) 5)⟩) 41 (stepL ⟨8, 0, (fun _ => 0), 0, 2, (nV (words l) 0), (nV (words l) 1), (nV (words l) 2), (nV (words l) 3), 0, (nV (words l) 4), (nV (words l) 5)⟩) (by kernel_rfl) (by kernel_rfl) (by kernel_rfl)) (AllR.tmp (by kernel_rfl) AllR.nil)) (by kernel_rfl)) ?_
    exact ⟨by rw [pres_yes (of_decide_eq_true h1)]; rfl, H.below⟩
set_option maxRecDepth 100000 in
set_option maxHeartbeats 4000000 in
theorem Parse_f3 {l : List UInt8} (hl : l.length ≤ 100000) (hw : wIx ((words l).getD 0 []) = 0) (hf : fIx ((words l).getD 0 []) = 3) (w0 : World) (hE : EnvS w0) :
    Calls Tryd.prog 19 #[S l] w0 fun e w' => e = .returned (pres (fillF 3 (words l)) l) ∧ Below w0.heap.size w0 w' := by
  refine z_enter Tryd.func19 rfl ?_
  have H := Hs.nil w0
  have hM := nilM
  have hwp := words_pos l
  refine x_seq <| x_region <| z_box H (stepA ⟨0, 0, (fun _ => 0), 0, 0, 0, 0, 0, 0, 0, 0, 0⟩) 41 (fun v1 g1 H => ?_)
  refine x_b H [.m] <| x_nil <| x_then <| x_seq <| x_region <| x_b H [.m] <| z_call (Split_of l hl (hE.on hM H)) ?_
  rintro _ v2 ⟨gs, rfl, hN'⟩
  refine ⟨_, rfl, ?_⟩
  replace H := H.more hN'
  clear hN'
  refine x_b H [.m] <| x_nil <| x_then <| x_seq <| x_region <| z_box H (stepA ⟨0, 0, (fun _ => 0), 0, 0, 0, 0, 0, 0, 0, 0, 0⟩) 41 (fun v3 g2 H => ?_)
  refine x_nil <| x_then <| x_seq <| x_seq <| z_region_whole H <| q_b [.m, .m] <| q_ix (t := 60) gs 0 0 ((words l).length) ((words l).length) 9 1 0 (words_pos l) (by omega) (by kernel_rfl) (by kernel_rfl) (by kernel_rfl) (fun _ => by kernel_rfl) ?_
  refine q_loadc gs 0 (S ((words l).getD 0 ([] : List UInt8))) (fun _ H => H.rowCell 1 rfl 0 (mapAt ([] : List UInt8) (by omega))) (by kernel_rfl) (fun _ => by kernel_rfl) <| q_callR (.int .i64 (-1)) (by kernel_rfl) (fun _ => by kernel_rfl) (fun _ H => (WIx_v hw (hE.on hM H))) <| q_b [.m] <| q_nil ?_
  clear H
  intro v4 H
  refine x_then <| x_seq <| x_region <| x_b H [.m, .m] <| x_nil <| x_then <| x_f (by kernel_rfl) ?_
  refine x_skipc <| x_then <| x_seq <| x_seq <| z_region_whole H <| q_b [.m, .m] <| q_ix (t := 60) gs 0 0 ((words l).length) ((words l).length) 9 1 0 (words_pos l) (by omega) (by kernel_rfl) (by kernel_rfl) (by kernel_rfl) (fun _ => by kernel_rfl) ?_
  refine q_loadc gs 0 (S ((words l).getD 0 ([] : List UInt8))) (fun _ H => H.rowCell 1 rfl 0 (mapAt ([] : List UInt8) (by omega))) (by kernel_rfl) (fun _ => by kernel_rfl) <| q_callR (.int .i64 2) (by kernel_rfl) (fun _ => by kernel_rfl) (fun _ H => (FIx_v hf (hE.on hM H))) <| q_b [.m] <| q_nil ?_
  clear H
  intro v5 H
  refine x_then <| x_seq <| x_region <| x_b H [.m, .m] <| x_nil <| x_then <| x_t (by kernel_rfl) ?_
  refine x_seq <| x_region <| x_b H [.m] <| z_store H 0 0 [.int .i64 8] (fun v6 H => ?_)
  refine x_nil <| x_then <| x_seq <| x_region <| x_b H [.m, .m, .m, .m] <| z_store H 0 67 [.int .i64 3] (fun v7 H => ?_)
  refine x_nil <| x_then <| x_seq <| x_region <| x_b H [.m] <| z_call (numbers_3 (g := g2) (sk := 8) (sl := 0) (sd := (fun _ => 0)) (sm := 0) (rk := 0) (bk := 0) (ro := 0) (co := 0) (ch := 0) (bi := 0) (va := 0) _ (roAs (H.ro1 [0]) (by kernel_rfl))) ?_
  rintro _ v8 ⟨nq1, rfl, hN'⟩
  refine ⟨_, rfl, ?_⟩
  replace H := H.more hN'
  clear hN'
  refine x_b H [.m, .m] <| x_nil <| x_then <| x_block <| x_loop (G := Nat) (fun (c : Nat) a w' => ∃ uf1 : Nat → Value, a = frm 92 uf1 [(0, S l), (2, .pointer (some ⟨g1, 0, none⟩)), (4, .slice (some ⟨gs, 0, none⟩) ((words l).length) ((words l).length)), (5, .pointer (some ⟨g2, 0, none⟩)), (58, .slice (some ⟨nq1, 0, none⟩) 5 5), (59, .int .i64 5), (60, .int .i64 (c : Int))] [] ∧ Hs [] w0 w' [.blk nq1 #[.pointer (some ⟨g2, 68, none⟩), .pointer (some ⟨g2, 69, none⟩), .pointer (some ⟨g2, 70, none⟩), .pointer (some ⟨g2, 72, none⟩), .pointer (some ⟨g2, 74, none⟩)] 61, .blk g2 (stepA (([⟨8, 0, (fun _ => 0), 0, 3, 0, 0, 0, 0, 0, 0, 0⟩, ⟨8, 0, (fun _ => 0), 0, 3, (nV (words l) 0), 0, 0, 0, 0, 0, 0⟩, ⟨8, 0, (fun _ => 0), 0, 3, (nV (words l) 0), (nV (words l) 1), 0, 0, 0, 0, 0⟩, ⟨8, 0, (fun _ => 0), 0, 3, (nV (words l) 0), (nV (words l) 1), (nV (words l) 2), 0, 0, 0, 0⟩, ⟨8, 0, (fun _ => 0), 0, 3, (nV (words l) 0), (nV (words l) 1), (nV (words l) 2), 0, (nV (words l) 3), 0, 0⟩, ⟨8, 0, (fun _ => 0), 0, 3, (nV (words l) 0), (nV (words l) 1), (nV (words l) 2), 0, (nV (words l) 3), 0, (nV (words l) 4)⟩] : List Stp).getD c zeroS)) 41, .row (.slice (some ⟨gs, 0, none⟩) ((words l).length) ((words l).length)) 9 1 ((words l).length) (List.map S (words l)), .blk g1 (stepA ⟨0, 0, (fun _ => 0), 0, 0, 0, 0, 0, 0, 0, 0, 0⟩) 41] ∧ (c ≤ 5)) (fun (c : Nat) => 5 - c) 0 ⟨_, frm_of, H, (Nat.zero_le _)⟩ ?_
  clear H
  rintro c _ v9 ⟨uf1, rfl, H, r1⟩
  rcases (show c = 0 ∨ c = 1 ∨ c = 2 ∨ c = 3 ∨ c = 4 ∨ c = 5 by omega) with rfl | rfl | rfl | rfl | rfl | rfl
  · skip
    replace H : Hs [] w0 _ [.blk nq1 #[.pointer (some ⟨g2, 68, none⟩), .pointer (some ⟨g2, 69, none⟩), .pointer (some ⟨g2, 70, none⟩), .pointer (some ⟨g2, 72, none⟩), .pointer (some ⟨g2, 74, none⟩)] 61, .blk g2 (stepA ⟨8, 0, (fun _ => 0), 0, 3, 0, 0, 0, 0, 0, 0, 0⟩) 41, .row (.slice (some ⟨gs, 0, none⟩) ((words l).length) ((words l).length)) 9 1 ((words l).length) (List.map S (words l)), .blk g1 (stepA ⟨0, 0, (fun _ => 0), 0, 0, 0, 0, 0, 0, 0, 0, 0⟩) 41] := hsAs H (by kernel_rfl)
    refine x_seq <| x_region <| x_b H [.m] <| x_nil <| x_then <| x_seq <| x_t (by kernel_rfl) ?_
    refine x_skipc <| x_then <| x_seq <| x_block <| x_seq <| x_region <| x_b H [.m, .m, .l 0 0, .m, .m] ?_
    refine x_nil <| x_then <| x_region <| x_b H [.m, .m, .m, .m] <| z_callB H (at_of (g := gs) (i := 1) (ws := words l) _ (roAs (H.ro1 [2]) rfl)) fun v10 H => z_call (Atoi_of (wAt (words l) 1) (Nat.le_trans (wAt_len l 1) (by omega)) ((hE.on hM H)).toEnv) ?_
    rintro _ v11 ⟨ev, rfl, hB'⟩
    refine ⟨_, rfl, ?_⟩
    replace H := H.via hB'
    clear hB'
    refine x_b H [.m, .m, .m, .m] <| z_store H 1 68 [.int .i64 (nV (words l) 0)] (fun v12 H => ?_)
    refine x_nil <| x_blk <| x_then <| x_region <| x_b H [.m, .m] <| x_nil <| x_then ?_
    replace H := H.pk [0, 1, 2, 3]
    replace H : Hs [] w0 _ [.blk nq1 #[.pointer (some ⟨g2, 68, none⟩), .pointer (some ⟨g2, 69, none⟩), .pointer (some ⟨g2, 70, none⟩), .pointer (some ⟨g2, 72, none⟩), .pointer (some ⟨g2, 74, none⟩)] 61, .blk g2 (stepA (([⟨8, 0, (fun _ => 0), 0, 3, 0, 0, 0, 0, 0, 0, 0⟩, ⟨8, 0, (fun _ => 0), 0, 3, (nV (words l) 0), 0, 0, 0, 0, 0, 0⟩, ⟨8, 0, (fun _ => 0), 0, 3, (nV (words l) 0), (nV (words l) 1), 0, 0, 0, 0, 0⟩, ⟨8, 0, (fun _ => 0), 0, 3, (nV (words l) 0), (nV (words l) 1), (nV (words l) 2), 0, 0, 0, 0⟩, ⟨8, 0, (fun _ => 0), 0, 3, (nV (words l) 0), (nV (words l) 1), (nV (words l) 2), 0, (nV (words l) 3), 0, 0⟩, ⟨8, 0, (fun _ => 0), 0, 3, (nV (words l) 0), (nV (words l) 1), (nV (words l) 2), 0, (nV (words l) 3), 0, (nV (words l) 4)⟩] : List Stp).getD 1 zeroS)) 41, .row (.slice (some ⟨gs, 0, none⟩) ((words l).length) ((words l).length)) 9 1 ((words l).length) (List.map S (words l)), .blk g1 (stepA ⟨0, 0, (fun _ => 0), 0, 0, 0, 0, 0, 0, 0, 0, 0⟩) 41] := hsAs H (by kernel_rfl)
    exact ⟨1, (by omega), _, frm_of, H, (by omega)⟩
  · skip
    replace H : Hs [] w0 _ [.blk nq1 #[.pointer (some ⟨g2, 68, none⟩), .pointer (some ⟨g2, 69, none⟩), .pointer (some ⟨g2, 70, none⟩), .pointer (some ⟨g2, 72, none⟩), .pointer (some ⟨g2, 74, none⟩)] 61, .blk g2 (stepA ⟨8, 0, (fun _ => 0), 0, 3, (nV (words l) 0), 0, 0, 0, 0, 0, 0⟩) 41, .row (.slice (some ⟨gs, 0, none⟩) ((words l).length) ((words l).length)) 9 1 ((words l).length) (List.map S (words l)), .blk g1 (stepA ⟨0, 0, (fun _ => 0), 0, 0, 0, 0, 0, 0, 0, 0, 0⟩) 41] := hsAs H (by kernel_rfl)
    refine x_seq <| x_region <| x_b H [.m] <| x_nil <| x_then <| x_seq <| x_t (by kernel_rfl) ?_
    refine x_skipc <| x_then <| x_seq <| x_block <| x_seq <| x_region <| x_b H [.m, .m, .l 0 1, .m, .m] ?_
    refine x_nil <| x_then <| x_region <| x_b H [.m, .m, .m, .m] <| z_callB H (at_of (g := gs) (i := 2) (ws := words l) _ (roAs (H.ro1 [2]) rfl)) fun v13 H => z_call (Atoi_of (wAt (words l) 2) (Nat.le_trans (wAt_len l 2) (by omega)) ((hE.on hM H)).toEnv) ?_
    rintro _ v14 ⟨ev, rfl, hB'⟩
    refine ⟨_, rfl, ?_⟩
    replace H := H.via hB'
    clear hB'
    refine x_b H [.m, .m, .m, .m] <| z_store H 1 69 [.int .i64 (nV (words l) 1)] (fun v15 H => ?_)
    refine x_nil <| x_blk <| x_then <| x_region <| x_b H [.m, .m] <| x_nil <| x_then ?_
    replace H := H.pk [0, 1, 2, 3]
    replace H : Hs [] w0 _ [.blk nq1 #[.pointer (some ⟨g2, 68, none⟩), .pointer (some ⟨g2, 69, none⟩), .pointer (some ⟨g2, 70, none⟩), .pointer (some ⟨g2, 72, none⟩), .pointer (some ⟨g2, 74, none⟩)] 61, .blk g2 (stepA (([⟨8, 0, (fun _ => 0), 0, 3, 0, 0, 0, 0, 0, 0, 0⟩, ⟨8, 0, (fun _ => 0), 0, 3, (nV (words l) 0), 0, 0, 0, 0, 0, 0⟩, ⟨8, 0, (fun _ => 0), 0, 3, (nV (words l) 0), (nV (words l) 1), 0, 0, 0, 0, 0⟩, ⟨8, 0, (fun _ => 0), 0, 3, (nV (words l) 0), (nV (words l) 1), (nV (words l) 2), 0, 0, 0, 0⟩, ⟨8, 0, (fun _ => 0), 0, 3, (nV (words l) 0), (nV (words l) 1), (nV (words l) 2), 0, (nV (words l) 3), 0, 0⟩, ⟨8, 0, (fun _ => 0), 0, 3, (nV (words l) 0), (nV (words l) 1), (nV (words l) 2), 0, (nV (words l) 3), 0, (nV (words l) 4)⟩] : List Stp).getD 2 zeroS)) 41, .row (.slice (some ⟨gs, 0, none⟩) ((words l).length) ((words l).length)) 9 1 ((words l).length) (List.map S (words l)), .blk g1 (stepA ⟨0, 0, (fun _ => 0), 0, 0, 0, 0, 0, 0, 0, 0, 0⟩) 41] := hsAs H (by kernel_rfl)
    exact ⟨2, (by omega), _, frm_of, H, (by omega)⟩
  · skip
    replace H : Hs [] w0 _ [.blk nq1 #[.pointer (some ⟨g2, 68, none⟩), .pointer (some ⟨g2, 69, none⟩), .pointer (some ⟨g2, 70, none⟩), .pointer (some ⟨g2, 72, none⟩), .pointer (some ⟨g2, 74, none⟩)] 61, .blk g2 (stepA ⟨8, 0, (fun _ => 0), 0, 3, (nV (words l) 0), (nV (words l) 1), 0, 0, 0, 0, 0⟩) 41, .row (.slice (some ⟨gs, 0, none⟩) ((words l).length) ((words l).length)) 9 1 ((words l).length) (List.map S (words l)), .blk g1 (stepA ⟨0, 0, (fun _ => 0), 0, 0, 0, 0, 0, 0, 0, 0, 0⟩) 41] := hsAs H (by kernel_rfl)
    refine x_seq <| x_region <| x_b H [.m] <| x_nil <| x_then <| x_seq <| x_t (by kernel_rfl) ?_
    refine x_skipc <| x_then <| x_seq <| x_block <| x_seq <| x_region <| x_b H [.m, .m, .l 0 2, .m, .m] ?_
    refine x_nil <| x_then <| x_region <| x_b H [.m, .m, .m, .m] <| z_callB H (at_of (g := gs) (i := 3) (ws := words l) _ (roAs (H.ro1 [2]) rfl)) fun v16 H => z_call (Atoi_of (wAt (words l) 3) (Nat.le_trans (wAt_len l 3) (by omega)) ((hE.on hM H)).toEnv) ?_
    rintro _ v17 ⟨ev, rfl, hB'⟩
    refine ⟨_, rfl, ?_⟩
    replace H := H.via hB'
    clear hB'
    refine x_b H [.m, .m, .m, .m] <| z_store H 1 70 [.int .i64 (nV (words l) 2)] (fun v18 H => ?_)
    refine x_nil <| x_blk <| x_then <| x_region <| x_b H [.m, .m] <| x_nil <| x_then ?_
    replace H := H.pk [0, 1, 2, 3]
    replace H : Hs [] w0 _ [.blk nq1 #[.pointer (some ⟨g2, 68, none⟩), .pointer (some ⟨g2, 69, none⟩), .pointer (some ⟨g2, 70, none⟩), .pointer (some ⟨g2, 72, none⟩), .pointer (some ⟨g2, 74, none⟩)] 61, .blk g2 (stepA (([⟨8, 0, (fun _ => 0), 0, 3, 0, 0, 0, 0, 0, 0, 0⟩, ⟨8, 0, (fun _ => 0), 0, 3, (nV (words l) 0), 0, 0, 0, 0, 0, 0⟩, ⟨8, 0, (fun _ => 0), 0, 3, (nV (words l) 0), (nV (words l) 1), 0, 0, 0, 0, 0⟩, ⟨8, 0, (fun _ => 0), 0, 3, (nV (words l) 0), (nV (words l) 1), (nV (words l) 2), 0, 0, 0, 0⟩, ⟨8, 0, (fun _ => 0), 0, 3, (nV (words l) 0), (nV (words l) 1), (nV (words l) 2), 0, (nV (words l) 3), 0, 0⟩, ⟨8, 0, (fun _ => 0), 0, 3, (nV (words l) 0), (nV (words l) 1), (nV (words l) 2), 0, (nV (words l) 3), 0, (nV (words l) 4)⟩] : List Stp).getD 3 zeroS)) 41, .row (.slice (some ⟨gs, 0, none⟩) ((words l).length) ((words l).length)) 9 1 ((words l).length) (List.map S (words l)), .blk g1 (stepA ⟨0, 0, (fun _ => 0), 0, 0, 0, 0, 0, 0, 0, 0, 0⟩) 41] := hsAs H (by kernel_rfl)
    exact ⟨3, (by omega), _, frm_of, H, (by omega)⟩
  · skip
    replace H : Hs [] w0 _ [.blk nq1 #[.pointer (some ⟨g2, 68, none⟩), .pointer (some ⟨g2, 69, none⟩), .pointer (some ⟨g2, 70, none⟩), .pointer (some ⟨g2, 72, none⟩), .pointer (some ⟨g2, 74, none⟩)] 61, .blk g2 (stepA ⟨8, 0, (fun _ => 0), 0, 3, (nV (words l) 0), (nV (words l) 1), (nV (words l) 2), 0, 0, 0, 0⟩) 41, .row (.slice (some ⟨gs, 0, none⟩) ((words l).length) ((words l).length)) 9 1 ((words l).length) (List.map S (words l)), .blk g1 (stepA ⟨0, 0, (fun _ => 0), 0, 0, 0, 0, 0, 0, 0, 0, 0⟩) 41] := hsAs H (by kernel_rfl)
    refine x_seq <| x_region <| x_b H [.m] <| x_nil <| x_then <| x_seq <| x_t (by kernel_rfl) ?_
    refine x_skipc <| x_then <| x_seq <| x_block <| x_seq <| x_region <| x_b H [.m, .m, .l 0 3, .m, .m] ?_
    refine x_nil <| x_then <| x_region <| x_b H [.m, .m, .m, .m] <| z_callB H (at_of (g := gs) (i := 4) (ws := words l) _ (roAs (H.ro1 [2]) rfl)) fun v19 H => z_call (Atoi_of (wAt (words l) 4) (Nat.le_trans (wAt_len l 4) (by omega)) ((hE.on hM H)).toEnv) ?_
    rintro _ v20 ⟨ev, rfl, hB'⟩
    refine ⟨_, rfl, ?_⟩
    replace H := H.via hB'
    clear hB'
    refine x_b H [.m, .m, .m, .m] <| z_store H 1 72 [.int .i64 (nV (words l) 3)] (fun v21 H => ?_)
    refine x_nil <| x_blk <| x_then <| x_region <| x_b H [.m, .m] <| x_nil <| x_then ?_
    replace H := H.pk [0, 1, 2, 3]
    replace H : Hs [] w0 _ [.blk nq1 #[.pointer (some ⟨g2, 68, none⟩), .pointer (some ⟨g2, 69, none⟩), .pointer (some ⟨g2, 70, none⟩), .pointer (some ⟨g2, 72, none⟩), .pointer (some ⟨g2, 74, none⟩)] 61, .blk g2 (stepA (([⟨8, 0, (fun _ => 0), 0, 3, 0, 0, 0, 0, 0, 0, 0⟩, ⟨8, 0, (fun _ => 0), 0, 3, (nV (words l) 0), 0, 0, 0, 0, 0, 0⟩, ⟨8, 0, (fun _ => 0), 0, 3, (nV (words l) 0), (nV (words l) 1), 0, 0, 0, 0, 0⟩, ⟨8, 0, (fun _ => 0), 0, 3, (nV (words l) 0), (nV (words l) 1), (nV (words l) 2), 0, 0, 0, 0⟩, ⟨8, 0, (fun _ => 0), 0, 3, (nV (words l) 0), (nV (words l) 1), (nV (words l) 2), 0, (nV (words l) 3), 0, 0⟩, ⟨8, 0, (fun _ => 0), 0, 3, (nV (words l) 0), (nV (words l) 1), (nV (words l) 2), 0, (nV (words l) 3), 0, (nV (words l) 4)⟩] : List Stp).getD 4 zeroS)) 41, .row (.slice (some ⟨gs, 0, none⟩) ((words l).length) ((words l).length)) 9 1 ((words l).length) (List.map S (words l)), .blk g1 (stepA ⟨0, 0, (fun _ => 0), 0, 0, 0, 0, 0, 0, 0, 0, 0⟩) 41] := hsAs H (by kernel_rfl)
    exact ⟨4, (by omega), _, frm_of, H, (by omega)⟩
  · skip
    replace H : Hs [] w0 _ [.blk nq1 #[.pointer (some ⟨g2, 68, none⟩), .pointer (some ⟨g2, 69, none⟩), .pointer (some ⟨g2, 70, none⟩), .pointer (some ⟨g2, 72, none⟩), .pointer (some ⟨g2, 74, none⟩)] 61, .blk g2 (stepA ⟨8, 0, (fun _ => 0), 0, 3, (nV (words l) 0), (nV (words l) 1), (nV (words l) 2), 0, (nV (words l) 3), 0, 0⟩) 41, .row (.slice (some ⟨gs, 0, none⟩) ((words l).length) ((words l).length)) 9 1 ((words l).length) (List.map S (words l)), .blk g1 (stepA ⟨0, 0, (fun _ => 0), 0, 0, 0, 0, 0, 0, 0, 0, 0⟩) 41] := hsAs H (by kernel_rfl)
    refine x_seq <| x_region <| x_b H [.m] <| x_nil <| x_then <| x_seq <| x_t (by kernel_rfl) ?_
    refine x_skipc <| x_then <| x_seq <| x_block <| x_seq <| x_region <| x_b H [.m, .m, .l 0 4, .m, .m] ?_
    refine x_nil <| x_then <| x_region <| x_b H [.m, .m, .m, .m] <| z_callB H (at_of (g := gs) (i := 5) (ws := words l) _ (roAs (H.ro1 [2]) rfl)) fun v22 H => z_call (Atoi_of (wAt (words l) 5) (Nat.le_trans (wAt_len l 5) (by omega)) ((hE.on hM H)).toEnv) ?_
    rintro _ v23 ⟨ev, rfl, hB'⟩
    refine ⟨_, rfl, ?_⟩
    replace H := H.via hB'
    clear hB'
    refine x_b H [.m, .m, .m, .m] <| z_store H 1 74 [.int .i64 (nV (words l) 4)] (fun v24 H => ?_)
    refine x_nil <| x_blk <| x_then <| x_region <| x_b H [.m, .m] <| x_nil <| x_then ?_
    replace H := H.pk [0, 1, 2, 3]
    replace H : Hs [] w0 _ [.blk nq1 #[.pointer (some ⟨g2, 68, none⟩), .pointer (some ⟨g2, 69, none⟩), .pointer (some ⟨g2, 70, none⟩), .pointer (some ⟨g2, 72, none⟩), .pointer (some ⟨g2, 74, none⟩)] 61, .blk g2 (stepA (([⟨8, 0, (fun _ => 0), 0, 3, 0, 0, 0, 0, 0, 0, 0⟩, ⟨8, 0, (fun _ => 0), 0, 3, (nV (words l) 0), 0, 0, 0, 0, 0, 0⟩, ⟨8, 0, (fun _ => 0), 0, 3, (nV (words l) 0), (nV (words l) 1), 0, 0, 0, 0, 0⟩, ⟨8, 0, (fun _ => 0), 0, 3, (nV (words l) 0), (nV (words l) 1), (nV (words l) 2), 0, 0, 0, 0⟩, ⟨8, 0, (fun _ => 0), 0, 3, (nV (words l) 0), (nV (words l) 1), (nV (words l) 2), 0, (nV (words l) 3), 0, 0⟩, ⟨8, 0, (fun _ => 0), 0, 3, (nV (words l) 0), (nV (words l) 1), (nV (words l) 2), 0, (nV (words l) 3), 0, (nV (words l) 4)⟩] : List Stp).getD 5 zeroS)) 41, .row (.slice (some ⟨gs, 0, none⟩) ((words l).length) ((words l).length)) 9 1 ((words l).length) (List.map S (words l)), .blk g1 (stepA ⟨0, 0, (fun _ => 0), 0, 0, 0, 0, 0, 0, 0, 0, 0⟩) 41] := hsAs H (by kernel_rfl)
    exact ⟨5, (by omega), _, frm_of, H, (by omega)⟩
  · skip
    replace H : Hs [] w0 _ [.blk nq1 #[.pointer (some ⟨g2, 68, none⟩), .pointer (some ⟨g2, 69, none⟩), .pointer (some ⟨g2, 70, none⟩), .pointer (some ⟨g2, 72, none⟩), .pointer (some ⟨g2, 74, none⟩)] 61, .blk g2 (stepA ⟨8, 0, (fun _ => 0), 0, 3, (nV (words l) 0), (nV (words l) 1), (nV (words l) 2), 0, (nV (words l) 3), 0, (nV (words l) 4)⟩) 41, .row (.slice (some ⟨gs, 0, none⟩) ((words l).length) ((words l).length)) 9 1 ((words l).length) (List.map S (words l)), .blk g1 (stepA ⟨0, 0, (fun _ => 0), 0, 0, 0, 0, 0, 0, 0, 0, 0⟩) 41] := hsAs H (by kernel_rfl)
    refine x_seq <| x_region <| x_b H [.m] <| x_nil <| x_then <| x_seq <| x_f (by kernel_rfl) ?_
    refine x_exit <| x_then_exit <| x_then_exit <| x_blk_exit <| x_then <| x_seq <| x_region ?_
    refine x_b H [.n 1 0 75 41] <| z_callB H (bare_of ⟨8, 0, (fun _ => 0), 0, 3, (nV (words l) 0), (nV (words l) 1), (nV (words l) 2), 0, (nV (words l) 3), 0, (nV (words l) 4)⟩ _) fun v25 H => z_store H 1 0 ((stepA ⟨8, 0, (fun _ => 0), 0, 3, (nV (words l) 0), (nV (words l) 1), (nV (words l) 2), 0, (nV (words l) 3), 0, (nV (words l) 4)⟩)).toList (fun v26 H => ?_)
    refine x_nil <| x_then <| x_seq <| x_seq <| x_region <| x_b H [.n 1 0 75 41] <| z_callB H (SShow_yes (x := (fillF 3 (words l))) (fillF_rng (by decide) _) (fillF_right (by decide) (by decide) _) _ (hE.on hM H)) fun v27 H => ?_
    refine x_b H [.m, .m, .m, .m, .m] <| x_nil <| x_then <| x_seq <| x_region <| x_b H [.m, .m, .m, .m, .m] <| x_eq (.bool (!(decide (txtS (fillF 3 (words l)) = l)))) (strNe (txtS (fillF 3 (words l))) l) (by kernel_rfl) rfl (by kernel_rfl) ?_
    refine x_b H [.v (.bool (!(decide (txtS (fillF 3 (words l)) = l))))] <| x_nil <| x_then ?_
    cases h1 : decide (txtS (fillF 3 (words l)) = l)
    · skip
      have h1p := of_decide_eq_false h1
      refine x_t (by kernel_rfl) <| x_seq <| x_region <| x_b H [.m] <| z_store H 3 0 ((stepA ⟨0, 0, (fun _ => 0), 0, 0, 0, 0, 0, 0, 0, 0, 0⟩)).toList (fun v28 H => ?_)
      refine x_b H [.m] <| x_nil <| x_then <| x_retc <| x_then_ret <| x_ret (.tuple #[.agg (stepA ⟨0, 0, (fun _ => 0), 0, 0, 0, 0, 0, 0, 0, 0, 0⟩), .int .i64 61]) (by kernel_rfl) (x_results [.cell 2 41, .tmp 3] [.agg (stepA ⟨0, 0, (fun _ => 0), 0, 0, 0, 0, 0, 0, 0, 0, 0⟩), .int .i64 61] _ rfl (AllR.cell (by kernel_rfl) (ldR H 3 g1 0 (stepA ⟨0, 0, (fun _ => 0), 0, 0, 0, 0, 0, 0, 0, 0, 0⟩) 41 (stepL ⟨0, 0, (fun _ => 0), 0, 0, 0, 0, 0, 0, 0, 0, 0⟩) (by kernel_rfl) (by kernel_rfl) (by kernel_rfl)) (AllR.tmp (by kernel_rfl) AllR.nil)) (by kernel_rfl)) ?_
      exact ⟨by rw [pres_no (of_decide_eq_false h1)]; rfl, H.below⟩
    have h1p := of_decide_eq_true h1
    refine x_f (by kernel_rfl) <| x_skipc <| x_then <| x_seq <| x_region <| x_b H [.n 1 0 75 41] <| z_store H 3 0 ((stepA ⟨8, 0, (fun _ => 0), 0, 3, (nV (words l) 0), (nV (words l) 1), (nV (words l) 2), 0, (nV (words l) 3), 0, (nV (words l) 4)⟩)).toList (fun v29 H => ?_)
    refine x_b H [.m] <| x_nil <| x_then <| x_retc <| x_ret (.tuple #[.agg (stepA ⟨8, 0, (fun _ => 0), 0, 3, (nV (words l) 0), (nV (words l) 1), (nV (words l) 2), 0, (nV (words l) 3), 0, (nV (words l) 4)⟩), .int .i64 0]) (by kernel_rfl) (x_results [.cell 2 41, .tmp 3] [.agg (stepA ⟨8, 0, (fun _ => 0), 0, 3, (nV (words l) 0), (nV (words l) 1), (nV (words l) 2), 0, (nV (words l) 3), 0, (nV (words l) 4)⟩), .int .i64 0] _ rfl (AllR.cell (by kernel_rfl) (ldR H 3 g1 0 (stepA ⟨8, 0, (fun _ => 0), 0, 3, (nV (words l) 0), (nV (words l) 1), (nV (words l) 2), 0, (nV (words l) 3), 0, (nV (words l) 4)⟩) 41 (stepL ⟨8, 0, (fun _ => 0), 0, 3, (nV (words l) 0), (nV (words l) 1), (nV (words l) 2), 0, (nV (words l) 3), 0, (nV (words l) 4)⟩) (by kernel_rfl) (by kernel_rfl) (by kernel_rfl)) (AllR.tmp (by kernel_rfl) AllR.nil)) (by kernel_rfl)) ?_
    exact ⟨by rw [pres_yes (of_decide_eq_true h1)]; rfl, H.below⟩
set_option maxRecDepth 100000 in
set_option maxHeartbeats 4000000 in
theorem Parse_f4 {l : List UInt8} (hl : l.length ≤ 100000) (hw : wIx ((words l).getD 0 []) = 0) (hf : fIx ((words l).getD 0 []) = 4) (w0 : World) (hE : EnvS w0) :
    Calls Tryd.prog 19 #[S l] w0 fun e w' => e = .returned (pres (fillF 4 (words l)) l) ∧ Below w0.heap.size w0 w' := by
  refine z_enter Tryd.func19 rfl ?_
  have H := Hs.nil w0
  have hM := nilM
  have hwp := words_pos l
  refine x_seq <| x_region <| z_box H (stepA ⟨0, 0, (fun _ => 0), 0, 0, 0, 0, 0, 0, 0, 0, 0⟩) 41 (fun v1 g1 H => ?_)
  refine x_b H [.m] <| x_nil <| x_then <| x_seq <| x_region <| x_b H [.m] <| z_call (Split_of l hl (hE.on hM H)) ?_
  rintro _ v2 ⟨gs, rfl, hN'⟩
  refine ⟨_, rfl, ?_⟩
  replace H := H.more hN'
  clear hN'
  refine x_b H [.m] <| x_nil <| x_then <| x_seq <| x_region <| z_box H (stepA ⟨0, 0, (fun _ => 0), 0, 0, 0, 0, 0, 0, 0, 0, 0⟩) 41 (fun v3 g2 H => ?_)
  refine x_nil <| x_then <| x_seq <| x_seq <| z_region_whole H <| q_b [.m, .m] <| q_ix (t := 60) gs 0 0 ((words l).length) ((words l).length) 9 1 0 (words_pos l) (by omega) (by kernel_rfl) (by kernel_rfl) (by kernel_rfl) (fun _ => by kernel_rfl) ?_
  refine q_loadc gs 0 (S ((words l).getD 0 ([] : List UInt8))) (fun _ H => H.rowCell 1 rfl 0 (mapAt ([] : List UInt8) (by omega))) (by kernel_rfl) (fun _ => by kernel_rfl) <| q_callR (.int .i64 (-1)) (by kernel_rfl) (fun _ => by kernel_rfl) (fun _ H => (WIx_v hw (hE.on hM H))) <| q_b [.m] <| q_nil ?_
  clear H
  intro v4 H
  refine x_then <| x_seq <| x_region <| x_b H [.m, .m] <| x_nil <| x_then <| x_f (by kernel_rfl) ?_
  refine x_skipc <| x_then <| x_seq <| x_seq <| z_region_whole H <| q_b [.m, .m] <| q_ix (t := 60) gs 0 0 ((words l).length) ((words l).length) 9 1 0 (words_pos l) (by omega) (by kernel_rfl) (by kernel_rfl) (by kernel_rfl) (fun _ => by kernel_rfl) ?_
  refine q_loadc gs 0 (S ((words l).getD 0 ([] : List UInt8))) (fun _ H => H.rowCell 1 rfl 0 (mapAt ([] : List UInt8) (by omega))) (by kernel_rfl) (fun _ => by kernel_rfl) <| q_callR (.int .i64 3) (by kernel_rfl) (fun _ => by kernel_rfl) (fun _ H => (FIx_v hf (hE.on hM H))) <| q_b [.m] <| q_nil ?_
  clear H
  intro v5 H
  refine x_then <| x_seq <| x_region <| x_b H [.m, .m] <| x_nil <| x_then <| x_t (by kernel_rfl) ?_
  refine x_seq <| x_region <| x_b H [.m] <| z_store H 0 0 [.int .i64 8] (fun v6 H => ?_)
  refine x_nil <| x_then <| x_seq <| x_region <| x_b H [.m, .m, .m, .m] <| z_store H 0 67 [.int .i64 4] (fun v7 H => ?_)
  refine x_nil <| x_then <| x_seq <| x_region <| x_b H [.m] <| z_call (numbers_4 (g := g2) (sk := 8) (sl := 0) (sd := (fun _ => 0)) (sm := 0) (rk := 0) (bk := 0) (ro := 0) (co := 0) (ch := 0) (bi := 0) (va := 0) _ (roAs (H.ro1 [0]) (by kernel_rfl))) ?_
  rintro _ v8 ⟨nq1, rfl, hN'⟩
  refine ⟨_, rfl, ?_⟩
  replace H := H.more hN'
  clear hN'
  refine x_b H [.m, .m] <| x_nil <| x_then <| x_block <| x_loop (G := Nat) (fun (c : Nat) a w' => ∃ uf1 : Nat → Value, a = frm 92 uf1 [(0, S l), (2, .pointer (some ⟨g1, 0, none⟩)), (4, .slice (some ⟨gs, 0, none⟩) ((words l).length) ((words l).length)), (5, .pointer (some ⟨g2, 0, none⟩)), (58, .slice (some ⟨nq1, 0, none⟩) 5 5), (59, .int .i64 5), (60, .int .i64 (c : Int))] [] ∧ Hs [] w0 w' [.blk nq1 #[.pointer (some ⟨g2, 68, none⟩), .pointer (some ⟨g2, 69, none⟩), .pointer (some ⟨g2, 71, none⟩), .pointer (some ⟨g2, 72, none⟩), .pointer (some ⟨g2, 74, none⟩)] 61, .blk g2 (stepA (([⟨8, 0, (fun _ => 0), 0, 4, 0, 0, 0, 0, 0, 0, 0⟩, ⟨8, 0, (fun _ => 0), 0, 4, (nV (words l) 0), 0, 0, 0, 0, 0, 0⟩, ⟨8, 0, (fun _ => 0), 0, 4, (nV (words l) 0), (nV (words l) 1), 0, 0, 0, 0, 0⟩, ⟨8, 0, (fun _ => 0), 0, 4, (nV (words l) 0), (nV (words l) 1), 0, (nV (words l) 2), 0, 0, 0⟩, ⟨8, 0, (fun _ => 0), 0, 4, (nV (words l) 0), (nV (words l) 1), 0, (nV (words l) 2), (nV (words l) 3), 0, 0⟩, ⟨8, 0, (fun _ => 0), 0, 4, (nV (words l) 0), (nV (words l) 1), 0, (nV (words l) 2), (nV (words l) 3), 0, (nV (words l) 4)⟩] : List Stp).getD c zeroS)) 41, .row (.slice (some ⟨gs, 0, none⟩) ((words l).length) ((words l).length)) 9 1 ((words l).length) (List.map S (words l)), .blk g1 (stepA ⟨0, 0, (fun _ => 0), 0, 0, 0, 0, 0, 0, 0, 0, 0⟩) 41] ∧ (c ≤ 5)) (fun (c : Nat) => 5 - c) 0 ⟨_, frm_of, H, (Nat.zero_le _)⟩ ?_
  clear H
  rintro c _ v9 ⟨uf1, rfl, H, r1⟩
  rcases (show c = 0 ∨ c = 1 ∨ c = 2 ∨ c = 3 ∨ c = 4 ∨ c = 5 by omega) with rfl | rfl | rfl | rfl | rfl | rfl
  · skip
    replace H : Hs [] w0 _ [.blk nq1 #[.pointer (some ⟨g2, 68, none⟩), .pointer (some ⟨g2, 69, none⟩), .pointer (some ⟨g2, 71, none⟩), .pointer (some ⟨g2, 72, none⟩), .pointer (some ⟨g2, 74, none⟩)] 61, .blk g2 (stepA ⟨8, 0, (fun _ => 0), 0, 4, 0, 0, 0, 0, 0, 0, 0⟩) 41, .row (.slice (some ⟨gs, 0, none⟩) ((words l).length) ((words l).length)) 9 1 ((words l).length) (List.map S (words l)), .blk g1 (stepA ⟨0, 0, (fun _ => 0), 0, 0, 0, 0, 0, 0, 0, 0, 0⟩) 41] := hsAs H (by kernel_rfl)
    refine x_seq <| x_region <| x_b H [.m] <| x_nil <| x_then <| x_seq <| x_t (by kernel_rfl) ?_
    refine x_skipc <| x_then <| x_seq <| x_block <| x_seq <| x_region <| x_b H [.m, .m, .l 0 0, .m, .m] ?_
    refine x_nil <| x_then <| x_region <| x_b H [.m, .m, .m, .m] <| z_callB H (at_of (g := gs) (i := 1) (ws := words l) _ (roAs (H.ro1 [2]) rfl)) fun v10 H => z_call (Atoi_of (wAt (words l) 1) (Nat.le_trans (wAt_len l 1) (by omega)) ((hE.on hM H)).toEnv) ?_
    rintro _ v11 ⟨ev, rfl, hB'⟩
    refine ⟨_, rfl, ?_⟩
    replace H := H.via hB'
    clear hB'
    refine x_b H [.m, .m, .m, .m] <| z_store H 1 68 [.int .i64 (nV (words l) 0)] (fun v12 H => ?_)
    refine x_nil <| x_blk <| x_then <| x_region <| x_b H [.m, .m] <| x_nil <| x_then ?_
    replace H := H.pk [0, 1, 2, 3]
    replace H : Hs [] w0 _ [.blk nq1 #[.pointer (some ⟨g2, 68, none⟩), .pointer (some ⟨g2, 69, none⟩), .pointer (some ⟨g2, 71, none⟩), .pointer (some ⟨g2, 72, none⟩), .pointer (some ⟨g2, 74, none⟩)] 61, .blk g2 (stepA (([⟨8, 0, (fun _ => 0), 0, 4, 0, 0, 0, 0, 0, 0, 0⟩, ⟨8, 0, (fun _ => 0), 0, 4, (nV (words l) 0), 0, 0, 0, 0, 0, 0⟩, ⟨8, 0, (fun _ => 0), 0, 4, (nV (words l) 0), (nV (words l) 1), 0, 0, 0, 0, 0⟩, ⟨8, 0, (fun _ => 0), 0, 4, (nV (words l) 0), (nV (words l) 1), 0, (nV (words l) 2), 0, 0, 0⟩, ⟨8, 0, (fun _ => 0), 0, 4, (nV (words l) 0), (nV (words l) 1), 0, (nV (words l) 2), (nV (words l) 3), 0, 0⟩, ⟨8, 0, (fun _ => 0), 0, 4, (nV (words l) 0), (nV (words l) 1), 0, (nV (words l) 2), (nV (words l) 3), 0, (nV (words l) 4)⟩] : List Stp).getD 1 zeroS)) 41, .row (.slice (some ⟨gs, 0, none⟩) ((words l).length) ((words l).length)) 9 1 ((words l).length) (List.map S (words l)), .blk g1 (stepA ⟨0, 0, (fun _ => 0), 0, 0, 0, 0, 0, 0, 0, 0, 0⟩) 41] := hsAs H (by kernel_rfl)
    exact ⟨1, (by omega), _, frm_of, H, (by omega)⟩
  · skip
    replace H : Hs [] w0 _ [.blk nq1 #[.pointer (some ⟨g2, 68, none⟩), .pointer (some ⟨g2, 69, none⟩), .pointer (some ⟨g2, 71, none⟩), .pointer (some ⟨g2, 72, none⟩), .pointer (some ⟨g2, 74, none⟩)] 61, .blk g2 (stepA ⟨8, 0, (fun _ => 0), 0, 4, (nV (words l) 0), 0, 0, 0, 0, 0, 0⟩) 41, .row (.slice (some ⟨gs, 0, none⟩) ((words l).length) ((words l).length)) 9 1 ((words l).length) (List.map S (words l)), .blk g1 (stepA ⟨0, 0, (fun _ => 0), 0, 0, 0, 0, 0, 0, 0, 0, 0⟩) 41] := hsAs H (by kernel_rfl)
    refine x_seq <| x_region <| x_b H [.m] <| x_nil <| x_then <| x_seq <| x_t (by kernel_rfl) ?_
    refine x_skipc <| x_then <| x_seq <| x_block <| x_seq <| x_region <| x_b H [.m, .m, .l 0 1, .m, .m] ?_
    refine x_nil <| x_then <| x_region <| x_b H [.m, .m, .m, .m] <| z_callB H (at_of (g := gs) (i := 2) (ws := words l) _ (roAs (H.ro1 [2]) rfl)) fun v13 H => z_call (Atoi_of (wAt (words l) 2) (Nat.le_trans (wAt_len l 2) (by omega)) ((hE.on hM H)).toEnv) ?_
    rintro _ v14 ⟨ev, rfl, hB'⟩
    refine ⟨_, rfl, ?_⟩
    replace H := H.via hB'
    clear hB'
    refine x_b H [.m, .m, .m, .m] <| z_store H 1 69 [.int .i64 (nV (words l) 1)] (fun v15 H => ?_)
    refine x_nil <| x_blk <| x_then <| x_region <| x_b H [.m, .m] <| x_nil <| x_then ?_
    replace H := H.pk [0, 1, 2, 3]
    replace H : Hs [] w0 _ [.blk nq1 #[.pointer (some ⟨g2, 68, none⟩), .pointer (some ⟨g2, 69, none⟩), .pointer (some ⟨g2, 71, none⟩), .pointer (some ⟨g2, 72, none⟩), .pointer (some ⟨g2, 74, none⟩)] 61, .blk g2 (stepA (([⟨8, 0, (fun _ => 0), 0, 4, 0, 0, 0, 0, 0, 0, 0⟩, ⟨8, 0, (fun _ => 0), 0, 4, (nV (words l) 0), 0, 0, 0, 0, 0, 0⟩, ⟨8, 0, (fun _ => 0), 0, 4, (nV (words l) 0), (nV (words l) 1), 0, 0, 0, 0, 0⟩, ⟨8, 0, (fun _ => 0), 0, 4, (nV (words l) 0), (nV (words l) 1), 0, (nV (words l) 2), 0, 0, 0⟩, ⟨8, 0, (fun _ => 0), 0, 4, (nV (words l) 0), (nV (words l) 1), 0, (nV (words l) 2), (nV (words l) 3), 0, 0⟩, ⟨8, 0, (fun _ => 0), 0, 4, (nV (words l) 0), (nV (words l) 1), 0, (nV (words l) 2), (nV (words l) 3), 0, (nV (words l) 4)⟩] : List Stp).getD 2 zeroS)) 41, .row (.slice (some ⟨gs, 0, none⟩) ((words l).length) ((words l).length)) 9 1 ((words l).length) (List.map S (words l)), .blk g1 (stepA ⟨0, 0, (fun _ => 0), 0, 0, 0, 0, 0, 0, 0, 0, 0⟩) 41] := hsAs H (by kernel_rfl)
    exact ⟨2, (by omega), _, frm_of, H, (by omega)⟩
  · skip
    replace H : Hs [] w0 _ [.blk nq1 #[.pointer (some ⟨g2, 68, none⟩), .pointer (some ⟨g2, 69, none⟩), .pointer (some ⟨g2, 71, none⟩), .pointer (some ⟨g2, 72, none⟩), .pointer (some ⟨g2, 74, none⟩)] 61, .blk g2 (stepA ⟨8, 0, (fun _ => 0), 0, 4, (nV (words l) 0), (nV (words l) 1), 0, 0, 0, 0, 0⟩) 41, .row (.slice (some ⟨gs, 0, none⟩) ((words l).length) ((words l).length)) 9 1 ((words l).length) (List.map S (words l)), .blk g1 (stepA ⟨0, 0, (fun _ => 0), 0, 0, 0, 0, 0, 0, 0, 0, 0⟩) 41] := hsAs H (by kernel_rfl)
    refine x_seq <| x_region <| x_b H [.m] <| x_nil <| x_then <| x_seq <| x_t (by kernel_rfl) ?_
    refine x_skipc <| x_then <| x_seq <| x_block <| x_seq <| x_region <| x_b H [.m, .m, .l 0 2, .m, .m] ?_
    refine x_nil <| x_then <| x_region <| x_b H [.m, .m, .m, .m] <| z_callB H (at_of (g := gs) (i := 3) (ws := words l) _ (roAs (H.ro1 [2]) rfl)) fun v16 H => z_call (Atoi_of (wAt (words l) 3) (Nat.le_trans (wAt_len l 3) (by omega)) ((hE.on hM H)).toEnv) ?_
    rintro _ v17 ⟨ev, rfl, hB'⟩
    refine ⟨_, rfl, ?_⟩
    replace H := H.via hB'
    clear hB'
    refine x_b H [.m, .m, .m, .m] <| z_store H 1 71 [.int .i64 (nV (words l) 2)] (fun v18 H => ?_)
    refine x_nil <| x_blk <| x_then <| x_region <| x_b H [.m, .m] <| x_nil <| x_then ?_
    replace H := H.pk [0, 1, 2, 3]
    replace H : Hs [] w0 _ [.blk nq1 #[.pointer (some ⟨g2, 68, none⟩), .pointer (some ⟨g2, 69, none⟩), .pointer (some ⟨g2, 71, none⟩), .pointer (some ⟨g2, 72, none⟩), .pointer (some ⟨g2, 74, none⟩)] 61, .blk g2 (stepA (([⟨8, 0, (fun _ => 0), 0, 4, 0, 0, 0, 0, 0, 0, 0⟩, ⟨8, 0, (fun _ => 0), 0, 4, (nV (words l) 0), 0, 0, 0, 0, 0, 0⟩, ⟨8, 0, (fun _ => 0), 0, 4, (nV (words l) 0), (nV (words l) 1), 0, 0, 0, 0, 0⟩, ⟨8, 0, (fun _ => 0), 0, 4, (nV (words l) 0), (nV (words l) 1), 0, (nV (words l) 2), 0, 0, 0⟩, ⟨8, 0, (fun _ => 0), 0, 4, (nV (words l) 0), (nV (words l) 1), 0, (nV (words l) 2), (nV (words l) 3), 0, 0⟩, ⟨8, 0, (fun _ => 0), 0, 4, (nV (words l) 0), (nV (words l) 1), 0, (nV (words l) 2), (nV (words l) 3), 0, (nV (words l) 4)⟩] : List Stp).getD 3 zeroS)) 41, .row (.slice (some ⟨gs, 0, none⟩) ((words l).length) ((words l).length)) 9 1 ((words l).length) (List.map S (words l)), .blk g1 (stepA ⟨0, 0, (fun _ => 0), 0, 0, 0, 0, 0, 0, 0, 0, 0⟩) 41] := hsAs H (by kernel_rfl)
    exact ⟨3, (by omega), _, frm_of, H, (by omega)⟩
  · skip
    replace H : Hs [] w0 _ [.blk nq1 #[.pointer (some ⟨g2, 68, none⟩), .pointer (some ⟨g2, 69, none⟩), .pointer (some ⟨g2, 71, none⟩), .pointer (some ⟨g2, 72, none⟩), .pointer (some ⟨g2, 74, none⟩)] 61, .blk g2 (stepA ⟨8, 0, (fun _ => 0), 0, 4, (nV (words l) 0), (nV (words l) 1), 0, (nV (words l) 2), 0, 0, 0⟩) 41, .row (.slice (some ⟨gs, 0, none⟩) ((words l).length) ((words l).length)) 9 1 ((words l).length) (List.map S (words l)), .blk g1 (stepA ⟨0, 0, (fun _ => 0), 0, 0, 0, 0, 0, 0, 0, 0, 0⟩) 41] := hsAs H (by kernel_rfl)
    refine x_seq <| x_region <| x_b H [.m] <| x_nil <| x_then <| x_seq <| x_t (by kernel_rfl) ?_
    refine x_skipc <| x_then <| x_seq <| x_block <| x_seq <| x_region <| x_b H [.m, .m, .l 0 3, .m, .m] ?_
    refine x_nil <| x_then <| x_region <| x_b H [.m, .m, .m, .m] <| z_callB H (at_of (g := gs) (i := 4) (ws := words l) _ (roAs (H.ro1 [2]) rfl)) fun v19 H => z_call (Atoi_of (wAt (words l) 4) (Nat.le_trans (wAt_len l 4) (by omega)) ((hE.on hM H)).toEnv) ?_
    rintro _ v20 ⟨ev, rfl, hB'⟩
    refine ⟨_, rfl, ?_⟩
    replace H := H.via hB'
    clear hB'
    refine x_b H [.m, .m, .m, .m] <| z_store H 1 72 [.int .i64 (nV (words l) 3)] (fun v21 H => ?_)
    refine x_nil <| x_blk <| x_then <| x_region <| x_b H [.m, .m] <| x_nil <| x_then ?_
    replace H := H.pk [0, 1, 2, 3]
    replace H : Hs [] w0 _ [.blk nq1 #[.pointer (some ⟨g2, 68, none⟩), .pointer (some ⟨g2, 69, none⟩), .pointer (some ⟨g2, 71, none⟩), .pointer (some ⟨g2, 72, none⟩), .pointer (some ⟨g2, 74, none⟩)] 61, .blk g2 (stepA (([⟨8, 0, (fun _ => 0), 0, 4, 0, 0, 0, 0, 0, 0, 0⟩, ⟨8, 0, (fun _ => 0), 0, 4, (nV (words l) 0), 0, 0, 0, 0, 0, 0⟩, ⟨8, 0, (fun _ => 0), 0, 4, (nV (words l) 0), (nV (words l) 1), 0, 0, 0, 0, 0⟩, ⟨8, 0, (fun _ => 0), 0, 4, (nV (words l) 0), (nV (words l) 1), 0, (nV (words l) 2), 0, 0, 0⟩, ⟨8, 0, (fun _ => 0), 0, 4, (nV (words l) 0), (nV (words l) 1), 0, (nV (words l) 2), (nV (words l) 3), 0, 0⟩, ⟨8, 0, (fun _ => 0), 0, 4, (nV (words l) 0), (nV (words l) 1), 0, (nV (words l) 2), (nV (words l) 3), 0, (nV (words l) 4)⟩] : List Stp).getD 4 zeroS)) 41, .row (.slice (some ⟨gs, 0, none⟩) ((words l).length) ((words l).length)) 9 1 ((words l).length) (List.map S (words l)), .blk g1 (stepA ⟨0, 0, (fun _ => 0), 0, 0, 0, 0, 0, 0, 0, 0, 0⟩) 41] := hsAs H (by kernel_rfl)
    exact ⟨4, (by omega), _, frm_of, H, (by omega)⟩
  · skip
    replace H : Hs [] w0 _ [.blk nq1 #[.pointer (some ⟨g2, 68, none⟩), .pointer (some ⟨g2, 69, none⟩), .pointer (some ⟨g2, 71, none⟩), .pointer (some ⟨g2, 72, none⟩), .pointer (some ⟨g2, 74, none⟩)] 61, .blk g2 (stepA ⟨8, 0, (fun _ => 0), 0, 4, (nV (words l) 0), (nV (words l) 1), 0, (nV (words l) 2), (nV (words l) 3), 0, 0⟩) 41, .row (.slice (some ⟨gs, 0, none⟩) ((words l).length) ((words l).length)) 9 1 ((words l).length) (List.map S (words l)), .blk g1 (stepA ⟨0, 0, (fun _ => 0), 0, 0, 0, 0, 0, 0, 0, 0, 0⟩) 41] := hsAs H (by kernel_rfl)
    refine x_seq <| x_region <| x_b H [.m] <| x_nil <| x_then <| x_seq <| x_t (by kernel_rfl) ?_
    refine x_skipc <| x_then <| x_seq <| x_block <| x_seq <| x_region <| x_b H [.m, .m, .l 0 4, .m, .m] ?_
    refine x_nil <| x_then <| x_region <| x_b H [.m, .m, .m, .m] <| z_callB H (at_of (g := gs) (i := 5) (ws := words l) _ (roAs (H.ro1 [2]) rfl)) fun v22 H => z_call (Atoi_of (wAt (words l) 5) (Nat.le_trans (wAt_len l 5) (by omega)) ((hE.on hM H)).toEnv) ?_
    rintro _ v23 ⟨ev, rfl, hB'⟩
    refine ⟨_, rfl, ?_⟩
    replace H := H.via hB'
    clear hB'
    refine x_b H [.m, .m, .m, .m] <| z_store H 1 74 [.int .i64 (nV (words l) 4)] (fun v24 H => ?_)
    refine x_nil <| x_blk <| x_then <| x_region <| x_b H [.m, .m] <| x_nil <| x_then ?_
    replace H := H.pk [0, 1, 2, 3]
    replace H : Hs [] w0 _ [.blk nq1 #[.pointer (some ⟨g2, 68, none⟩), .pointer (some ⟨g2, 69, none⟩), .pointer (some ⟨g2, 71, none⟩), .pointer (some ⟨g2, 72, none⟩), .pointer (some ⟨g2, 74, none⟩)] 61, .blk g2 (stepA (([⟨8, 0, (fun _ => 0), 0, 4, 0, 0, 0, 0, 0, 0, 0⟩, ⟨8, 0, (fun _ => 0), 0, 4, (nV (words l) 0), 0, 0, 0, 0, 0, 0⟩, ⟨8, 0, (fun _ => 0), 0, 4, (nV (words l) 0), (nV (words l) 1), 0, 0, 0, 0, 0⟩, ⟨8, 0, (fun _ => 0), 0, 4, (nV (words l) 0), (nV (words l) 1), 0, (nV (words l) 2), 0, 0, 0⟩, ⟨8, 0, (fun _ => 0), 0, 4, (nV (words l) 0), (nV (words l) 1), 0, (nV (words l) 2), (nV (words l) 3), 0, 0⟩, ⟨8, 0, (fun _ => 0), 0, 4, (nV (words l) 0), (nV (words l) 1), 0, (nV (words l) 2), (nV (words l) 3), 0, (nV (words l) 4)⟩] : List Stp).getD 5 zeroS)) 41, .row (.slice (some ⟨gs, 0, none⟩) ((words l).length) ((words l).length)) 9 1 ((words l).length) (List.map S (words l)), .blk g1 (stepA ⟨0, 0, (fun _ => 0), 0, 0, 0, 0, 0, 0, 0, 0, 0⟩) 41] := hsAs H (by kernel_rfl)
    exact ⟨5, (by omega), _, frm_of, H, (by omega)⟩
  · skip
    replace H : Hs [] w0 _ [.blk nq1 #[.pointer (some ⟨g2, 68, none⟩), .pointer (some ⟨g2, 69, none⟩), .pointer (some ⟨g2, 71, none⟩), .pointer (some ⟨g2, 72, none⟩), .pointer (some ⟨g2, 74, none⟩)] 61, .blk g2 (stepA ⟨8, 0, (fun _ => 0), 0, 4, (nV (words l) 0), (nV (words l) 1), 0, (nV (words l) 2), (nV (words l) 3), 0, (nV (words l) 4)⟩) 41, .row (.slice (some ⟨gs, 0, none⟩) ((words l).length) ((words l).length)) 9 1 ((words l).length) (List.map S (words l)), .blk g1 (stepA ⟨0, 0, (fun _ => 0), 0, 0, 0, 0, 0, 0, 0, 0, 0⟩) 41] := hsAs H (by kernel_rfl)
    refine x_seq <| x_region <| x_b H [.m] <| x_nil <| x_then <| x_seq <| x_f (by kernel_rfl) ?_
    refine x_exit <| x_then_exit <| x_then_exit <| x_blk_exit <| x_then <| x_seq <| x_region ?_
    refine x_b H [.n 1 0 75 41] <| z_callB H (bare_of ⟨8, 0, (fun _ => 0), 0, 4, (nV (words l) 0), (nV (words l) 1), 0, (nV (words l) 2), (nV (words l) 3), 0, (nV (words l) 4)⟩ _) fun v25 H => z_store H 1 0 ((stepA ⟨8, 0, (fun _ => 0), 0, 4, (nV (words l) 0), (nV (words l) 1), 0, (nV (words l) 2), (nV (words l) 3), 0, (nV (words l) 4)⟩)).toList (fun v26 H => ?_)
    refine x_nil <| x_then <| x_seq <| x_seq <| x_region <| x_b H [.n 1 0 75 41] <| z_callB H (SShow_yes (x := (fillF 4 (words l))) (fillF_rng (by decide) _) (fillF_right (by decide) (by decide) _) _ (hE.on hM H)) fun v27 H => ?_
    refine x_b H [.m, .m, .m, .m, .m] <| x_nil <| x_then <| x_seq <| x_region <| x_b H [.m, .m, .m, .m, .m] <| x_eq (.bool (!(decide (txtS (fillF 4 (words l)) = l)))) (strNe (txtS (fillF 4 (words l))) l) (by kernel_rfl) rfl (by kernel_rfl) ?_
    refine x_b H [.v (.bool (!(decide (txtS (fillF 4 (words l)) = l))))] <| x_nil <| x_then ?_
    cases h1 : decide (txtS (fillF 4 (words l)) = l)
    · skip
      have h1p := of_decide_eq_false h1
      refine x_t (by kernel_rfl) <| x_seq <| x_region <| x_b H [.m] <| z_store H 3 0 ((stepA ⟨0, 0, (fun _ => 0), 0, 0, 0, 0, 0, 0, 0, 0, 0⟩)).toList (fun v28 H => ?_)
      refine x_b H [.m] <| x_nil <| x_then <| x_retc <| x_then_ret <| x_ret (.tuple #[.agg (stepA ⟨0, 0, (fun _ => 0), 0, 0, 0, 0, 0, 0, 0, 0, 0⟩), .int .i64 61]) (by kernel_rfl) (x_results [.cell 2 41, .tmp 3] [.agg (stepA ⟨0, 0, (fun _ => 0), 0, 0, 0, 0, 0, 0, 0, 0, 0⟩), .int .i64 61] _ rfl (AllR.cell (by kernel_rfl) (ldR H 3 g1 0 (stepA ⟨0, 0, (fun _ => 0), 0, 0, 0, 0, 0, 0, 0, 0, 0⟩) 41 (stepL ⟨0, 0, (fun _ => 0), 0, 0, 0, 0, 0, 0, 0, 0, 0⟩) (by kernel_rfl) (by kernel_rfl) (by kernel_rfl)) (AllR.tmp (by kernel_rfl) AllR.nil)) (by kernel_rfl)) ?_
      exact ⟨by rw [pres_no (of_decide_eq_false h1)]; rfl, H.below⟩
    have h1p := of_decide_eq_true h1
    refine x_f (by kernel_rfl) <| x_skipc <| x_then <| x_seq <| x_region <| x_b H [.n 1 0 75 41] <| z_store H 3 0 ((stepA ⟨8, 0, (fun _ => 0), 0, 4, (nV (words l) 0), (nV (words l) 1), 0, (nV (words l) 2), (nV (words l) 3), 0, (nV (words l) 4)⟩)).toList (fun v29 H => ?_)
    refine x_b H [.m] <| x_nil <| x_then <| x_retc <| x_ret (.tuple #[.agg (stepA ⟨8, 0, (fun _ => 0), 0, 4, (nV (words l) 0), (nV (words l) 1), 0, (nV (words l) 2), (nV (words l) 3), 0, (nV (words l) 4)⟩), .int .i64 0]) (by kernel_rfl) (x_results [.cell 2 41, .tmp 3] [.agg (stepA ⟨8, 0, (fun _ => 0), 0, 4, (nV (words l) 0), (nV (words l) 1), 0, (nV (words l) 2), (nV (words l) 3), 0, (nV (words l) 4)⟩), .int .i64 0] _ rfl (AllR.cell (by kernel_rfl) (ldR H 3 g1 0 (stepA ⟨8, 0, (fun _ => 0), 0, 4, (nV (words l) 0), (nV (words l) 1), 0, (nV (words l) 2), (nV (words l) 3), 0, (nV (words l) 4)⟩) 41 (stepL ⟨8, 0, (fun _ => 0), 0, 4, (nV (words l) 0), (nV (words l) 1), 0, (nV (words l) 2), (nV (words l) 3), 0, (nV (words l) 4)⟩) (by kernel_rfl) (by kernel_rfl) (by kernel_rfl)) (AllR.tmp (by kernel_rfl) AllR.nil)) (by kernel_rfl)) ?_
    exact ⟨by rw [pres_yes (of_decide_eq_true h1)]; rfl, H.below⟩
set_option maxRecDepth 100000 in
set_option maxHeartbeats 4000000 in
theorem Parse_f5 {l : List UInt8} (hl : l.length ≤ 100000) (hw : wIx ((words l).getD 0 []) = 0) (hf : fIx ((words l).getD 0 []) = 5) (w0 : World) (hE : EnvS w0) :
    Calls Tryd.prog 19 #[S l] w0 fun e w' => e = .returned (pres (fillF 5 (words l)) l) ∧ Below w0.heap.size w0 w' := by
  refine z_enter Tryd.func19 rfl ?_
  have H := Hs.nil w0
  have hM := nilM
  have hwp := words_pos l
  refine x_seq <| x_region <| z_box H (stepA ⟨0, 0, (fun _ => 0), 0, 0, 0, 0, 0, 0, 0, 0, 0⟩) 41 (fun v1 g1 H => ?_)
  refine x_b H [.m] <| x_nil <| x_then <| x_seq <| x_region <| x_b H [.m] <| z_call (Split_of l hl (hE.on hM H)) ?_
  rintro _ v2 ⟨gs, rfl, hN'⟩
  refine ⟨_, rfl, ?_⟩
  replace H := H.more hN'
  clear hN'
  refine x_b H [.m] <| x_nil <| x_then <| x_seq <| x_region <| z_box H (stepA ⟨0, 0, (fun _ => 0), 0, 0, 0, 0, 0, 0, 0, 0, 0⟩) 41 (fun v3 g2 H => ?_)
  refine x_nil <| x_then <| x_seq <| x_seq <| z_region_whole H <| q_b [.m, .m] <| q_ix (t := 60) gs 0 0 ((words l).length) ((words l).length) 9 1 0 (words_pos l) (by omega) (by kernel_rfl) (by kernel_rfl) (by kernel_rfl) (fun _ => by kernel_rfl) ?_
  refine q_loadc gs 0 (S ((words l).getD 0 ([] : List UInt8))) (fun _ H => H.rowCell 1 rfl 0 (mapAt ([] : List UInt8) (by omega))) (by kernel_rfl) (fun _ => by kernel_rfl) <| q_callR (.int .i64 (-1)) (by kernel_rfl) (fun _ => by kernel_rfl) (fun _ H => (WIx_v hw (hE.on hM H))) <| q_b [.m] <| q_nil ?_
  clear H
  intro v4 H
  refine x_then <| x_seq <| x_region <| x_b H [.m, .m] <| x_nil <| x_then <| x_f (by kernel_rfl) ?_
  refine x_skipc <| x_then <| x_seq <| x_seq <| z_region_whole H <| q_b [.m, .m] <| q_ix (t := 60) gs 0 0 ((words l).length) ((words l).length) 9 1 0 (words_pos l) (by omega) (by kernel_rfl) (by kernel_rfl) (by kernel_rfl) (fun _ => by kernel_rfl) ?_
  refine q_loadc gs 0 (S ((words l).getD 0 ([] : List UInt8))) (fun _ H => H.rowCell 1 rfl 0 (mapAt ([] : List UInt8) (by omega))) (by kernel_rfl) (fun _ => by kernel_rfl) <| q_callR (.int .i64 4) (by kernel_rfl) (fun _ => by kernel_rfl) (fun _ H => (FIx_v hf (hE.on hM H))) <| q_b [.m] <| q_nil ?_
  clear H
  intro v5 H
  refine x_then <| x_seq <| x_region <| x_b H [.m, .m] <| x_nil <| x_then <| x_t (by kernel_rfl) ?_
  refine x_seq <| x_region <| x_b H [.m] <| z_store H 0 0 [.int .i64 8] (fun v6 H => ?_)
  refine x_nil <| x_then <| x_seq <| x_region <| x_b H [.m, .m, .m, .m] <| z_store H 0 67 [.int .i64 5] (fun v7 H => ?_)
  refine x_nil <| x_then <| x_seq <| x_region <| x_b H [.m] <| z_call (numbers_5 (g := g2) (sk := 8) (sl := 0) (sd := (fun _ => 0)) (sm := 0) (rk := 0) (bk := 0) (ro := 0) (co := 0) (ch := 0) (bi := 0) (va := 0) _ (roAs (H.ro1 [0]) (by kernel_rfl))) ?_
  rintro _ v8 ⟨nq1, rfl, hN'⟩
  refine ⟨_, rfl, ?_⟩
  replace H := H.more hN'
  clear hN'
  refine x_b H [.m, .m] <| x_nil <| x_then <| x_block <| x_loop (G := Nat) (fun (c : Nat) a w' => ∃ uf1 : Nat → Value, a = frm 92 uf1 [(0, S l), (2, .pointer (some ⟨g1, 0, none⟩)), (4, .slice (some ⟨gs, 0, none⟩) ((words l).length) ((words l).length)), (5, .pointer (some ⟨g2, 0, none⟩)), (58, .slice (some ⟨nq1, 0, none⟩) 3 3), (59, .int .i64 3), (60, .int .i64 (c : Int))] [] ∧ Hs [] w0 w' [.blk nq1 #[.pointer (some ⟨g2, 68, none⟩), .pointer (some ⟨g2, 72, none⟩), .pointer (some ⟨g2, 74, none⟩)] 61, .blk g2 (stepA (([⟨8, 0, (fun _ => 0), 0, 5, 0, 0, 0, 0, 0, 0, 0⟩, ⟨8, 0, (fun _ => 0), 0, 5, (nV (words l) 0), 0, 0, 0, 0, 0, 0⟩, ⟨8, 0, (fun _ => 0), 0, 5, (nV (words l) 0), 0, 0, 0, (nV (words l) 1), 0, 0⟩, ⟨8, 0, (fun _ => 0), 0, 5, (nV (words l) 0), 0, 0, 0, (nV (words l) 1), 0, (nV (words l) 2)⟩] : List Stp).getD c zeroS)) 41, .row (.slice (some ⟨gs, 0, none⟩) ((words l).length) ((words l).length)) 9 1 ((words l).length) (List.map S (words l)), .blk g1 (stepA ⟨0, 0, (fun _ => 0), 0, 0, 0, 0, 0, 0, 0, 0, 0⟩) 41] ∧ (c ≤ 3)) (fun (c : Nat) => 3 - c) 0 ⟨_, frm_of, H, (Nat.zero_le _)⟩ ?_
  clear H
  rintro c _ v9 ⟨uf1, rfl, H, r1⟩
  rcases (show c = 0 ∨ c = 1 ∨ c = 2 ∨ c = 3 by omega) with rfl | rfl | rfl | rfl
  · skip
    replace H : Hs [] w0 _ [.blk nq1 #[.pointer (some ⟨g2, 68, none⟩), .pointer (some ⟨g2, 72, none⟩), .pointer (some ⟨g2, 74, none⟩)] 61, .blk g2 (stepA ⟨8, 0, (fun _ => 0), 0, 5, 0, 0, 0, 0, 0, 0, 0⟩) 41, .row (.slice (some ⟨gs, 0, none⟩) ((words l).length) ((words l).length)) 9 1 ((words l).length) (List.map S (words l)), .blk g1 (stepA ⟨0, 0, (fun _ => 0), 0, 0, 0, 0, 0, 0, 0, 0, 0⟩) 41] := hsAs H (by kernel_rfl)
    refine x_seq <| x_region <| x_b H [.m] <| x_nil <| x_then <| x_seq <| x_t (by kernel_rfl) ?_
    refine x_skipc <| x_then <| x_seq <| x_block <| x_seq <| x_region <| x_b H [.m, .m, .l 0 0, .m, .m] ?_
    refine x_nil <| x_then <| x_region <| x_b H [.m, .m, .m, .m] <| z_callB H (at_of (g := gs) (i := 1) (ws := words l) _ (roAs (H.ro1 [2]) rfl)) fun v10 H => z_call (Atoi_of (wAt (words l) 1) (Nat.le_trans (wAt_len l 1) (by omega)) ((hE.on hM H)).toEnv) ?_
    rintro _ v11 ⟨ev, rfl, hB'⟩
    refine ⟨_, rfl, ?_⟩
    replace H := H.via hB'
    clear hB'
    refine x_b H [.m, .m, .m, .m] <| z_store H 1 68 [.int .i64 (nV (words l) 0)] (fun v12 H => ?_)
    refine x_nil <| x_blk <| x_then <| x_region <| x_b H [.m, .m] <| x_nil <| x_then ?_
    replace H := H.pk [0, 1, 2, 3]
    replace H : Hs [] w0 _ [.blk nq1 #[.pointer (some ⟨g2, 68, none⟩), .pointer (some ⟨g2, 72, none⟩), .pointer (some ⟨g2, 74, none⟩)] 61, .blk g2 (stepA (([⟨8, 0, (fun _ => 0), 0, 5, 0, 0, 0, 0, 0, 0, 0⟩, ⟨8, 0, (fun _ => 0), 0, 5, (nV (words l) 0), 0, 0, 0, 0, 0, 0⟩, ⟨8, 0, (fun _ => 0), 0, 5, (nV (words l) 0), 0, 0, 0, (nV (words l) 1), 0, 0⟩, ⟨8, 0, (fun _ => 0), 0, 5, (nV (words l) 0), 0, 0, 0, (nV (words l) 1), 0, (nV (words l) 2)⟩] : List Stp).getD 1 zeroS)) 41, .row (.slice (some ⟨gs, 0, none⟩) ((words l).length) ((words l).length)) 9 1 ((words l).length) (List.map S (words l)), .blk g1 (stepA ⟨0, 0, (fun _ => 0), 0, 0, 0, 0, 0, 0, 0, 0, 0⟩) 41] := hsAs H (by kernel_rfl)
    exact ⟨1, (by omega), _, frm_of, H, (by omega)⟩
  · skip
    replace H : Hs [] w0 _ [.blk nq1 #[.pointer (some ⟨g2, 68, none⟩), .pointer (some ⟨g2, 72, none⟩), .pointer (some ⟨g2, 74, none⟩)] 61, .blk g2 (stepA ⟨8, 0, (fun _ => 0), 0, 5, (nV (words l) 0), 0, 0, 0, 0, 0, 0⟩) 41, .row (.slice (some ⟨gs, 0, none⟩) ((words l).length) ((words l).length)) 9 1 ((words l).length) (List.map S (words l)), .blk g1 (stepA ⟨0, 0, (fun _ => 0), 0, 0, 0, 0, 0, 0, 0, 0, 0⟩) 41] := hsAs H (by kernel_rfl)
    refine x_seq <| x_region <| x_b H [.m] <| x_nil <| x_then <| x_seq <| x_t (by kernel_rfl) ?_
    refine x_skipc <| x_then <| x_seq <| x_block <| x_seq <| x_region <| x_b H [.m, .m, .l 0 1, .m, .m] ?_
    refine x_nil <| x_then <| x_region <| x_b H [.m, .m, .m, .m] <| z_callB H (at_of (g := gs) (i := 2) (ws := words l) _ (roAs (H.ro1 [2]) rfl)) fun v13 H => z_call (Atoi_of (wAt (words l) 2) (Nat.le_trans (wAt_len l 2) (by omega)) ((hE.on hM H)).toEnv) ?_
    rintro _ v14 ⟨ev, rfl, hB'⟩
    refine ⟨_, rfl, ?_⟩
    replace H := H.via hB'
    clear hB'
    refine x_b H [.m, .m, .m, .m] <| z_store H 1 72 [.int .i64 (nV (words l) 1)] (fun v15 H => ?_)
    refine x_nil <| x_blk <| x_then <| x_region <| x_b H [.m, .m] <| x_nil <| x_then ?_
    replace H := H.pk [0, 1, 2, 3]
    replace H : Hs [] w0 _ [.blk nq1 #[.pointer (some ⟨g2, 68, none⟩), .pointer (some ⟨g2, 72, none⟩), .pointer (some ⟨g2, 74, none⟩)] 61, .blk g2 (stepA (([⟨8, 0, (fun _ => 0), 0, 5, 0, 0, 0, 0, 0, 0, 0⟩, ⟨8, 0, (fun _ => 0), 0, 5, (nV (words l) 0), 0, 0, 0, 0, 0, 0⟩, ⟨8, 0, (fun _ => 0), 0, 5, (nV (words l) 0), 0, 0, 0, (nV (words l) 1), 0, 0⟩, ⟨8, 0, (fun _ => 0), 0, 5, (nV (words l) 0), 0, 0, 0, (nV (words l) 1), 0, (nV (words l) 2)⟩] : List Stp).getD 2 zeroS)) 41, .row (.slice (some ⟨gs, 0, none⟩) ((words l).length) ((words l).length)) 9 1 ((words l).length) (List.map S (words l)), .blk g1 (stepA ⟨0, 0, (fun _ => 0), 0, 0, 0, 0, 0, 0, 0, 0, 0⟩) 41] := hsAs H (by kernel_rfl)
    exact ⟨2, (by omega), _, frm_of, H, (by omega)⟩
  · skip
    replace H : Hs [] w0 _ [.blk nq1 #[.pointer (some ⟨g2, 68, none⟩), .pointer (some ⟨g2, 72, none⟩), .pointer (some ⟨g2, 74, none⟩)] 61, .blk g2 (stepA ⟨8, 0, (fun _ => 0), 0, 5, (nV (words l) 0), 0, 0, 0, (nV (words l) 1), 0, 0⟩) 41, .row (.slice (some ⟨gs, 0, none⟩) ((words l).length) ((words l).length)) 9 1 ((words l).length) (List.map S (words l)), .blk g1 (stepA ⟨0, 0, (fun _ => 0), 0, 0, 0, 0, 0, 0, 0, 0, 0⟩) 41] := hsAs H (by kernel_rfl)
    refine x_seq <| x_region <| x_b H [.m] <| x_nil <| x_then <| x_seq <| x_t (by kernel_rfl) ?_
    refine x_skipc <| x_then <| x_seq <| x_block <| x_seq <| x_region <| x_b H [.m, .m, .l 0 2, .m, .m] ?_
    refine x_nil <| x_then <| x_region <| x_b H [.m, .m, .m, .m] <| z_callB H (at_of (g := gs) (i := 3) (ws := words l) _ (roAs (H.ro1 [2]) rfl)) fun v16 H => z_call (Atoi_of (wAt (words l) 3) (Nat.le_trans (wAt_len l 3) (by omega)) ((hE.on hM H)).toEnv) ?_
    rintro _ v17 ⟨ev, rfl, hB'⟩
    refine ⟨_, rfl, ?_⟩
    replace H := H.via hB'
    clear hB'
    refine x_b H [.m, .m, .m, .m] <| z_store H 1 74 [.int .i64 (nV (words l) 2)] (fun v18 H => ?_)
    refine x_nil <| x_blk <| x_then <| x_region <| x_b H [.m, .m] <| x_nil <| x_then ?_
    replace H := H.pk [0, 1, 2, 3]
    replace H : Hs [] w0 _ [.blk nq1 #[.pointer (some ⟨g2, 68, none⟩), .pointer (some ⟨g2, 72, none⟩), .pointer (some ⟨g2, 74, none⟩)] 61, .blk g2 (stepA (([⟨8, 0, (fun _ => 0), 0, 5, 0, 0, 0, 0, 0, 0, 0⟩, ⟨8, 0, (fun _ => 0), 0, 5, (nV (words l) 0), 0, 0, 0, 0, 0, 0⟩, ⟨8, 0, (fun _ => 0), 0, 5, (nV (words l) 0), 0, 0, 0, (nV (words l) 1), 0, 0⟩, ⟨8, 0, (fun _ => 0), 0, 5, (nV (words l) 0), 0, 0, 0, (nV (words l) 1), 0, (nV (words l) 2)⟩] : List Stp).getD 3 zeroS)) 41, .row (.slice (some ⟨gs, 0, none⟩) ((words l).length) ((words l).length)) 9 1 ((words l).length) (List.map S (words l)), .blk g1 (stepA ⟨0, 0, (fun _ => 0), 0, 0, 0, 0, 0, 0, 0, 0, 0⟩) 41] := hsAs H (by kernel_rfl)
    exact ⟨3, (by omega), _, frm_of, H, (by omega)⟩
  · skip
    replace H : Hs [] w0 _ [.blk nq1 #[.pointer (some ⟨g2, 68, none⟩), .pointer (some ⟨g2, 72, none⟩), .pointer (some ⟨g2, 74, none⟩)] 61, .blk g2 (stepA ⟨8, 0, (fun _ => 0), 0, 5, (nV (words l) 0), 0, 0, 0, (nV (words l) 1), 0, (nV (words l) 2)⟩) 41, .row (.slice (some ⟨gs, 0, none⟩) ((words l).length) ((words l).length)) 9 1 ((words l).length) (List.map S (words l)), .blk g1 (stepA ⟨0, 0, (fun _ => 0), 0, 0, 0, 0, 0, 0, 0, 0, 0⟩) 41] := hsAs H (by kernel_rfl)
    refine x_seq <| x_region <| x_b H [.m] <| x_nil <| x_then <| x_seq <| x_f (by kernel_rfl) ?_
    refine x_exit <| x_then_exit <| x_then_exit <| x_blk_exit <| x_then <| x_seq <| x_region ?_
    refine x_b H [.n 1 0 75 41] <| z_callB H (bare_of ⟨8, 0, (fun _ => 0), 0, 5, (nV (words l) 0), 0, 0, 0, (nV (words l) 1), 0, (nV (words l) 2)⟩ _) fun v19 H => z_store H 1 0 ((stepA ⟨8, 0, (fun _ => 0), 0, 5, (nV (words l) 0), 0, 0, 0, (nV (words l) 1), 0, (nV (words l) 2)⟩)).toList (fun v20 H => ?_)
    refine x_nil <| x_then <| x_seq <| x_seq <| x_region <| x_b H [.n 1 0 75 41] <| z_callB H (SShow_yes (x := (fillF 5 (words l))) (fillF_rng (by decide) _) (fillF_right (by decide) (by decide) _) _ (hE.on hM H)) fun v21 H => ?_
    refine x_b H [.m, .m, .m, .m, .m] <| x_nil <| x_then <| x_seq <| x_region <| x_b H [.m, .m, .m, .m, .m] <| x_eq (.bool (!(decide (txtS (fillF 5 (words l)) = l)))) (strNe (txtS (fillF 5 (words l))) l) (by kernel_rfl) rfl (by kernel_rfl) ?_
    refine x_b H [.v (.bool (!(decide (txtS (fillF 5 (words l)) = l))))] <| x_nil <| x_then ?_
    cases h1 : decide (txtS (fillF 5 (words l)) = l)
    · skip
      have h1p := of_decide_eq_false h1
      refine x_t (by kernel_rfl) <| x_seq <| x_region <| x_b H [.m] <| z_store H 3 0 ((stepA ⟨0, 0, (fun _ => 0), 0, 0, 0, 0, 0, 0, 0, 0, 0⟩)).toList (fun v22 H => ?_)
      refine x_b H [.m] <| x_nil <| x_then <| x_retc <| x_then_ret <| x_ret (.tuple #[.agg (stepA ⟨0, 0, (fun _ => 0), 0, 0, 0, 0, 0, 0, 0, 0, 0⟩), .int .i64 61]) (by kernel_rfl) (x_results [.cell 2 41, .tmp 3] [.agg (stepA ⟨0, 0, (fun _ => 0), 0, 0, 0, 0, 0, 0, 0, 0, 0⟩), .int .i64 61] _ rfl (AllR.cell (by kernel_rfl) (ldR H 3 g1 0 (stepA ⟨0, 0, (fun _ => 0), 0, 0, 0, 0, 0, 0, 0, 0, 0⟩) 41 (stepL ⟨0, 0, (fun _ => 0), 0, 0, 0, 0, 0, 0, 0, 0, 0⟩) (by kernel_rfl) (by kernel_rfl) (by kernel_rfl)) (AllR.tmp (by kernel_rfl) AllR.nil)) (by kernel_rfl)) ?_
      exact ⟨by rw [pres_no (of_decide_eq_false h1)]; rfl, H.below⟩
    have h1p := of_decide_eq_true h1
    refine x_f (by kernel_rfl) <| x_skipc <| x_then <| x_seq <| x_region <| x_b H [.n 1 0 75 41] <| z_store H 3 0 ((stepA ⟨8, 0, (fun _ => 0), 0, 5, (nV (words l) 0), 0, 0, 0, (nV (words l) 1), 0, (nV (words l) 2)⟩)).toList (fun v23 H => ?_)
    refine x_b H [.m] <| x_nil <| x_then <| x_retc <| x_ret (.tuple #[.agg (stepA ⟨8, 0, (fun _ => 0), 0, 5, (nV (words l) 0), 0, 0, 0, (nV (words l) 1), 0, (nV (words l) 2)⟩), .int .i64 0]) (by kernel_rfl) (x_results [.cell 2 41, .tmp 3] [.agg (stepA ⟨8, 0, (fun _ => 0), 0, 5, (nV (words l) 0), 0, 0, 0, (nV (words l) 1), 0, (nV (words l) 2)⟩), .int .i64 0] _ rfl (AllR.cell (by kernel_rfl) (ldR H 3 g1 0 (stepA ⟨8, 0, (fun _ => 0), 0, 5, (nV (words l) 0), 0, 0, 0, (nV (words l) 1), 0, (nV (words l) 2)⟩) 41 (stepL ⟨8, 0, (fun _ => 0), 0, 5, (nV (words l) 0), 0, 0, 0, (nV (words l) 1), 0, (nV (words l) 2)⟩) (by kernel_rfl) (by kernel_rfl) (by kernel_rfl)) (AllR.tmp (by kernel_rfl) AllR.nil)) (by kernel_rfl)) ?_
    exact ⟨by rw [pres_yes (of_decide_eq_true h1)]; rfl, H.below⟩
set_option maxRecDepth 100000 in
set_option maxHeartbeats 4000000 in
theorem Parse_f6 {l : List UInt8} (hl : l.length ≤ 100000) (hw : wIx ((words l).getD 0 []) = 0) (hf : fIx ((words l).getD 0 []) = 6) (w0 : World) (hE : EnvS w0) :
    Calls Tryd.prog 19 #[S l] w0 fun e w' => e = .returned (pres (fillF 6 (words l)) l) ∧ Below w0.heap.size w0 w' := by
  refine z_enter Tryd.func19 rfl ?_
  have H := Hs.nil w0
  have hM := nilM
  have hwp := words_pos l
  refine x_seq <| x_region <| z_box H (stepA ⟨0, 0, (fun _ => 0), 0, 0, 0, 0, 0, 0, 0, 0, 0⟩) 41 (fun v1 g1 H => ?_)
  refine x_b H [.m] <| x_nil <| x_then <| x_seq <| x_region <| x_b H [.m] <| z_call (Split_of l hl (hE.on hM H)) ?_
  rintro _ v2 ⟨gs, rfl, hN'⟩
  refine ⟨_, rfl, ?_⟩
  replace H := H.more hN'
  clear hN'
  refine x_b H [.m] <| x_nil <| x_then <| x_seq <| x_region <| z_box H (stepA ⟨0, 0, (fun _ => 0), 0, 0, 0, 0, 0, 0, 0, 0, 0⟩) 41 (fun v3 g2 H => ?_)
  refine x_nil <| x_then <| x_seq <| x_seq <| z_region_whole H <| q_b [.m, .m] <| q_ix (t := 60) gs 0 0 ((words l).length) ((words l).length) 9 1 0 (words_pos l) (by omega) (by kernel_rfl) (by kernel_rfl) (by kernel_rfl) (fun _ => by kernel_rfl) ?_
  refine q_loadc gs 0 (S ((words l).getD 0 ([] : List UInt8))) (fun _ H => H.rowCell 1 rfl 0 (mapAt ([] : List UInt8) (by omega))) (by kernel_rfl) (fun _ => by kernel_rfl) <| q_callR (.int .i64 (-1)) (by kernel_rfl) (fun _ => by kernel_rfl) (fun _ H => (WIx_v hw (hE.on hM H))) <| q_b [.m] <| q_nil ?_
  clear H
  intro v4 H
  refine x_then <| x_seq <| x_region <| x_b H [.m, .m] <| x_nil <| x_then <| x_f (by kernel_rfl) ?_
  refine x_skipc <| x_then <| x_seq <| x_seq <| z_region_whole H <| q_b [.m, .m] <| q_ix (t := 60) gs 0 0 ((words l).length) ((words l).length) 9 1 0 (words_pos l) (by omega) (by kernel_rfl) (by kernel_rfl) (by kernel_rfl) (fun _ => by kernel_rfl) ?_
  refine q_loadc gs 0 (S ((words l).getD 0 ([] : List UInt8))) (fun _ H => H.rowCell 1 rfl 0 (mapAt ([] : List UInt8) (by omega))) (by kernel_rfl) (fun _ => by kernel_rfl) <| q_callR (.int .i64 5) (by kernel_rfl) (fun _ => by kernel_rfl) (fun _ H => (FIx_v hf (hE.on hM H))) <| q_b [.m] <| q_nil ?_
  clear H
  intro v5 H
  refine x_then <| x_seq <| x_region <| x_b H [.m, .m] <| x_nil <| x_then <| x_t (by kernel_rfl) ?_
  refine x_seq <| x_region <| x_b H [.m] <| z_store H 0 0 [.int .i64 8] (fun v6 H => ?_)
  refine x_nil <| x_then <| x_seq <| x_region <| x_b H [.m, .m, .m, .m] <| z_store H 0 67 [.int .i64 6] (fun v7 H => ?_)
  refine x_nil <| x_then <| x_seq <| x_region <| x_b H [.m] <| z_call (numbers_6 (g := g2) (sk := 8) (sl := 0) (sd := (fun _ => 0)) (sm := 0) (rk := 0) (bk := 0) (ro := 0) (co := 0) (ch := 0) (bi := 0) (va := 0) _ (roAs (H.ro1 [0]) (by kernel_rfl))) ?_
  rintro _ v8 ⟨nq1, rfl, hN'⟩
  refine ⟨_, rfl, ?_⟩
  replace H := H.more hN'
  clear hN'
  refine x_b H [.m, .m] <| x_nil <| x_then <| x_block <| x_loop (G := Nat) (fun (c : Nat) a w' => ∃ uf1 : Nat → Value, a = frm 92 uf1 [(0, S l), (2, .pointer (some ⟨g1, 0, none⟩)), (4, .slice (some ⟨gs, 0, none⟩) ((words l).length) ((words l).length)), (5, .pointer (some ⟨g2, 0, none⟩)), (58, .slice (some ⟨nq1, 0, none⟩) 4 4), (59, .int .i64 4), (60, .int .i64 (c : Int))] [] ∧ Hs [] w0 w' [.blk nq1 #[.pointer (some ⟨g2, 68, none⟩), .pointer (some ⟨g2, 69, none⟩), .pointer (some ⟨g2, 70, none⟩), .pointer (some ⟨g2, 71, none⟩)] 61, .blk g2 (stepA (([⟨8, 0, (fun _ => 0), 0, 6, 0, 0, 0, 0, 0, 0, 0⟩, ⟨8, 0, (fun _ => 0), 0, 6, (nV (words l) 0), 0, 0, 0, 0, 0, 0⟩, ⟨8, 0, (fun _ => 0), 0, 6, (nV (words l) 0), (nV (words l) 1), 0, 0, 0, 0, 0⟩, ⟨8, 0, (fun _ => 0), 0, 6, (nV (words l) 0), (nV (words l) 1), (nV (words l) 2), 0, 0, 0, 0⟩, ⟨8, 0, (fun _ => 0), 0, 6, (nV (words l) 0), (nV (words l) 1), (nV (words l) 2), (nV (words l) 3), 0, 0, 0⟩] : List Stp).getD c zeroS)) 41, .row (.slice (some ⟨gs, 0, none⟩) ((words l).length) ((words l).length)) 9 1 ((words l).length) (List.map S (words l)), .blk g1 (stepA ⟨0, 0, (fun _ => 0), 0, 0, 0, 0, 0, 0, 0, 0, 0⟩) 41] ∧ (c ≤ 4)) (fun (c : Nat) => 4 - c) 0 ⟨_, frm_of, H, (Nat.zero_le _)⟩ ?_
  clear H
  rintro c _ v9 ⟨uf1, rfl, H, r1⟩
  rcases (show c = 0 ∨ c = 1 ∨ c = 2 ∨ c = 3 ∨ c = 4 by omega) with rfl | rfl | rfl | rfl | rfl
  · skip
    replace H : Hs [] w0 _ [.blk nq1 #[.pointer (some ⟨g2, 68, none⟩), .pointer (some ⟨g2, 69, none⟩), .pointer (some ⟨g2, 70, none⟩), .pointer (some ⟨g2, 71, none⟩)] 61, .blk g2 (stepA ⟨8, 0, (fun _ => 0), 0, 6, 0, 0, 0, 0, 0, 0, 0⟩) 41, .row (.slice (some ⟨gs, 0, none⟩) ((words l).length) ((words l).length)) 9 1 ((words l).length) (List.map S (words l)), .blk g1 (stepA ⟨0, 0, (fun _ => 0), 0, 0, 0, 0, 0, 0, 0, 0, 0⟩) 41] := hsAs H (by kernel_rfl)
    refine x_seq <| x_region <| x_b H [.m] <| x_nil <| x_then <| x_seq <| x_t (by kernel_rfl) ?_
    refine x_skipc <| x_then <| x_seq <| x_block <| x_seq <| x_region <| x_b H [.m, .m, .l 0 0, .m, .m] ?_
    refine x_nil <| x_then <| x_region <| x_b H [.m, .m, .m, .m] <| z_callB H (at_of (g := gs) (i := 1) (ws := words l) _ (roAs (H.ro1 [2]) rfl)) fun v10 H => z_call (Atoi_of (wAt (words l) 1) (Nat.le_trans (wAt_len l 1) (by omega)) ((hE.on hM H)).toEnv) ?_
    rintro _ v11 ⟨ev, rfl, hB'⟩
    refine ⟨_, rfl, ?_⟩
    replace H := H.via hB'
    clear hB'
    refine x_b H [.m, .m, .m, .m] <| z_store H 1 68 [.int .i64 (nV (words l) 0)] (fun v12 H => ?_)
    refine x_nil <| x_blk <| x_then <| x_region <| x_b H [.m, .m] <| x_nil <| x_then ?_
    replace H := H.pk [0, 1, 2, 3]
    replace H : Hs [] w0 _ [.blk nq1 #[.pointer (some ⟨g2, 68, none⟩), .pointer (some ⟨g2, 69, none⟩), .pointer (some ⟨g2, 70, none⟩), .pointer (some ⟨g2, 71, none⟩)] 61, .blk g2 (stepA (([⟨8, 0, (fun _ => 0), 0, 6, 0, 0, 0, 0, 0, 0, 0⟩, ⟨8, 0, (fun _ => 0), 0, 6, (nV (words l) 0), 0, 0, 0, 0, 0, 0⟩, ⟨8, 0, (fun _ => 0), 0, 6, (nV (words l) 0), (nV (words l) 1), 0, 0, 0, 0, 0⟩, ⟨8, 0, (fun _ => 0), 0, 6, (nV (words l) 0), (nV (words l) 1), (nV (words l) 2), 0, 0, 0, 0⟩, ⟨8, 0, (fun _ => 0), 0, 6, (nV (words l) 0), (nV (words l) 1), (nV (words l) 2), (nV (words l) 3), 0, 0, 0⟩] : List Stp).getD 1 zeroS)) 41, .row (.slice (some ⟨gs, 0, none⟩) ((words l).length) ((words l).length)) 9 1 ((words l).length) (List.map S (words l)), .blk g1 (stepA ⟨0, 0, (fun _ => 0), 0, 0, 0, 0, 0, 0, 0, 0, 0⟩) 41] := hsAs H (by kernel_rfl)
    exact ⟨1, (by omega), _, frm_of, H, (by omega)⟩
  · skip
    replace H : Hs [] w0 _ [.blk nq1 #[.pointer (some ⟨g2, 68, none⟩), .pointer (some ⟨g2, 69, none⟩), .pointer (some ⟨g2, 70, none⟩), .pointer (some ⟨g2, 71, none⟩)] 61, .blk g2 (stepA ⟨8, 0, (fun _ => 0), 0, 6, (nV (words l) 0), 0, 0, 0, 0, 0, 0⟩) 41, .row (.slice (some ⟨gs, 0, none⟩) ((words l).length) ((words l).length)) 9 1 ((words l).length) (List.map S (words l)), .blk g1 (stepA ⟨0, 0, (fun _ => 0), 0, 0, 0, 0, 0, 0, 0, 0, 0⟩) 41] := hsAs H (by kernel_rfl)
    refine x_seq <| x_region <| x_b H [.m] <| x_nil <| x_then <| x_seq <| x_t (by kernel_rfl) ?_
    refine x_skipc <| x_then <| x_seq <| x_block <| x_seq <| x_region <| x_b H [.m, .m, .l 0 1, .m, .m] ?_
    refine x_nil <| x_then <| x_region <| x_b H [.m, .m, .m, .m] <| z_callB H (at_of (g := gs) (i := 2) (ws := words l) _ (roAs (H.ro1 [2]) rfl)) fun v13 H => z_call (Atoi_of (wAt (words l) 2) (Nat.le_trans (wAt_len l 2) (by omega)) ((hE.on hM H)).toEnv) ?_
    rintro _ v14 ⟨ev, rfl, hB'⟩
    refine ⟨_, rfl, ?_⟩
    replace H := H.via hB'
    clear hB'
    refine x_b H [.m, .m, .m, .m] <| z_store H 1 69 [.int .i64 (nV (words l) 1)] (fun v15 H => ?_)
    refine x_nil <| x_blk <| x_then <| x_region <| x_b H [.m, .m] <| x_nil <| x_then ?_
    replace H := H.pk [0, 1, 2, 3]
    replace H : Hs [] w0 _ [.blk nq1 #[.pointer (some ⟨g2, 68, none⟩), .pointer (some ⟨g2, 69, none⟩), .pointer (some ⟨g2, 70, none⟩), .pointer (some ⟨g2, 71, none⟩)] 61, .blk g2 (stepA (([⟨8, 0, (fun _ => 0), 0, 6, 0, 0, 0, 0, 0, 0, 0⟩, ⟨8, 0, (fun _ => 0), 0, 6, (nV (words l) 0), 0, 0, 0, 0, 0, 0⟩, ⟨8, 0, (fun _ => 0), 0, 6, (nV (words l) 0), (nV (words l) 1), 0, 0, 0, 0, 0⟩, ⟨8, 0, (fun _ => 0), 0, 6, (nV (words l) 0), (nV (words l) 1), (nV (words l) 2), 0, 0, 0, 0⟩, ⟨8, 0, (fun _ => 0), 0, 6, (nV (words l) 0), (nV (words l) 1), (nV (words l) 2), (nV (words l) 3), 0, 0, 0⟩] : List Stp).getD 2 zeroS)) 41, .row (.slice (some ⟨gs, 0, none⟩) ((words l).length) ((words l).length)) 9 1 ((words l).length) (List.map S (words l)), .blk g1 (stepA ⟨0, 0, (fun _ => 0), 0, 0, 0, 0, 0, 0, 0, 0, 0⟩) 41] := hsAs H (by kernel_rfl)
    exact ⟨2, (by omega), _, frm_of, H, (by omega)⟩
  · skip
    replace H : Hs [] w0 _ [.blk nq1 #[.pointer (some ⟨g2, 68, none⟩), .pointer (some ⟨g2, 69, none⟩), .pointer (some ⟨g2, 70, none⟩), .pointer (some ⟨g2, 71, none⟩)] 61, .blk g2 (stepA ⟨8, 0, (fun _ => 0), 0, 6, (nV (words l) 0), (nV (words l) 1), 0, 0, 0, 0, 0⟩) 41, .row (.slice (some ⟨gs, 0, none⟩) ((words l).length) ((words l).length)) 9 1 ((words l).length) (List.map S (words l)), .blk g1 (stepA ⟨0, 0, (fun _ => 0), 0, 0, 0, 0, 0, 0, 0, 0, 0⟩) 41] := hsAs H (by kernel_rfl)
    refine x_seq <| x_region <| x_b H [.m] <| x_nil <| x_then <| x_seq <| x_t (by kernel_rfl) ?_
    refine x_skipc <| x_then <| x_seq <| x_block <| x_seq <| x_region <| x_b H [.m, .m, .l 0 2, .m, .m] ?_
    refine x_nil <| x_then <| x_region <| x_b H [.m, .m, .m, .m] <| z_callB H (at_of (g := gs) (i := 3) (ws := words l) _ (roAs (H.ro1 [2]) rfl)) fun v16 H => z_call (Atoi_of (wAt (words l) 3) (Nat.le_trans (wAt_len l 3) (by omega)) ((hE.on hM H)).toEnv) ?_
    rintro _ v17 ⟨ev, rfl, hB'⟩
    refine ⟨_, rfl, ?_⟩
    replace H := H.via hB'
    clear hB'
    refine x_b H [.m, .m, .m, .m] <| z_store H 1 70 [.int .i64 (nV (words l) 2)] (fun v18 H => ?_)
    refine x_nil <| x_blk <| x_then <| x_region <| x_b H [.m, .m] <| x_nil <| x_then ?_
    replace H := H.pk [0, 1, 2, 3]
    replace H : Hs [] w0 _ [.blk nq1 #[.pointer (some ⟨g2, 68, none⟩), .pointer (some ⟨g2, 69, none⟩), .pointer (some ⟨g2, 70, none⟩), .pointer (some ⟨g2, 71, none⟩)] 61, .blk g2 (stepA (([⟨8, 0, (fun _ => 0), 0, 6, 0, 0, 0, 0, 0, 0, 0⟩, ⟨8, 0, (fun _ => 0), 0, 6, (nV (words l) 0), 0, 0, 0, 0, 0, 0⟩, ⟨8, 0, (fun _ => 0), 0, 6, (nV (words l) 0), (nV (words l) 1), 0, 0, 0, 0, 0⟩, ⟨8, 0, (fun _ => 0), 0, 6, (nV (words l) 0), (nV (words l) 1), (nV (words l) 2), 0, 0, 0, 0⟩, ⟨8, 0, (fun _ => 0), 0, 6, (nV (words l) 0), (nV (words l) 1), (nV (words l) 2), (nV (words l) 3), 0, 0, 0⟩] : List Stp).getD 3 zeroS)) 41, .row (.slice (some ⟨gs, 0, none⟩) ((words l).length) ((words l).length)) 9 1 ((words l).length) (List.map S (words l)), .blk g1 (stepA ⟨0, 0, (fun _ => 0), 0, 0, 0, 0, 0, 0, 0, 0, 0⟩) 41] := hsAs H (by kernel_rfl)
    exact ⟨3, (by omega), _, frm_of, H, (by omega)⟩
  · skip
    replace H : Hs [] w0 _ [.blk nq1 #[.pointer (some ⟨g2, 68, none⟩), .pointer (some ⟨g2, 69, none⟩), .pointer (some ⟨g2, 70, none⟩), .pointer (some ⟨g2, 71, none⟩)] 61, .blk g2 (stepA ⟨8, 0, (fun _ => 0), 0, 6, (nV (words l) 0), (nV (words l) 1), (nV (words l) 2), 0, 0, 0, 0⟩) 41, .row (.slice (some ⟨gs, 0, none⟩) ((words l).length) ((words l).length)) 9 1 ((words l).length) (List.map S (words l)), .blk g1 (stepA ⟨0, 0, (fun _ => 0), 0, 0, 0, 0, 0, 0, 0, 0, 0⟩) 41] := hsAs H (by kernel_rfl)
    refine x_seq <| x_region <| x_b H [.m] <| x_nil <| x_then <| x_seq <| x_t (by kernel_rfl) ?_
    refine x_skipc <| x_then <| x_seq <| x_block <| x_seq <| x_region <| x_b H [.m, .m, .l 0 3, .m, .m] ?_
    refine x_nil <| x_then <| x_region <| x_b H [.m, .m, .m, .m] <| z_callB H (at_of (g := gs) (i := 4) (ws := words l) _ (roAs (H.ro1 [2]) rfl)) fun v19 H => z_call (Atoi_of (wAt (words l) 4) (Nat.le_trans (wAt_len l 4) (by omega)) ((hE.on hM H)).toEnv) ?_
    rintro _ v20 ⟨ev, rfl, hB'⟩
    refine ⟨_, rfl, ?_⟩
    replace H := H.via hB'
    clear hB'
    refine x_b H [.m, .m, .m, .m] <| z_store H 1 71 [.int .i64 (nV (words l) 3)] (fun v21 H => ?_)
    refine x_nil <| x_blk <| x_then <| x_region <| x_b H [.m, .m] <| x_nil <| x_then ?_
    replace H := H.pk [0, 1, 2, 3]
    replace H : Hs [] w0 _ [.blk nq1 #[.pointer (some ⟨g2, 68, none⟩), .pointer (some ⟨g2, 69, none⟩), .pointer (some ⟨g2, 70, none⟩), .pointer (some ⟨g2, 71, none⟩)] 61, .blk g2 (stepA (([⟨8, 0, (fun _ => 0), 0, 6, 0, 0, 0, 0, 0, 0, 0⟩, ⟨8, 0, (fun _ => 0), 0, 6, (nV (words l) 0), 0, 0, 0, 0, 0, 0⟩, ⟨8, 0, (fun _ => 0), 0, 6, (nV (words l) 0), (nV (words l) 1), 0, 0, 0, 0, 0⟩, ⟨8, 0, (fun _ => 0), 0, 6, (nV (words l) 0), (nV (words l) 1), (nV (words l) 2), 0, 0, 0, 0⟩, ⟨8, 0, (fun _ => 0), 0, 6, (nV (words l) 0), (nV (words l) 1), (nV (words l) 2), (nV (words l) 3), 0, 0, 0⟩] : List Stp).getD 4 zeroS)) 41, .row (.slice (some ⟨gs, 0, none⟩) ((words l).length) ((words l).length)) 9 1 ((words l).length) (List.map S (words l)), .blk g1 (stepA ⟨0, 0, (fun _ => 0), 0, 0, 0, 0, 0, 0, 0, 0, 0⟩) 41] := hsAs H (by kernel_rfl)
    exact ⟨4, (by omega), _, frm_of, H, (by omega)⟩
  · skip
    replace H : Hs [] w0 _ [.blk nq1 #[.pointer (some ⟨g2, 68, none⟩), .pointer (some ⟨g2, 69, none⟩), .pointer (some ⟨g2, 70, none⟩), .pointer (some ⟨g2, 71, none⟩)] 61, .blk g2 (stepA ⟨8, 0, (fun _ => 0), 0, 6, (nV (words l) 0), (nV (words l) 1), (nV (words l) 2), (nV (words l) 3), 0, 0, 0⟩) 41, .row (.slice (some ⟨gs, 0, none⟩) ((words l).length) ((words l).length)) 9 1 ((words l).length) (List.map S (words l)), .blk g1 (stepA ⟨0, 0, (fun _ => 0), 0, 0, 0, 0, 0, 0, 0, 0, 0⟩) 41] := hsAs H (by kernel_rfl)
    refine x_seq <| x_region <| x_b H [.m] <| x_nil <| x_then <| x_seq <| x_f (by kernel_rfl) ?_
    refine x_exit <| x_then_exit <| x_then_exit <| x_blk_exit <| x_then <| x_seq <| x_region ?_
    refine x_b H [.n 1 0 75 41] <| z_callB H (bare_of ⟨8, 0, (fun _ => 0), 0, 6, (nV (words l) 0), (nV (words l) 1), (nV (words l) 2), (nV (words l) 3), 0, 0, 0⟩ _) fun v22 H => z_store H 1 0 ((stepA ⟨8, 0, (fun _ => 0), 0, 6, (nV (words l) 0), (nV (words l) 1), (nV (words l) 2), (nV (words l) 3), 0, 0, 0⟩)).toList (fun v23 H => ?_)
    refine x_nil <| x_then <| x_seq <| x_seq <| x_region <| x_b H [.n 1 0 75 41] <| z_callB H (SShow_yes (x := (fillF 6 (words l))) (fillF_rng (by decide) _) (fillF_right (by decide) (by decide) _) _ (hE.on hM H)) fun v24 H => ?_
    refine x_b H [.m, .m, .m, .m, .m] <| x_nil <| x_then <| x_seq <| x_region <| x_b H [.m, .m, .m, .m, .m] <| x_eq (.bool (!(decide (txtS (fillF 6 (words l)) = l)))) (strNe (txtS (fillF 6 (words l))) l) (by kernel_rfl) rfl (by kernel_rfl) ?_
    refine x_b H [.v (.bool (!(decide (txtS (fillF 6 (words l)) = l))))] <| x_nil <| x_then ?_
    cases h1 : decide (txtS (fillF 6 (words l)) = l)
    · skip
      have h1p := of_decide_eq_false h1
      refine x_t (by kernel_rfl) <| x_seq <| x_region <| x_b H [.m] <| z_store H 3 0 ((stepA ⟨0, 0, (fun _ => 0), 0, 0, 0, 0, 0, 0, 0, 0, 0⟩)).toList (fun v25 H => ?_)
      refine x_b H [.m] <| x_nil <| x_then <| x_retc <| x_then_ret <| x_ret (.tuple #[.agg (stepA ⟨0, 0, (fun _ => 0), 0, 0, 0, 0, 0, 0, 0, 0, 0⟩), .int .i64 61]) (by kernel_rfl) (x_results [.cell 2 41, .tmp 3] [.agg (stepA ⟨0, 0, (fun _ => 0), 0, 0, 0, 0, 0, 0, 0, 0, 0⟩), .int .i64 61] _ rfl (AllR.cell (by kernel_rfl) (ldR H 3 g1 0 (stepA ⟨0, 0, (fun _ => 0), 0, 0, 0, 0, 0, 0, 0, 0, 0⟩) 41 (stepL ⟨0, 0, (fun _ => 0), 0, 0, 0, 0, 0, 0, 0, 0, 0⟩) (by kernel_rfl) (by kernel_rfl) (by kernel_rfl)) (AllR.tmp (by kernel_rfl) AllR.nil)) (by kernel_rfl)) ?_
      exact ⟨by rw [pres_no (of_decide_eq_false h1)]; rfl, H.below⟩
    have h1p := of_decide_eq_true h1
    refine x_f (by kernel_rfl) <| x_skipc <| x_then <| x_seq <| x_region <| x_b H [.n 1 0 75 41] <| z_store H 3 0 ((stepA ⟨8, 0, (fun _ => 0), 0, 6, (nV (words l) 0), (nV (words l) 1), (nV (words l) 2), (nV (words l) 3), 0, 0, 0⟩)).toList (fun v26 H => ?_)
    refine x_b H [.m] <| x_nil <| x_then <| x_retc <| x_ret (.tuple #[.agg (stepA ⟨8, 0, (fun _ => 0), 0, 6, (nV (words l) 0), (nV (words l) 1), (nV (words l) 2), (nV (words l) 3), 0, 0, 0⟩), .int .i64 0]) (by kernel_rfl) (x_results [.cell 2 41, .tmp 3] [.agg (stepA ⟨8, 0, (fun _ => 0), 0, 6, (nV (words l) 0), (nV (words l) 1), (nV (words l) 2), (nV (words l) 3), 0, 0, 0⟩), .int .i64 0] _ rfl (AllR.cell (by kernel_rfl) (ldR H 3 g1 0 (stepA ⟨8, 0, (fun _ => 0), 0, 6, (nV (words l) 0), (nV (words l) 1), (nV (words l) 2), (nV (words l) 3), 0, 0, 0⟩) 41 (stepL ⟨8, 0, (fun _ => 0), 0, 6, (nV (words l) 0), (nV (words l) 1), (nV (words l) 2), (nV (words l) 3), 0, 0, 0⟩) (by kernel_rfl) (by kernel_rfl) (by kernel_rfl)) (AllR.tmp (by kernel_rfl) AllR.nil)) (by kernel_rfl)) ?_
    exact ⟨by rw [pres_yes (of_decide_eq_true h1)]; rfl, H.below⟩
set_option maxRecDepth 100000 in
set_option maxHeartbeats 4000000 in
theorem Parse_f7 {l : List UInt8} (hl : l.length ≤ 100000) (hw : wIx ((words l).getD 0 []) = 0) (hf : fIx ((words l).getD 0 []) = 7) (w0 : World) (hE : EnvS w0) :
    Calls Tryd.prog 19 #[S l] w0 fun e w' => e = .returned (pres (fillF 7 (words l)) l) ∧ Below w0.heap.size w0 w' := by
  refine z_enter Tryd.func19 rfl ?_
  have H := Hs.nil w0
  have hM := nilM
  have hwp := words_pos l
  refine x_seq <| x_region <| z_box H (stepA ⟨0, 0, (fun _ => 0), 0, 0, 0, 0, 0, 0, 0, 0, 0⟩) 41 (fun v1 g1 H => ?_)
  refine x_b H [.m] <| x_nil <| x_then <| x_seq <| x_region <| x_b H [.m] <| z_call (Split_of l hl (hE.on hM H)) ?_
  rintro _ v2 ⟨gs, rfl, hN'⟩
  refine ⟨_, rfl, ?_⟩
  replace H := H.more hN'
  clear hN'
  refine x_b H [.m] <| x_nil <| x_then <| x_seq <| x_region <| z_box H (stepA ⟨0, 0, (fun _ => 0), 0, 0, 0, 0, 0, 0, 0, 0, 0⟩) 41 (fun v3 g2 H => ?_)
  refine x_nil <| x_then <| x_seq <| x_seq <| z_region_whole H <| q_b [.m, .m] <| q_ix (t := 60) gs 0 0 ((words l).length) ((words l).length) 9 1 0 (words_pos l) (by omega) (by kernel_rfl) (by kernel_rfl) (by kernel_rfl) (fun _ => by kernel_rfl) ?_
  refine q_loadc gs 0 (S ((words l).getD 0 ([] : List UInt8))) (fun _ H => H.rowCell 1 rfl 0 (mapAt ([] : List UInt8) (by omega))) (by kernel_rfl) (fun _ => by kernel_rfl) <| q_callR (.int .i64 (-1)) (by kernel_rfl) (fun _ => by kernel_rfl) (fun _ H => (WIx_v hw (hE.on hM H))) <| q_b [.m] <| q_nil ?_
  clear H
  intro v4 H
  refine x_then <| x_seq <| x_region <| x_b H [.m, .m] <| x_nil <| x_then <| x_f (by kernel_rfl) ?_
  refine x_skipc <| x_then <| x_seq <| x_seq <| z_region_whole H <| q_b [.m, .m] <| q_ix (t := 60) gs 0 0 ((words l).length) ((words l).length) 9 1 0 (words_pos l) (by omega) (by kernel_rfl) (by kernel_rfl) (by kernel_rfl) (fun _ => by kernel_rfl) ?_
  refine q_loadc gs 0 (S ((words l).getD 0 ([] : List UInt8))) (fun _ H => H.rowCell 1 rfl 0 (mapAt ([] : List UInt8) (by omega))) (by kernel_rfl) (fun _ => by kernel_rfl) <| q_callR (.int .i64 6) (by kernel_rfl) (fun _ => by kernel_rfl) (fun _ H => (FIx_v hf (hE.on hM H))) <| q_b [.m] <| q_nil ?_
  clear H
  intro v5 H
  refine x_then <| x_seq <| x_region <| x_b H [.m, .m] <| x_nil <| x_then <| x_t (by kernel_rfl) ?_
  refine x_seq <| x_region <| x_b H [.m] <| z_store H 0 0 [.int .i64 8] (fun v6 H => ?_)
  refine x_nil <| x_then <| x_seq <| x_region <| x_b H [.m, .m, .m, .m] <| z_store H 0 67 [.int .i64 7] (fun v7 H => ?_)
  refine x_nil <| x_then <| x_seq <| x_region <| x_b H [.m] <| z_callB (v := .slice none 0 0) H (numbers_o (g := g2) (sk := 8) (sl := 0) (sd := (fun _ => 0)) (sm := 0) (fk := 7) (rk := 0) (bk := 0) (ro := 0) (co := 0) (ch := 0) (bi := 0) (va := 0) (by omega) _ (roAs (H.ro1 [0]) (by kernel_rfl))) fun v8 H => x_b H [.m, .m] ?_
  refine x_nil <| x_then <| x_block <| x_loop (G := Unit) (fun (_ : Unit) a w' => ∃ uf1 : Nat → Value, a = frm 92 uf1 [(0, S l), (2, .pointer (some ⟨g1, 0, none⟩)), (4, .slice (some ⟨gs, 0, none⟩) ((words l).length) ((words l).length)), (5, .pointer (some ⟨g2, 0, none⟩)), (58, .slice none 0 0), (59, .int .i64 0), (60, .int .i64 0)] [] ∧ Hs [] w0 w' [.blk g2 (stepA ⟨8, 0, (fun _ => 0), 0, 7, 0, 0, 0, 0, 0, 0, 0⟩) 41, .row (.slice (some ⟨gs, 0, none⟩) ((words l).length) ((words l).length)) 9 1 ((words l).length) (List.map S (words l)), .blk g1 (stepA ⟨0, 0, (fun _ => 0), 0, 0, 0, 0, 0, 0, 0, 0, 0⟩) 41]) (fun _ => 0) () ⟨_, frm_of, H⟩ ?_
  clear H
  rintro _ _ v9 ⟨uf1, rfl, H⟩
  refine x_seq <| x_region <| x_b H [.m] <| x_nil <| x_then <| x_seq <| x_f (by kernel_rfl) ?_
  refine x_exit <| x_then_exit <| x_then_exit <| x_blk_exit <| x_then <| x_seq <| x_region ?_
  refine x_b H [.n 0 0 75 41] <| z_callB H (bare_of ⟨8, 0, (fun _ => 0), 0, 7, 0, 0, 0, 0, 0, 0, 0⟩ _) fun v10 H => z_store H 0 0 ((stepA ⟨8, 0, (fun _ => 0), 0, 7, 0, 0, 0, 0, 0, 0, 0⟩)).toList (fun v11 H => ?_)
  refine x_nil <| x_then <| x_seq <| x_seq <| x_region <| x_b H [.n 0 0 75 41] <| z_callB H (SShow_yes (x := (fillF 7 (words l))) (fillF_rng (by decide) _) (fillF_right (by decide) (by decide) _) _ (hE.on hM H)) fun v12 H => ?_
  refine x_b H [.m, .m, .m, .m, .m] <| x_nil <| x_then <| x_seq <| x_region <| x_b H [.m, .m, .m, .m, .m] <| x_eq (.bool (!(decide (txtS (fillF 7 (words l)) = l)))) (strNe (txtS (fillF 7 (words l))) l) (by kernel_rfl) rfl (by kernel_rfl) ?_
  refine x_b H [.v (.bool (!(decide (txtS (fillF 7 (words l)) = l))))] <| x_nil <| x_then ?_
  cases h1 : decide (txtS (fillF 7 (words l)) = l)
  · skip
    have h1p := of_decide_eq_false h1
    refine x_t (by kernel_rfl) <| x_seq <| x_region <| x_b H [.m] <| z_store H 2 0 ((stepA ⟨0, 0, (fun _ => 0), 0, 0, 0, 0, 0, 0, 0, 0, 0⟩)).toList (fun v13 H => ?_)
    refine x_b H [.m] <| x_nil <| x_then <| x_retc <| x_then_ret <| x_ret (.tuple #[.agg (stepA ⟨0, 0, (fun _ => 0), 0, 0, 0, 0, 0, 0, 0, 0, 0⟩), .int .i64 61]) (by kernel_rfl) (x_results [.cell 2 41, .tmp 3] [.agg (stepA ⟨0, 0, (fun _ => 0), 0, 0, 0, 0, 0, 0, 0, 0, 0⟩), .int .i64 61] _ rfl (AllR.cell (by kernel_rfl) (ldR H 2 g1 0 (stepA ⟨0, 0, (fun _ => 0), 0, 0, 0, 0, 0, 0, 0, 0, 0⟩) 41 (stepL ⟨0, 0, (fun _ => 0), 0, 0, 0, 0, 0, 0, 0, 0, 0⟩) (by kernel_rfl) (by kernel_rfl) (by kernel_rfl)) (AllR.tmp (by kernel_rfl) AllR.nil)) (by kernel_rfl)) ?_
    exact ⟨by rw [pres_no (of_decide_eq_false h1)]; rfl, H.below⟩
  have h1p := of_decide_eq_true h1
  refine x_f (by kernel_rfl) <| x_skipc <| x_then <| x_seq <| x_region <| x_b H [.n 0 0 75 41] <| z_store H 2 0 ((stepA ⟨8, 0, (fun _ => 0), 0, 7, 0, 0, 0, 0, 0, 0, 0⟩)).toList (fun v14 H => ?_)
  refine x_b H [.m] <| x_nil <| x_then <| x_retc <| x_ret (.tuple #[.agg (stepA ⟨8, 0, (fun _ => 0), 0, 7, 0, 0, 0, 0, 0, 0, 0⟩), .int .i64 0]) (by kernel_rfl) (x_results [.cell 2 41, .tmp 3] [.agg (stepA ⟨8, 0, (fun _ => 0), 0, 7, 0, 0, 0, 0, 0, 0, 0⟩), .int .i64 0] _ rfl (AllR.cell (by kernel_rfl) (ldR H 2 g1 0 (stepA ⟨8, 0, (fun _ => 0), 0, 7, 0, 0, 0, 0, 0, 0, 0⟩) 41 (stepL ⟨8, 0, (fun _ => 0), 0, 7, 0, 0, 0, 0, 0, 0, 0⟩) (by kernel_rfl) (by kernel_rfl) (by kernel_rfl)) (AllR.tmp (by kernel_rfl) AllR.nil)) (by kernel_rfl)) ?_
  exact ⟨by rw [pres_yes (of_decide_eq_true h1)]; rfl, H.below⟩
set_option maxRecDepth 100000 in
set_option maxHeartbeats 4000000 in
theorem Parse_0 {l : List UInt8} (hl : l.length ≤ 100000) (hw : wIx ((words l).getD 0 []) = 0) (hf : fIx ((words l).getD 0 []) = 0) (w0 : World) (hE : EnvS w0) :
    Calls Tryd.prog 19 #[S l] w0 fun e w' => e = .returned (.tuple #[.agg (stepA zeroS), .int .i64 61]) ∧ Below w0.heap.size w0 w' := by
  refine z_enter Tryd.func19 rfl ?_
  have H := Hs.nil w0
  have hM := nilM
  have hwp := words_pos l
  refine x_seq <| x_region <| z_box H (stepA ⟨0, 0, (fun _ => 0), 0, 0, 0, 0, 0, 0, 0, 0, 0⟩) 41 (fun v1 g1 H => ?_)
  refine x_b H [.m] <| x_nil <| x_then <| x_seq <| x_region <| x_b H [.m] <| z_call (Split_of l hl (hE.on hM H)) ?_
  rintro _ v2 ⟨gs, rfl, hN'⟩
  refine ⟨_, rfl, ?_⟩
  replace H := H.more hN'
  clear hN'
  refine x_b H [.m] <| x_nil <| x_then <| x_seq <| x_region <| z_box H (stepA ⟨0, 0, (fun _ => 0), 0, 0, 0, 0, 0, 0, 0, 0, 0⟩) 41 (fun v3 g2 H => ?_)
  refine x_nil <| x_then <| x_seq <| x_seq <| z_region_whole H <| q_b [.m, .m] <| q_ix (t := 60) gs 0 0 ((words l).length) ((words l).length) 9 1 0 (words_pos l) (by omega) (by kernel_rfl) (by kernel_rfl) (by kernel_rfl) (fun _ => by kernel_rfl) ?_
  refine q_loadc gs 0 (S ((words l).getD 0 ([] : List UInt8))) (fun _ H => H.rowCell 1 rfl 0 (mapAt ([] : List UInt8) (by omega))) (by kernel_rfl) (fun _ => by kernel_rfl) <| q_callR (.int .i64 (-1)) (by kernel_rfl) (fun _ => by kernel_rfl) (fun _ H => (WIx_v hw (hE.on hM H))) <| q_b [.m] <| q_nil ?_
  clear H
  intro v4 H
  refine x_then <| x_seq <| x_region <| x_b H [.m, .m] <| x_nil <| x_then <| x_f (by kernel_rfl) ?_
  refine x_skipc <| x_then <| x_seq <| x_seq <| z_region_whole H <| q_b [.m, .m] <| q_ix (t := 60) gs 0 0 ((words l).length) ((words l).length) 9 1 0 (words_pos l) (by omega) (by kernel_rfl) (by kernel_rfl) (by kernel_rfl) (fun _ => by kernel_rfl) ?_
  refine q_loadc gs 0 (S ((words l).getD 0 ([] : List UInt8))) (fun _ H => H.rowCell 1 rfl 0 (mapAt ([] : List UInt8) (by omega))) (by kernel_rfl) (fun _ => by kernel_rfl) <| q_callR (.int .i64 (-1)) (by kernel_rfl) (fun _ => by kernel_rfl) (fun _ H => (FIx_v hf (hE.on hM H))) <| q_b [.m] <| q_nil ?_
  clear H
  intro v5 H
  refine x_then <| x_seq <| x_region <| x_b H [.m, .m] <| x_nil <| x_then <| x_f (by kernel_rfl) ?_
  refine x_skipc <| x_then <| x_seq <| x_region <| x_b H [.n 0 0 75 41] <| z_callB H (bare_of ⟨0, 0, (fun _ => 0), 0, 0, 0, 0, 0, 0, 0, 0, 0⟩ _) fun v6 H => z_store H 0 0 ((stepA ⟨0, 0, (fun _ => 0), 0, 0, 0, 0, 0, 0, 0, 0, 0⟩)).toList (fun v7 H => ?_)
  refine x_nil <| x_then <| x_seq <| x_seq <| x_region <| x_b H [.n 0 0 75 41] <| z_callB H (SShow_zero _) fun v8 H => ?_
  refine x_b H [.m, .m, .m, .m, .m] <| x_nil <| x_then <| x_seq <| x_region <| x_b H [.m, .m, .m, .k, .k, .k, .m] <| x_nil ?_
  refine x_then <| x_t (by kernel_rfl) <| x_seq <| x_region <| x_b H [.m] <| z_store H 2 0 ((stepA ⟨0, 0, (fun _ => 0), 0, 0, 0, 0, 0, 0, 0, 0, 0⟩)).toList (fun v9 H => ?_)
  refine x_b H [.m] <| x_nil <| z_fr 92 [(2, .pointer (some ⟨g1, 0, none⟩)), (3, .int .i64 61)] [] fun uf1 => x_then <| x_retc <| x_then_ret <| x_ret (.tuple #[.agg (stepA ⟨0, 0, (fun _ => 0), 0, 0, 0, 0, 0, 0, 0, 0, 0⟩), .int .i64 61]) (by kernel_rfl) (x_results [.cell 2 41, .tmp 3] [.agg (stepA ⟨0, 0, (fun _ => 0), 0, 0, 0, 0, 0, 0, 0, 0, 0⟩), .int .i64 61] _ rfl (AllR.cell (by kernel_rfl) (ldR H 2 g1 0 (stepA ⟨0, 0, (fun _ => 0), 0, 0, 0, 0, 0, 0, 0, 0, 0⟩) 41 (stepL ⟨0, 0, (fun _ => 0), 0, 0, 0, 0, 0, 0, 0, 0, 0⟩) (by kernel_rfl) (by kernel_rfl) (by kernel_rfl)) (AllR.tmp (by kernel_rfl) AllR.nil)) (by kernel_rfl)) ?_
  exact ⟨rfl, H.below⟩
theorem Parse_good {l : List UInt8} (hl : l.length ≤ 100000) (hg : goodT l) (w : World) (hE : EnvS w) : Calls Tryd.prog 19 #[S l] w fun e w' => e = .returned (.tuple #[.agg (stepA (stepOf l)), .int .i64 0]) ∧ Below w.heap.size w w' := by
  rw [← pres_yes hg.2]
  have h7 := wIx_le ((words l).getD 0 [])
  have h8 := fIx_le ((words l).getD 0 [])
  by_cases hw0 : wIx ((words l).getD 0 []) = 0
  · by_cases hf0 : fIx ((words l).getD 0 []) = 0
    · have h1 := hg.1; rw [stepOf_0 hw0 hf0] at h1; exact absurd (show (1 : Int) ≤ 0 from h1) (by decide)
    · obtain ⟨i, hi⟩ : ∃ i, fIx ((words l).getD 0 []) = i := ⟨_, rfl⟩
      rw [stepOf_f hw0 hi (by omega)]
      have : i = 1 ∨ i = 2 ∨ i = 3 ∨ i = 4 ∨ i = 5 ∨ i = 6 ∨ i = 7 := by omega
      rcases this with rfl | rfl | rfl | rfl | rfl | rfl | rfl
      · exact Parse_f1 hl hw0 hi w hE
      · exact Parse_f2 hl hw0 hi w hE
      · exact Parse_f3 hl hw0 hi w hE
      · exact Parse_f4 hl hw0 hi w hE
      · exact Parse_f5 hl hw0 hi w hE
      · exact Parse_f6 hl hw0 hi w hE
      · exact Parse_f7 hl hw0 hi w hE
  · obtain ⟨i, hi⟩ : ∃ i, wIx ((words l).getD 0 []) = i := ⟨_, rfl⟩
    have hf0 := fIx_w hi (by omega)
    rw [stepOf_w hi (by omega)]
    have : i = 1 ∨ i = 2 ∨ i = 3 ∨ i = 4 ∨ i = 5 ∨ i = 6 ∨ i = 7 := by omega
    rcases this with rfl | rfl | rfl | rfl | rfl | rfl | rfl
    · exact Parse_w1 hl hi hf0 w hE
    · exact Parse_w2 hl hi hf0 w hE
    · exact Parse_w3 hl hi hf0 w hE
    · exact Parse_w4 hl hi hf0 w hE
    · exact Parse_w5 hl hi hf0 w hE
    · exact Parse_w6 hl hi hf0 w hE
    · exact Parse_w7 hl hi hf0 w hE
theorem Parse_bad {l : List UInt8} (hl : l.length ≤ 100000) (hg : ¬ goodT l) (w : World) (hE : EnvS w) : Calls Tryd.prog 19 #[S l] w fun e w' => e = .returned (.tuple #[.agg (stepA zeroS), .int .i64 61]) ∧ Below w.heap.size w w' := by
  have h7 := wIx_le ((words l).getD 0 [])
  have h8 := fIx_le ((words l).getD 0 [])
  by_cases hw0 : wIx ((words l).getD 0 []) = 0
  · by_cases hf0 : fIx ((words l).getD 0 []) = 0
    · exact Parse_0 hl hw0 hf0 w hE
    · obtain ⟨i, hi⟩ : ∃ i, fIx ((words l).getD 0 []) = i := ⟨_, rfl⟩
      have hn : ¬ txtS (fillF i (words l)) = l := fun h => hg ⟨by rw [stepOf_f hw0 hi (by omega)]; exact (fillF_right (by omega) (by omega) _).1, by rw [stepOf_f hw0 hi (by omega)]; exact h⟩
      rw [← pres_no hn]
      have : i = 1 ∨ i = 2 ∨ i = 3 ∨ i = 4 ∨ i = 5 ∨ i = 6 ∨ i = 7 := by omega
      rcases this with rfl | rfl | rfl | rfl | rfl | rfl | rfl
      · exact Parse_f1 hl hw0 hi w hE
      · exact Parse_f2 hl hw0 hi w hE
      · exact Parse_f3 hl hw0 hi w hE
      · exact Parse_f4 hl hw0 hi w hE
      · exact Parse_f5 hl hw0 hi w hE
      · exact Parse_f6 hl hw0 hi w hE
      · exact Parse_f7 hl hw0 hi w hE
  · obtain ⟨i, hi⟩ : ∃ i, wIx ((words l).getD 0 []) = i := ⟨_, rfl⟩
    have hf0 := fIx_w hi (by omega)
    have hn : ¬ txtS (fillW i (words l)) = l := fun h => hg ⟨by rw [stepOf_w hi (by omega)]; exact (fillW_right (by omega) (by omega) _).1, by rw [stepOf_w hi (by omega)]; exact h⟩
    rw [← pres_no hn]
    have : i = 1 ∨ i = 2 ∨ i = 3 ∨ i = 4 ∨ i = 5 ∨ i = 6 ∨ i = 7 := by omega
    rcases this with rfl | rfl | rfl | rfl | rfl | rfl | rfl
    · exact Parse_w1 hl hi hf0 w hE
    · exact Parse_w2 hl hi hf0 w hE
    · exact Parse_w3 hl hi hf0 w hE
    · exact Parse_w4 hl hi hf0 w hE
    · exact Parse_w5 hl hi hf0 w hE
    · exact Parse_w6 hl hi hf0 w hE
    · exact Parse_w7 hl hi hf0 w hE
end Go.Proofs.YtjbaabffilejeaaDoor
