/- The law ScriptLines, walked. -/
import Derived.Test.YtjbaabffilejeaaDoorLnB
import Derived.Test.YtjbaabffilejeaaDoorDrZ
import Derived.Test.YtjbaabffilejeaaDoorPxZ
namespace Go.Proofs.YtjbaabffilejeaaDoor
open Go Go.RowKit
set_option linter.unusedVariables false
set_option linter.unusedSimpArgs false
theorem shown_yes {x : Stp} (hx : Rng x) (hr : RightS x) (w : World) : Calls Tryd.prog 16 #[.agg (stepA x)] w fun e w' => e = .returned (.tuple #[S (txtS x), .bool true]) ∧ Below w.heap.size w w' :=
  (shown_of hx w).mono fun e w' ⟨t, he, ht, hb⟩ => ⟨by rw [he, ht hr, decide_eq_true hr], hb⟩
theorem shown_no {x : Stp} (hx : Rng x) (hr : ¬ RightS x) (w : World) : Calls Tryd.prog 16 #[.agg (stepA x)] w fun e w' => ∃ t, e = .returned (.tuple #[S t, .bool false]) ∧ Below w.heap.size w w' :=
  (shown_of hx w).mono fun e w' ⟨t, he, _, hb⟩ => ⟨t, by rw [he, decide_eq_false hr], hb⟩
theorem All_read {n : Nat} {xs : List Stp} (hlx : xs.length = n) (h40 : n ≤ 40) (hx : ∀ x ∈ xs, Rng x) (hr : ∀ x ∈ xs, RightS x) (w : World) (hE : EnvS w) : Calls Tryd.prog 21 #[S (unl (List.map txtS xs))] w fun e w' => ∃ sv ys, e = .returned (.tuple #[sv, .int .i64 0, .int .i64 0]) ∧ Hs [] w w' [.row sv 41 75 n (List.flatMap stepL ys)] ∧ ys.length = n ∧ ∀ k, k < n → SEQ (ys.getD k zeroS) (xs.getD k zeroS) :=
  (All_good (noNl_txt hx) (by rw [List.length_map]; omega) (len_txts hx) (good_txts hx hr) w hE).mono fun e w' ⟨sv, he, H⟩ => ⟨sv, _, he, by rw [List.length_map, hlx] at H; exact H, by simp [hlx], fun k hk => again_at hx hr (by omega)⟩
theorem All_mid {n at' : Nat} {xs : List Stp} {bd : List UInt8} (hlx : xs.length = n) (h40 : n ≤ 40) (hat : at' ≤ n) (hx : ∀ x ∈ xs, Rng x) (hr : ∀ x ∈ xs, RightS x) (hb : ¬ goodT bd) (hno : ¬ (10 : UInt8) ∈ bd) (hbl : bd.length ≤ 400) (w : World) (hE : EnvS w) :
    Calls Tryd.prog 21 #[S (((unl (List.map txtS (xs.take at')) ++ bd) ++ [10]) ++ unl (List.map txtS (xs.drop at')))] w fun e w' => e = .returned (.tuple #[.slice none 0 0, .int .i64 (((at' : Nat) : Int) + 1), .int .i64 61]) ∧ Below w.heap.size w w' := by
  have h := All_bad (p := List.map txtS (xs.take at')) (b := bd) (tl := List.map txtS (xs.drop at')) (noNl_mid (noNl_txt (memT hx _)) (noNl_txt (memD hx _)) hno) (by simp; omega)
    (fun z hz => by
      rcases List.mem_append.1 hz with h | h
      · exact len_txts (memT hx _) z h
      · rcases List.mem_cons.1 h with rfl | h
        · omega
        · exact len_txts (memD hx _) z h) (good_txts (memT hx _) (memT hr _)) hb w hE
  rw [mid_text, show (List.map txtS (xs.take at')).length = at' by simp; omega] at h
  exact h
set_option maxRecDepth 100000 in
set_option maxHeartbeats 4000000 in
theorem LLines_bad {ad : Option Addr} {n c : Nat} {xs : List Stp} {bd : List UInt8} {ix : Int} (hlx : xs.length = n) (hnc : n ≤ c) (hx : ∀ x ∈ xs, Rng x) (hb : ∃ x ∈ xs, ¬ RightS x) (w0 : World) (hE : EnvS w0) (hA : RAt stepL 75 zeroS w0 ad n xs) :
    Calls Tryd.prog 7 #[.slice ad n c, .int .i64 ix, S bd] w0 fun e w' => e = .returned (.bool true) ∧ Below w0.heap.size w0 w' := by
  refine z_enter Tryd.func7 rfl ?_
  have H := Hs.nil w0
  have hM := nilM
  refine x_seq <| x_region <| x_b H [.m] <| x_nil <| x_then <| x_seq <| x_seq ?_
  refine x_region <| z_callB H (anchor23 _ (hE.on hM H)) fun v1 H => x_b H [.m] <| x_nil <| x_then <| x_f (by kernel_rfl) <| x_skipc ?_
  refine x_then <| x_seq <| x_seq <| x_region <| x_b H [.m, .m, .v (.bool (decide (40 < (n : Int)))), .v (.bool (decide (40 < (n : Int))))] ?_
  cases h1 : decide (40 < (n : Int))
  · skip
    have h1p := of_decide_eq_false h1
    have h40 : n ≤ 40 := by omega
    refine x_b H [.m, .m, .v (.bool (decide (400 < ((bd.length : Nat) : Int)))), .v (.bool (decide (400 < ((bd.length : Nat) : Int))))] <| x_nil <| x_then ?_
    cases h2 : decide (400 < ((bd.length : Nat) : Int))
    · skip
      have h2p := of_decide_eq_false h2
      have hbl : bd.length ≤ 400 := by omega
      refine x_f (by kernel_rfl) <| x_skipc <| x_then <| x_seq <| x_region <| x_b H [.m] <| z_callB H (SLines_bad (c := c) hlx h40 hx hb _ (hE.on hM H) (hA.at H.below)) fun v2 H => ?_
      refine x_b H [.m, .m, .m, .m, .m] <| x_nil <| x_then <| x_seq <| x_region <| x_b H [.m] <| x_nil ?_
      refine x_then <| x_seq <| x_seq <| x_region <| x_b H [.m, .m, .m] <| x_nil <| x_then ?_
      refine x_block <| x_loop (G := Nat × List UInt8) (fun gh a w' => match gh with | (k, want) => ∃ uf1 : Nat → Value, a = frm 173 uf1 [(0, .slice ad n c), (1, .int .i64 ix), (2, S bd), (7, S ([] : List UInt8)), (8, .int .i64 10), (9, S want), (42, .slice ad n c), (43, .int .i64 (n : Int)), (44, .int .i64 (k : Int))] [] ∧ Hs [] w0 w' [] ∧ (k ≤ n) ∧ (want = unl (TX xs k)) ∧ (∀ x ∈ xs.take k, RightS x)) (fun gh => match gh with | (k, want) => n - k) (0, []) ⟨_, frm_of, H, (Nat.zero_le _), rfl, (fun x h => by simp at h)⟩ ?_
      clear H
      rintro ⟨k, want⟩ _ v3 ⟨uf1, rfl, H, r1, r2, r3⟩
      refine x_seq <| x_region <| x_b H [.v (.bool (decide ((k : Int) < (n : Int))))] <| x_nil <| x_then <| x_seq ?_
      cases h3 : decide ((k : Int) < (n : Int))
      · skip
        have h3p := of_decide_eq_false h3
        exact (let ⟨x, hxm, hxr⟩ := hb; hxr (r3 x (by rw [List.take_of_length_le (by omega)]; exact hxm))).elim
      have h3p := of_decide_eq_true h3
      refine x_t (by kernel_rfl) <| x_skipc <| x_then <| x_seq <| x_block <| x_seq <| x_region ?_
      obtain ⟨ga, oa, had, hcell⟩ := hA (by omega)
      have hkx : k < xs.length := by omega
      have hmem := getD_memS hkx
      have hxk := hx _ hmem
      have hln := txtS_len hxk
      have htl := TX_len hx k
      rw [← r2] at htl
      refine x_ixO (t := 49) had k n c 41 75 (oa + k * 75) (by omega) (by omega) (by kernel_rfl) (by kernel_rfl) (by kernel_rfl) rfl (by kernel_rfl) <| x_loadcn (t := 41) ga (oa + k * 75) (stepL ((xs.getD k zeroS))) (hcell _ H.below k (by omega)) (by kernel_rfl) rfl (by kernel_rfl) (by kernel_rfl) <| z_box H (stepA ⟨0, 0, (fun _ => 0), 0, 0, 0, 0, 0, 0, 0, 0, 0⟩) 41 (fun v4 g1 H => ?_)
      refine z_store H 0 0 ((stepA ((xs.getD k zeroS)))).toList (fun v5 H => ?_)
      refine x_nil <| x_then <| x_seq <| x_region <| x_b H [.n 0 0 75 41] ?_
      by_cases hrx : RightS (xs.getD k zeroS)
      · skip
        refine z_callB H (shown_yes hxk hrx _) fun v6 H => x_b H [.m, .m, .m, .m, .m] <| x_nil <| x_then <| x_seq <| x_seq <| x_region ?_
        refine x_b H [.m, .m] <| x_nil <| x_then <| x_f (by kernel_rfl) <| x_skipc <| x_then <| x_region ?_
        refine x_b H [.m, .m] <| x_val (S ((txtS (xs.getD k zeroS)) ++ ([10] : List UInt8))) (by kernel_rfl) rfl (Eq.trans (by kernel_rfl) (strAdd (P := Tryd.prog) (t := 9) (a := txtS (xs.getD k zeroS)) (b := ([10] : List UInt8)) (by simp only [List.length_cons, List.length_nil]; omega))) <| x_val (S (want ++ ((txtS (xs.getD k zeroS)) ++ ([10] : List UInt8)))) (by kernel_rfl) rfl (Eq.trans (by kernel_rfl) (strAdd (P := Tryd.prog) (t := 9) (a := want) (b := (txtS (xs.getD k zeroS)) ++ ([10] : List UInt8)) (by simp only [List.length_append, List.length_cons, List.length_nil]; omega))) <| x_b H [.m] <| x_nil <| x_blk <| x_then ?_
        refine x_region <| z_ar ((k : Int) + 1) <| x_b H [.m] <| x_nil <| x_then ?_
        replace H := H.pk []
        exact ⟨((k + 1), (want ++ ((txtS (xs.getD k zeroS)) ++ ([10] : List UInt8)))), (by dsimp only; omega), _, frm_of, H, (by omega), (by rw [TX_succ hkx, ← r2]), (take_one hkx r3 hrx)⟩
      · skip
        refine z_call (shown_no hxk hrx _) ?_
        rintro _ v7 ⟨t, rfl, hB'⟩
        refine ⟨_, rfl, ?_⟩
        replace H := H.via hB'
        clear hB'
        refine x_b H [.m, .m, .m, .m, .m] <| x_nil <| x_then <| x_seq <| x_seq <| x_region <| x_b H [.m, .m] ?_
        refine x_nil <| x_then <| x_t (by kernel_rfl) <| x_seq <| x_region <| x_b H [.m, .m, .m, .m] <| x_eq (.bool true) ((strEq ([] : List UInt8) ([] : List UInt8)).trans (by simp)) (by kernel_rfl) rfl (by kernel_rfl) ?_
        refine x_b H [.m, .m] <| x_nil <| x_then <| x_retc <| x_then_ret <| x_blk_ret <| x_then_ret ?_
        refine x_then_ret <| x_blk_ret <| x_then_ret <| x_ret (.bool true) (by kernel_rfl) (by kernel_rfl) ?_
        exact ⟨rfl, H.below⟩
    have h2p := of_decide_eq_true h2
    refine x_t (by kernel_rfl) <| x_seq <| x_region <| x_b H [.m] <| x_nil <| x_then <| x_retc ?_
    refine x_then_ret <| x_ret (.bool true) (by kernel_rfl) (by kernel_rfl) ?_
    exact ⟨rfl, H.below⟩
  have h1p := of_decide_eq_true h1
  refine x_b H [.k, .k, .k, .m] <| x_nil <| x_then <| x_t (by kernel_rfl) <| x_seq <| x_region <| x_b H [.m] ?_
  refine x_nil <| x_then <| x_retc <| x_then_ret <| x_ret (.bool true) (by kernel_rfl) (by kernel_rfl) ?_
  exact ⟨rfl, H.below⟩
set_option maxRecDepth 100000 in
set_option maxHeartbeats 4000000 in
theorem LLines_out {ad : Option Addr} {n c : Nat} {xs : List Stp} {bd : List UInt8} {ix : Int} (hix : ix < 0 ∨ ((n : Nat) : Int) < ix) (hlx : xs.length = n) (hnc : n ≤ c) (hx : ∀ x ∈ xs, Rng x) (hr : ∀ x ∈ xs, RightS x) (w0 : World) (hE : EnvS w0) (hA : RAt stepL 75 zeroS w0 ad n xs) :
    Calls Tryd.prog 7 #[.slice ad n c, .int .i64 ix, S bd] w0 fun e w' => e = .returned (.bool true) ∧ Below w0.heap.size w0 w' := by
  refine z_enter Tryd.func7 rfl ?_
  have H := Hs.nil w0
  have hM := nilM
  refine x_seq <| x_region <| x_b H [.m] <| x_nil <| x_then <| x_seq <| x_seq ?_
  refine x_region <| z_callB H (anchor23 _ (hE.on hM H)) fun v1 H => x_b H [.m] <| x_nil <| x_then <| x_f (by kernel_rfl) <| x_skipc ?_
  refine x_then <| x_seq <| x_seq <| x_region <| x_b H [.m, .m, .v (.bool (decide (40 < (n : Int)))), .v (.bool (decide (40 < (n : Int))))] ?_
  cases h1 : decide (40 < (n : Int))
  · skip
    have h1p := of_decide_eq_false h1
    have h40 : n ≤ 40 := by omega
    refine x_b H [.m, .m, .v (.bool (decide (400 < ((bd.length : Nat) : Int)))), .v (.bool (decide (400 < ((bd.length : Nat) : Int))))] <| x_nil <| x_then ?_
    cases h2 : decide (400 < ((bd.length : Nat) : Int))
    · skip
      have h2p := of_decide_eq_false h2
      have hbl : bd.length ≤ 400 := by omega
      refine x_f (by kernel_rfl) <| x_skipc <| x_then <| x_seq <| x_region <| x_b H [.m] <| z_callB H (SLines_good (c := c) hlx h40 hx hr _ (hE.on hM H) (hA.at H.below)) fun v2 H => ?_
      refine x_b H [.m, .m, .m, .m, .m] <| x_nil <| x_then <| x_seq <| x_region <| x_b H [.m] <| x_nil ?_
      refine x_then <| x_seq <| x_seq <| x_region <| x_b H [.m, .m, .m] <| x_nil <| x_then ?_
      refine x_block <| x_loop (G := Nat × List UInt8) (fun gh a w' => match gh with | (k, want) => ∃ uf1 : Nat → Value, a = frm 173 uf1 [(0, .slice ad n c), (1, .int .i64 ix), (2, S bd), (7, S (unl (List.map txtS xs))), (8, .int .i64 0), (9, S want), (42, .slice ad n c), (43, .int .i64 (n : Int)), (44, .int .i64 (k : Int))] [] ∧ Hs [] w0 w' [] ∧ (k ≤ n) ∧ (want = unl (TX xs k))) (fun gh => match gh with | (k, want) => n - k) (0, []) ⟨_, frm_of, H, (Nat.zero_le _), rfl⟩ ?_
      clear H
      rintro ⟨k, want⟩ _ v3 ⟨uf1, rfl, H, r1, r2⟩
      refine x_seq <| x_region <| x_b H [.v (.bool (decide ((k : Int) < (n : Int))))] <| x_nil <| x_then <| x_seq ?_
      cases h3 : decide ((k : Int) < (n : Int))
      · skip
        have h3p := of_decide_eq_false h3
        refine x_f (by kernel_rfl) <| x_exit <| x_then_exit <| x_then_exit <| x_blk_exit <| x_then <| x_seq ?_
        refine x_region ?_
        have hwant : decide (unl (List.map txtS xs) = want) = true := decide_eq_true (by rw [r2, TX_all (by omega)])
        refine x_b H [.m] <| z_call (All_read hlx h40 hx hr _ (hE.on hM H)) ?_
        rintro _ v4 ⟨sv, ys, rfl, hN', hyl, hys⟩
        refine ⟨_, rfl, ?_⟩
        replace H := H.more hN'
        clear hN'
        refine x_b H [.m, .m, .m, .m, .m, .m, .m] <| x_nil <| x_then <| x_seq <| x_seq <| x_region <| x_b H [.m, .m, .m, .m, .m] ?_
        refine x_eq (.bool (!(decide (unl (List.map txtS xs) = want)))) (strNe (unl (List.map txtS xs)) want) (by kernel_rfl) rfl (by kernel_rfl) <| x_b H [.v (.bool (!(decide (unl (List.map txtS xs) = want)))), .v (.bool (!(decide (unl (List.map txtS xs) = want))))] ?_
        rw [hwant]
        refine x_b H [.m, .m, .m, .m, .m, .m, .m, .m, .m] <| x_lenR H 0 sv 49 41 75 n (List.flatMap stepL ys) rfl (by kernel_rfl) (by kernel_rfl) rfl (by kernel_rfl) <| x_b H [.m, .m] <| x_eq (.bool false) (show Value.bool (!decide ((n : Int) = (n : Int))) = Value.bool false by simp) (by kernel_rfl) rfl (by kernel_rfl) <| x_b H [.m] <| x_nil <| x_then ?_
        refine x_f (by kernel_rfl) <| x_skipc <| x_then <| x_seq <| x_seq <| x_region <| x_b H [.m, .m, .m] ?_
        refine x_nil <| x_then <| x_block <| x_loop (G := Nat) (fun (k2 : Nat) a w' => ∃ uf2 : Nat → Value, a = frm 173 uf2 [(0, .slice ad n c), (1, .int .i64 ix), (2, S bd), (14, sv), (94, .slice ad n c), (95, .int .i64 (n : Int)), (96, .int .i64 (k2 : Int))] [] ∧ Hs [] w0 w' [.row (sv) 41 75 n (List.flatMap stepL ys)] ∧ (k2 ≤ n)) (fun (k2 : Nat) => n - k2) 0 ⟨_, frm_of, H, (Nat.zero_le _)⟩ ?_
        clear H
        rintro k2 _ v5 ⟨uf2, rfl, H, r1⟩
        refine x_seq <| x_region <| x_b H [.v (.bool (decide ((k2 : Int) < (n : Int))))] <| x_nil <| x_then <| x_seq ?_
        cases h4 : decide ((k2 : Int) < (n : Int))
        · skip
          have h4p := of_decide_eq_false h4
          refine x_f (by kernel_rfl) <| x_exit <| x_then_exit <| x_then_exit <| x_blk_exit <| x_then <| x_seq ?_
          refine x_seq <| x_region <| x_b H [.m, .m, .m] <| x_nil <| x_then <| x_block <| x_loop (G := Nat) (fun (k3 : Nat) a w' => ∃ uf3 : Nat → Value, a = frm 173 uf3 [(0, .slice ad n c), (1, .int .i64 ix), (2, S bd), (109, .int .i64 ((bd.length : Nat) : Int)), (110, .int .i64 (k3 : Int))] [] ∧ Hs [] w0 w' [.row (sv) 41 75 n (List.flatMap stepL ys)] ∧ (k3 ≤ bd.length) ∧ (∀ j, j < k3 → ¬ bd.getD j 0 = 10)) (fun (k3 : Nat) => bd.length - k3) 0 ⟨_, frm_of, H, (Nat.zero_le _), (fun j h => by omega)⟩ ?_
          clear H
          rintro k3 _ v6 ⟨uf3, rfl, H, r1, r2⟩
          refine x_seq <| x_region <| x_b H [.v (.bool (decide ((k3 : Int) < ((bd.length : Nat) : Int))))] <| x_nil <| x_then <| x_seq ?_
          cases h5 : decide ((k3 : Int) < ((bd.length : Nat) : Int))
          · skip
            have h5p := of_decide_eq_false h5
            refine x_f (by kernel_rfl) <| x_exit <| x_then_exit <| x_then_exit <| x_blk_exit <| x_then <| x_seq ?_
            refine x_seq <| x_region ?_
            have hno := no10_all r2 (by omega)
            refine x_b H [.m] ?_
            by_cases hgd : goodT bd
            · skip
              refine z_callB (v := .tuple #[.agg (stepA (stepOf bd)), .int .i64 0]) H (Parse_good (l := bd) (by omega) hgd _ (hE.on hM H)) fun v7 H => x_b H [.m, .m, .m] <| z_box H (stepA ⟨0, 0, (fun _ => 0), 0, 0, 0, 0, 0, 0, 0, 0, 0⟩) 41 (fun v8 g1 H => ?_)
              refine z_store H 0 0 ((stepA (stepOf bd))).toList (fun v9 H => ?_)
              refine x_b H [.m] <| x_nil <| x_then <| x_seq <| x_region <| x_b H [.m, .m, .m, .k, .k, .m, .m, .k, .k, .k, .k, .m] <| x_nil ?_
              refine x_then <| x_t (by kernel_rfl) <| x_seq <| x_region <| x_b H [.m] <| x_nil <| x_then ?_
              refine x_retc <| x_then_ret <| x_ret (.bool true) (by kernel_rfl) (by kernel_rfl) ?_
              exact ⟨rfl, H.below⟩
            · skip
              refine z_callB (v := .tuple #[.agg (stepA ⟨0, 0, (fun _ => 0), 0, 0, 0, 0, 0, 0, 0, 0, 0⟩), .int .i64 61]) H (Parse_bad (l := bd) (by omega) hgd _ (hE.on hM H)) fun v10 H => x_b H [.m, .m, .m] <| z_box H (stepA ⟨0, 0, (fun _ => 0), 0, 0, 0, 0, 0, 0, 0, 0, 0⟩) 41 (fun v11 g2 H => ?_)
              refine z_store H 0 0 ((stepA ⟨0, 0, (fun _ => 0), 0, 0, 0, 0, 0, 0, 0, 0, 0⟩)).toList (fun v12 H => ?_)
              refine x_b H [.m] <| x_nil <| x_then <| x_seq <| x_region <| x_b H [.m, .m, .m, .m, .v (.bool (decide (ix < 0))), .v (.bool (decide (ix < 0))), .v (.bool (decide (ix < 0)))] ?_
              cases h6 : decide (ix < 0)
              · skip
                have h6p := of_decide_eq_false h6
                refine x_b H [.m, .m, .m, .v (.bool (decide ((n : Int) < ix))), .v (.bool (decide ((n : Int) < ix)))] <| x_nil <| x_then ?_
                cases h7 : decide ((n : Int) < ix)
                · skip
                  have h7p := of_decide_eq_false h7
                  exact absurd h7p (by omega)
                have h7p := of_decide_eq_true h7
                refine x_t (by kernel_rfl) <| x_seq <| x_region <| x_b H [.m] <| x_nil <| x_then <| x_retc ?_
                refine x_then_ret <| x_ret (.bool true) (by kernel_rfl) (by kernel_rfl) ?_
                exact ⟨rfl, H.below⟩
              have h6p := of_decide_eq_true h6
              refine x_b H [.k, .k, .k, .k, .m] <| x_nil <| x_then <| x_t (by kernel_rfl) <| x_seq <| x_region <| x_b H [.m] ?_
              refine x_nil <| x_then <| x_retc <| x_then_ret <| x_ret (.bool true) (by kernel_rfl) (by kernel_rfl) ?_
              exact ⟨rfl, H.below⟩
          have h5p := of_decide_eq_true h5
          refine x_t (by kernel_rfl) <| x_skipc <| x_then <| x_seq <| x_block <| x_seq <| x_region ?_
          refine x_b H [.m, .m] <| x_nil <| x_then <| x_seq <| x_region <| x_b H [.m, .m] <| x_val (.int .u8 (((bd.getD k3 0).toNat : Nat) : Int)) (by kernel_rfl) rfl (Eq.trans (by kernel_rfl) (strIx (P := Tryd.prog) (t := 9) (l := bd) (k := k3) (by kernel_rfl) (by omega))) ?_
          refine x_b H [.v (.bool (decide ((((bd.getD k3 0).toNat : Nat) : Int) = 10)))] <| x_nil <| x_then ?_
          cases h8 : decide ((((bd.getD k3 0).toNat : Nat) : Int) = 10)
          · skip
            have h8p := of_decide_eq_false h8
            refine x_f (by kernel_rfl) <| x_skipc <| x_blk <| x_then <| x_region <| z_ar ((k3 : Int) + 1) <| x_b H [.m] ?_
            refine x_nil <| x_then ?_
            exact ⟨(k3 + 1), (by omega), _, frm_of, H, (by omega), (no10_succ r2 h8p)⟩
          have h8p := of_decide_eq_true h8
          refine x_t (by kernel_rfl) <| x_seq <| x_region <| x_b H [.m] <| x_nil <| x_then <| x_retc ?_
          refine x_blk_ret <| x_then_ret <| x_then_ret <| x_blk_ret <| x_then_ret <| x_ret (.bool true) (by kernel_rfl) (by kernel_rfl) ?_
          exact ⟨rfl, H.below⟩
        have h4p := of_decide_eq_true h4
        refine x_t (by kernel_rfl) <| x_skipc <| x_then <| x_seq <| x_block <| x_seq <| x_region ?_
        obtain ⟨ga, oa, had, hcell⟩ := hA (by omega)
        rcases H.rowForm 0 rfl with ⟨rfl, hf0⟩ | ⟨gf1, cf1, rfl, hcf1, -⟩
        · exfalso; omega
        have hsq := decide_eq_true (hys k2 (by omega))
        refine x_b H [.m] <| x_ixO (t := 49) had k2 n c 41 75 (oa + k2 * 75) (by omega) (by omega) (by kernel_rfl) (by kernel_rfl) (by kernel_rfl) rfl (by kernel_rfl) <| x_loadcn (t := 41) ga (oa + k2 * 75) (stepL ((xs.getD k2 zeroS))) (hcell _ H.below k2 (by omega)) (by kernel_rfl) rfl (by kernel_rfl) (by kernel_rfl) <| z_box H (stepA ⟨0, 0, (fun _ => 0), 0, 0, 0, 0, 0, 0, 0, 0, 0⟩) 41 (fun v13 g3 H => ?_)
        refine x_b H [.m] <| z_store H 0 0 ((stepA ((xs.getD k2 zeroS)))).toList (fun v14 H => ?_)
        refine x_nil <| x_then <| x_seq <| z_region_whole H <| q_b [.m, .m] <| q_ix (t := 49) gf1 0 k2 n cf1 41 75 (k2 * 75) (by omega) (by omega) (by kernel_rfl) (by kernel_rfl) (by kernel_rfl) (fun _ => by kernel_rfl) <| q_loadcn (t := 41) gf1 (k2 * 75) (stepL ((ys.getD k2 zeroS))) (fun _ H => H.rowCells 1 rfl (k2 * 75) (flatAt stepLen zeroS _ (by omega))) (by kernel_rfl) (by kernel_rfl) (by kernel_rfl) ?_
        refine q_b [.n 0 0 75 41] <| q_val (.bool (!(decide (SEQ ((ys.getD k2 zeroS)) ((xs.getD k2 zeroS)))))) (by kernel_rfl) (fun _ => (run_neT (P := Tryd.prog) (t := 41) (x := .tmp 104) (y := .tmp 105) (xs := stepA ((ys.getD k2 zeroS))) (ys := stepA ((xs.getD k2 zeroS))) (B := decide (SEQ ((ys.getD k2 zeroS)) ((xs.getD k2 zeroS)))) (by kernel_rfl) (by kernel_rfl) (stepEq ((ys.getD k2 zeroS)) ((xs.getD k2 zeroS))))) <| q_nil ?_
        clear H
        intro v15 H
        refine x_then ?_
        cases h9 : decide (SEQ ((ys.getD k2 zeroS)) ((xs.getD k2 zeroS)))
        · skip
          have h9p := of_decide_eq_false h9
          exact absurd (hys k2 (by omega)) h9p
        have h9p := of_decide_eq_true h9
        refine x_f (by kernel_rfl) <| x_skipc <| x_blk <| x_then <| x_region <| z_ar ((k2 : Int) + 1) <| x_b H [.m] ?_
        refine x_nil <| x_then ?_
        replace H := H.pk [1]
        exact ⟨(k2 + 1), (by omega), _, frm_of, H, (by omega)⟩
      have h3p := of_decide_eq_true h3
      refine x_t (by kernel_rfl) <| x_skipc <| x_then <| x_seq <| x_block <| x_seq <| x_region ?_
      obtain ⟨ga, oa, had, hcell⟩ := hA (by omega)
      have hkx : k < xs.length := by omega
      have hmem := getD_memS hkx
      have hxk := hx _ hmem
      have hln := txtS_len hxk
      have htl := TX_len hx k
      rw [← r2] at htl
      refine x_ixO (t := 49) had k n c 41 75 (oa + k * 75) (by omega) (by omega) (by kernel_rfl) (by kernel_rfl) (by kernel_rfl) rfl (by kernel_rfl) <| x_loadcn (t := 41) ga (oa + k * 75) (stepL ((xs.getD k zeroS))) (hcell _ H.below k (by omega)) (by kernel_rfl) rfl (by kernel_rfl) (by kernel_rfl) <| z_box H (stepA ⟨0, 0, (fun _ => 0), 0, 0, 0, 0, 0, 0, 0, 0, 0⟩) 41 (fun v16 g4 H => ?_)
      refine z_store H 0 0 ((stepA ((xs.getD k zeroS)))).toList (fun v17 H => ?_)
      refine x_nil <| x_then <| x_seq <| x_region <| x_b H [.n 0 0 75 41] <| z_callB H (shown_yes hxk (hr _ hmem) _) fun v18 H => x_b H [.m, .m, .m, .m, .m] ?_
      refine x_nil <| x_then <| x_seq <| x_seq <| x_region <| x_b H [.m, .m] <| x_nil ?_
      refine x_then <| x_f (by kernel_rfl) <| x_skipc <| x_then <| x_region <| x_b H [.m, .m] <| x_val (S ((txtS (xs.getD k zeroS)) ++ ([10] : List UInt8))) (by kernel_rfl) rfl (Eq.trans (by kernel_rfl) (strAdd (P := Tryd.prog) (t := 9) (a := txtS (xs.getD k zeroS)) (b := ([10] : List UInt8)) (by simp only [List.length_cons, List.length_nil]; omega))) ?_
      refine x_val (S (want ++ ((txtS (xs.getD k zeroS)) ++ ([10] : List UInt8)))) (by kernel_rfl) rfl (Eq.trans (by kernel_rfl) (strAdd (P := Tryd.prog) (t := 9) (a := want) (b := (txtS (xs.getD k zeroS)) ++ ([10] : List UInt8)) (by simp only [List.length_append, List.length_cons, List.length_nil]; omega))) <| x_b H [.m] <| x_nil <| x_blk <| x_then <| x_region <| z_ar ((k : Int) + 1) ?_
      refine x_b H [.m] <| x_nil <| x_then ?_
      replace H := H.pk []
      exact ⟨((k + 1), (want ++ ((txtS (xs.getD k zeroS)) ++ ([10] : List UInt8)))), (by dsimp only; omega), _, frm_of, H, (by omega), (by rw [TX_succ hkx, ← r2])⟩
    have h2p := of_decide_eq_true h2
    refine x_t (by kernel_rfl) <| x_seq <| x_region <| x_b H [.m] <| x_nil <| x_then <| x_retc ?_
    refine x_then_ret <| x_ret (.bool true) (by kernel_rfl) (by kernel_rfl) ?_
    exact ⟨rfl, H.below⟩
  have h1p := of_decide_eq_true h1
  refine x_b H [.k, .k, .k, .m] <| x_nil <| x_then <| x_t (by kernel_rfl) <| x_seq <| x_region <| x_b H [.m] ?_
  refine x_nil <| x_then <| x_retc <| x_then_ret <| x_ret (.bool true) (by kernel_rfl) (by kernel_rfl) ?_
  exact ⟨rfl, H.below⟩
set_option maxRecDepth 100000 in
set_option maxHeartbeats 4000000 in
theorem LLines_in {ad : Option Addr} {n c : Nat} {xs : List Stp} {bd : List UInt8} {ix : Nat} (hat : ix ≤ n) (hlx : xs.length = n) (hnc : n ≤ c) (hx : ∀ x ∈ xs, Rng x) (hr : ∀ x ∈ xs, RightS x) (w0 : World) (hE : EnvS w0) (hA : RAt stepL 75 zeroS w0 ad n xs) :
    Calls Tryd.prog 7 #[.slice ad n c, .int .i64 ((ix : Nat) : Int), S bd] w0 fun e w' => e = .returned (.bool true) ∧ Below w0.heap.size w0 w' := by
  refine z_enter Tryd.func7 rfl ?_
  have H := Hs.nil w0
  have hM := nilM
  refine x_seq <| x_region <| x_b H [.m] <| x_nil <| x_then <| x_seq <| x_seq ?_
  refine x_region <| z_callB H (anchor23 _ (hE.on hM H)) fun v1 H => x_b H [.m] <| x_nil <| x_then <| x_f (by kernel_rfl) <| x_skipc ?_
  refine x_then <| x_seq <| x_seq <| x_region <| x_b H [.m, .m, .v (.bool (decide (40 < (n : Int)))), .v (.bool (decide (40 < (n : Int))))] ?_
  cases h1 : decide (40 < (n : Int))
  · skip
    have h1p := of_decide_eq_false h1
    have h40 : n ≤ 40 := by omega
    refine x_b H [.m, .m, .v (.bool (decide (400 < ((bd.length : Nat) : Int)))), .v (.bool (decide (400 < ((bd.length : Nat) : Int))))] <| x_nil <| x_then ?_
    cases h2 : decide (400 < ((bd.length : Nat) : Int))
    · skip
      have h2p := of_decide_eq_false h2
      have hbl : bd.length ≤ 400 := by omega
      refine x_f (by kernel_rfl) <| x_skipc <| x_then <| x_seq <| x_region <| x_b H [.m] <| z_callB H (SLines_good (c := c) hlx h40 hx hr _ (hE.on hM H) (hA.at H.below)) fun v2 H => ?_
      refine x_b H [.m, .m, .m, .m, .m] <| x_nil <| x_then <| x_seq <| x_region <| x_b H [.m] <| x_nil ?_
      refine x_then <| x_seq <| x_seq <| x_region <| x_b H [.m, .m, .m] <| x_nil <| x_then ?_
      refine x_block <| x_loop (G := Nat × List UInt8) (fun gh a w' => match gh with | (k, want) => ∃ uf1 : Nat → Value, a = frm 173 uf1 [(0, .slice ad n c), (1, .int .i64 (ix : Int)), (2, S bd), (7, S (unl (List.map txtS xs))), (8, .int .i64 0), (9, S want), (42, .slice ad n c), (43, .int .i64 (n : Int)), (44, .int .i64 (k : Int))] [] ∧ Hs [] w0 w' [] ∧ (k ≤ n) ∧ (want = unl (TX xs k))) (fun gh => match gh with | (k, want) => n - k) (0, []) ⟨_, frm_of, H, (Nat.zero_le _), rfl⟩ ?_
      clear H
      rintro ⟨k, want⟩ _ v3 ⟨uf1, rfl, H, r1, r2⟩
      refine x_seq <| x_region <| x_b H [.v (.bool (decide ((k : Int) < (n : Int))))] <| x_nil <| x_then <| x_seq ?_
      cases h3 : decide ((k : Int) < (n : Int))
      · skip
        have h3p := of_decide_eq_false h3
        refine x_f (by kernel_rfl) <| x_exit <| x_then_exit <| x_then_exit <| x_blk_exit <| x_then <| x_seq ?_
        refine x_region ?_
        have hwant : decide (unl (List.map txtS xs) = want) = true := decide_eq_true (by rw [r2, TX_all (by omega)])
        refine x_b H [.m] <| z_call (All_read hlx h40 hx hr _ (hE.on hM H)) ?_
        rintro _ v4 ⟨sv, ys, rfl, hN', hyl, hys⟩
        refine ⟨_, rfl, ?_⟩
        replace H := H.more hN'
        clear hN'
        refine x_b H [.m, .m, .m, .m, .m, .m, .m] <| x_nil <| x_then <| x_seq <| x_seq <| x_region <| x_b H [.m, .m, .m, .m, .m] ?_
        refine x_eq (.bool (!(decide (unl (List.map txtS xs) = want)))) (strNe (unl (List.map txtS xs)) want) (by kernel_rfl) rfl (by kernel_rfl) <| x_b H [.v (.bool (!(decide (unl (List.map txtS xs) = want)))), .v (.bool (!(decide (unl (List.map txtS xs) = want))))] ?_
        rw [hwant]
        refine x_b H [.m, .m, .m, .m, .m, .m, .m, .m, .m] <| x_lenR H 0 sv 49 41 75 n (List.flatMap stepL ys) rfl (by kernel_rfl) (by kernel_rfl) rfl (by kernel_rfl) <| x_b H [.m, .m] <| x_eq (.bool false) (show Value.bool (!decide ((n : Int) = (n : Int))) = Value.bool false by simp) (by kernel_rfl) rfl (by kernel_rfl) <| x_b H [.m] <| x_nil <| x_then ?_
        refine x_f (by kernel_rfl) <| x_skipc <| x_then <| x_seq <| x_seq <| x_region <| x_b H [.m, .m, .m] ?_
        refine x_nil <| x_then <| x_block <| x_loop (G := Nat) (fun (k2 : Nat) a w' => ∃ uf2 : Nat → Value, a = frm 173 uf2 [(0, .slice ad n c), (1, .int .i64 (ix : Int)), (2, S bd), (14, sv), (94, .slice ad n c), (95, .int .i64 (n : Int)), (96, .int .i64 (k2 : Int))] [] ∧ Hs [] w0 w' [.row (sv) 41 75 n (List.flatMap stepL ys)] ∧ (k2 ≤ n)) (fun (k2 : Nat) => n - k2) 0 ⟨_, frm_of, H, (Nat.zero_le _)⟩ ?_
        clear H
        rintro k2 _ v5 ⟨uf2, rfl, H, r1⟩
        refine x_seq <| x_region <| x_b H [.v (.bool (decide ((k2 : Int) < (n : Int))))] <| x_nil <| x_then <| x_seq ?_
        cases h4 : decide ((k2 : Int) < (n : Int))
        · skip
          have h4p := of_decide_eq_false h4
          refine x_f (by kernel_rfl) <| x_exit <| x_then_exit <| x_then_exit <| x_blk_exit <| x_then <| x_seq ?_
          refine x_seq <| x_region <| x_b H [.m, .m, .m] <| x_nil <| x_then <| x_block <| x_loop (G := Nat) (fun (k3 : Nat) a w' => ∃ uf3 : Nat → Value, a = frm 173 uf3 [(0, .slice ad n c), (1, .int .i64 (ix : Int)), (2, S bd), (109, .int .i64 ((bd.length : Nat) : Int)), (110, .int .i64 (k3 : Int))] [] ∧ Hs [] w0 w' [.row (sv) 41 75 n (List.flatMap stepL ys)] ∧ (k3 ≤ bd.length) ∧ (∀ j, j < k3 → ¬ bd.getD j 0 = 10)) (fun (k3 : Nat) => bd.length - k3) 0 ⟨_, frm_of, H, (Nat.zero_le _), (fun j h => by omega)⟩ ?_
          clear H
          rintro k3 _ v6 ⟨uf3, rfl, H, r1, r2⟩
          refine x_seq <| x_region <| x_b H [.v (.bool (decide ((k3 : Int) < ((bd.length : Nat) : Int))))] <| x_nil <| x_then <| x_seq ?_
          cases h5 : decide ((k3 : Int) < ((bd.length : Nat) : Int))
          · skip
            have h5p := of_decide_eq_false h5
            refine x_f (by kernel_rfl) <| x_exit <| x_then_exit <| x_then_exit <| x_blk_exit <| x_then <| x_seq ?_
            refine x_seq <| x_region ?_
            have hno := no10_all r2 (by omega)
            refine x_b H [.m] ?_
            by_cases hgd : goodT bd
            · skip
              refine z_callB (v := .tuple #[.agg (stepA (stepOf bd)), .int .i64 0]) H (Parse_good (l := bd) (by omega) hgd _ (hE.on hM H)) fun v7 H => x_b H [.m, .m, .m] <| z_box H (stepA ⟨0, 0, (fun _ => 0), 0, 0, 0, 0, 0, 0, 0, 0, 0⟩) 41 (fun v8 g1 H => ?_)
              refine z_store H 0 0 ((stepA (stepOf bd))).toList (fun v9 H => ?_)
              refine x_b H [.m] <| x_nil <| x_then <| x_seq <| x_region <| x_b H [.m, .m, .m, .k, .k, .m, .m, .k, .k, .k, .k, .m] <| x_nil ?_
              refine x_then <| x_t (by kernel_rfl) <| x_seq <| x_region <| x_b H [.m] <| x_nil <| x_then ?_
              refine x_retc <| x_then_ret <| x_ret (.bool true) (by kernel_rfl) (by kernel_rfl) ?_
              exact ⟨rfl, H.below⟩
            · skip
              refine z_callB (v := .tuple #[.agg (stepA ⟨0, 0, (fun _ => 0), 0, 0, 0, 0, 0, 0, 0, 0, 0⟩), .int .i64 61]) H (Parse_bad (l := bd) (by omega) hgd _ (hE.on hM H)) fun v10 H => x_b H [.m, .m, .m] <| z_box H (stepA ⟨0, 0, (fun _ => 0), 0, 0, 0, 0, 0, 0, 0, 0, 0⟩) 41 (fun v11 g2 H => ?_)
              refine z_store H 0 0 ((stepA ⟨0, 0, (fun _ => 0), 0, 0, 0, 0, 0, 0, 0, 0, 0⟩)).toList (fun v12 H => ?_)
              refine x_b H [.m] <| x_nil <| x_then <| x_seq <| x_region <| x_b H [.m, .m, .m, .m, .v (.bool (decide ((ix : Int) < 0))), .v (.bool (decide ((ix : Int) < 0))), .v (.bool (decide ((ix : Int) < 0)))] ?_
              cases h6 : decide ((ix : Int) < 0)
              · skip
                have h6p := of_decide_eq_false h6
                refine x_b H [.m, .m, .m, .v (.bool (decide ((n : Int) < (ix : Int)))), .v (.bool (decide ((n : Int) < (ix : Int))))] <| x_nil <| x_then ?_
                cases h7 : decide ((n : Int) < (ix : Int))
                · skip
                  have h7p := of_decide_eq_false h7
                  refine x_f (by kernel_rfl) <| x_skipc <| x_then <| x_seq <| x_region <| x_b H [.m, .m] <| x_val (.slice ad ix c) (by kernel_rfl) rfl (Eq.trans (by kernel_rfl) (slcHA (P := Tryd.prog) (t := 49) (ad := ad) (n := n) (c := c) (h := ix) (sz := 75) (by kernel_rfl) (by kernel_rfl) (by omega))) ?_
                  refine z_callB (v := .tuple #[S (unl (List.map txtS (xs.take ix))), .int .i64 0]) H (SLines_good (c := c) (n := ix) (xs := xs.take ix) (by simp; omega) (by omega) (memT hx _) (memT hr _) _ (hE.on hM H) ((hA.pre hat).at H.below)) fun v13 H => x_b H [.m, .m, .m, .m, .m] <| x_nil <| x_then <| x_seq <| x_region <| x_b H [.m, .m] ?_
                  refine x_val (.slice (sufA ad c ix 75) (n - ix) (c - ix)) (by kernel_rfl) rfl (Eq.trans (by kernel_rfl) (slcL (P := Tryd.prog) (t := 49) (b := ad) (n := n) (c := c) (l := ix) (sz := 75) (by kernel_rfl) (by kernel_rfl) (by omega))) <| z_callB (v := .tuple #[S (unl (List.map txtS (xs.drop ix))), .int .i64 0]) H (SLines_good (c := c - ix) (n := n - ix) (xs := xs.drop ix) (by simp; omega) (by omega) (memD hx _) (memD hr _) _ (hE.on hM H) ((hA.suf hnc hat).at H.below)) fun v14 H => x_b H [.m, .m, .m, .m, .m] <| x_nil <| x_then <| x_seq <| x_region ?_
                  have hA1 := unl_len (List.map txtS (xs.take ix)) 5000 (len_txts (memT hx ix))
                  have hA2 := unl_len (List.map txtS (xs.drop ix)) 5000 (len_txts (memD hx ix))
                  have hA3 : (List.map txtS (xs.take ix)).length ≤ 40 := by simp; omega
                  have hA4 : (List.map txtS (xs.drop ix)).length ≤ 40 := by simp; omega
                  refine x_b H [.m, .m] <| x_val (S ((unl (List.map txtS (xs.take ix))) ++ bd)) (by kernel_rfl) rfl (Eq.trans (by kernel_rfl) (strAdd (P := Tryd.prog) (t := 9) (a := unl (List.map txtS (xs.take ix))) (b := bd) (by (try simp only [List.length_append, List.length_cons, List.length_nil]); omega))) <| x_val (S (((unl (List.map txtS (xs.take ix))) ++ bd) ++ ([10] : List UInt8))) (by kernel_rfl) rfl (Eq.trans (by kernel_rfl) (strAdd (P := Tryd.prog) (t := 9) (a := (unl (List.map txtS (xs.take ix))) ++ bd) (b := ([10] : List UInt8)) (by (try simp only [List.length_append, List.length_cons, List.length_nil]); omega))) <| x_b H [.m] <| x_val (S ((((unl (List.map txtS (xs.take ix))) ++ bd) ++ ([10] : List UInt8)) ++ (unl (List.map txtS (xs.drop ix))))) (by kernel_rfl) rfl (Eq.trans (by kernel_rfl) (strAdd (P := Tryd.prog) (t := 9) (a := ((unl (List.map txtS (xs.take ix))) ++ bd) ++ ([10] : List UInt8)) (b := unl (List.map txtS (xs.drop ix))) (by (try simp only [List.length_append, List.length_cons, List.length_nil]); omega))) ?_
                  refine z_callB H (All_mid hlx h40 hat hx hr hgd hno hbl _ (hE.on hM H)) fun v15 H => x_b H [.m, .m, .m, .m, .m, .m, .m] <| x_nil <| z_fr 173 [(1, .int .i64 (ix : Int)), (15, .int .i64 ((ix : Int) + 1)), (16, .int .i64 61), (26, .slice none 0 0)] [] fun uf4 => x_then <| x_seq <| x_region ?_
                  refine x_b H [.m, .m, .m, .m, .m, .m] <| z_ar ((ix : Int) + 1) <| x_eq (.bool true) (show Value.bool (decide (((ix : Int) + 1) = ((ix : Int) + 1))) = Value.bool true by simp) (by kernel_rfl) rfl (by kernel_rfl) <| x_b H [.m, .m, .m, .m, .m, .m] <| x_nil <| x_then <| x_retc ?_
                  refine x_ret (.bool true) (by kernel_rfl) (by kernel_rfl) ?_
                  exact ⟨rfl, H.below⟩
                have h7p := of_decide_eq_true h7
                exact absurd h7p (by omega)
              have h6p := of_decide_eq_true h6
              exact absurd h6p (by omega)
          have h5p := of_decide_eq_true h5
          refine x_t (by kernel_rfl) <| x_skipc <| x_then <| x_seq <| x_block <| x_seq <| x_region ?_
          refine x_b H [.m, .m] <| x_nil <| x_then <| x_seq <| x_region <| x_b H [.m, .m] <| x_val (.int .u8 (((bd.getD k3 0).toNat : Nat) : Int)) (by kernel_rfl) rfl (Eq.trans (by kernel_rfl) (strIx (P := Tryd.prog) (t := 9) (l := bd) (k := k3) (by kernel_rfl) (by omega))) ?_
          refine x_b H [.v (.bool (decide ((((bd.getD k3 0).toNat : Nat) : Int) = 10)))] <| x_nil <| x_then ?_
          cases h8 : decide ((((bd.getD k3 0).toNat : Nat) : Int) = 10)
          · skip
            have h8p := of_decide_eq_false h8
            refine x_f (by kernel_rfl) <| x_skipc <| x_blk <| x_then <| x_region <| z_ar ((k3 : Int) + 1) <| x_b H [.m] ?_
            refine x_nil <| x_then ?_
            exact ⟨(k3 + 1), (by omega), _, frm_of, H, (by omega), (no10_succ r2 h8p)⟩
          have h8p := of_decide_eq_true h8
          refine x_t (by kernel_rfl) <| x_seq <| x_region <| x_b H [.m] <| x_nil <| x_then <| x_retc ?_
          refine x_blk_ret <| x_then_ret <| x_then_ret <| x_blk_ret <| x_then_ret <| x_ret (.bool true) (by kernel_rfl) (by kernel_rfl) ?_
          exact ⟨rfl, H.below⟩
        have h4p := of_decide_eq_true h4
        refine x_t (by kernel_rfl) <| x_skipc <| x_then <| x_seq <| x_block <| x_seq <| x_region ?_
        obtain ⟨ga, oa, had, hcell⟩ := hA (by omega)
        rcases H.rowForm 0 rfl with ⟨rfl, hf0⟩ | ⟨gf1, cf1, rfl, hcf1, -⟩
        · exfalso; omega
        have hsq := decide_eq_true (hys k2 (by omega))
        refine x_b H [.m] <| x_ixO (t := 49) had k2 n c 41 75 (oa + k2 * 75) (by omega) (by omega) (by kernel_rfl) (by kernel_rfl) (by kernel_rfl) rfl (by kernel_rfl) <| x_loadcn (t := 41) ga (oa + k2 * 75) (stepL ((xs.getD k2 zeroS))) (hcell _ H.below k2 (by omega)) (by kernel_rfl) rfl (by kernel_rfl) (by kernel_rfl) <| z_box H (stepA ⟨0, 0, (fun _ => 0), 0, 0, 0, 0, 0, 0, 0, 0, 0⟩) 41 (fun v16 g3 H => ?_)
        refine x_b H [.m] <| z_store H 0 0 ((stepA ((xs.getD k2 zeroS)))).toList (fun v17 H => ?_)
        refine x_nil <| x_then <| x_seq <| z_region_whole H <| q_b [.m, .m] <| q_ix (t := 49) gf1 0 k2 n cf1 41 75 (k2 * 75) (by omega) (by omega) (by kernel_rfl) (by kernel_rfl) (by kernel_rfl) (fun _ => by kernel_rfl) <| q_loadcn (t := 41) gf1 (k2 * 75) (stepL ((ys.getD k2 zeroS))) (fun _ H => H.rowCells 1 rfl (k2 * 75) (flatAt stepLen zeroS _ (by omega))) (by kernel_rfl) (by kernel_rfl) (by kernel_rfl) ?_
        refine q_b [.n 0 0 75 41] <| q_val (.bool (!(decide (SEQ ((ys.getD k2 zeroS)) ((xs.getD k2 zeroS)))))) (by kernel_rfl) (fun _ => (run_neT (P := Tryd.prog) (t := 41) (x := .tmp 104) (y := .tmp 105) (xs := stepA ((ys.getD k2 zeroS))) (ys := stepA ((xs.getD k2 zeroS))) (B := decide (SEQ ((ys.getD k2 zeroS)) ((xs.getD k2 zeroS)))) (by kernel_rfl) (by kernel_rfl) (stepEq ((ys.getD k2 zeroS)) ((xs.getD k2 zeroS))))) <| q_nil ?_
        clear H
        intro v18 H
        refine x_then ?_
        cases h9 : decide (SEQ ((ys.getD k2 zeroS)) ((xs.getD k2 zeroS)))
        · skip
          have h9p := of_decide_eq_false h9
          exact absurd (hys k2 (by omega)) h9p
        have h9p := of_decide_eq_true h9
        refine x_f (by kernel_rfl) <| x_skipc <| x_blk <| x_then <| x_region <| z_ar ((k2 : Int) + 1) <| x_b H [.m] ?_
        refine x_nil <| x_then ?_
        replace H := H.pk [1]
        exact ⟨(k2 + 1), (by omega), _, frm_of, H, (by omega)⟩
      have h3p := of_decide_eq_true h3
      refine x_t (by kernel_rfl) <| x_skipc <| x_then <| x_seq <| x_block <| x_seq <| x_region ?_
      obtain ⟨ga, oa, had, hcell⟩ := hA (by omega)
      have hkx : k < xs.length := by omega
      have hmem := getD_memS hkx
      have hxk := hx _ hmem
      have hln := txtS_len hxk
      have htl := TX_len hx k
      rw [← r2] at htl
      refine x_ixO (t := 49) had k n c 41 75 (oa + k * 75) (by omega) (by omega) (by kernel_rfl) (by kernel_rfl) (by kernel_rfl) rfl (by kernel_rfl) <| x_loadcn (t := 41) ga (oa + k * 75) (stepL ((xs.getD k zeroS))) (hcell _ H.below k (by omega)) (by kernel_rfl) rfl (by kernel_rfl) (by kernel_rfl) <| z_box H (stepA ⟨0, 0, (fun _ => 0), 0, 0, 0, 0, 0, 0, 0, 0, 0⟩) 41 (fun v19 g4 H => ?_)
      refine z_store H 0 0 ((stepA ((xs.getD k zeroS)))).toList (fun v20 H => ?_)
      refine x_nil <| x_then <| x_seq <| x_region <| x_b H [.n 0 0 75 41] <| z_callB H (shown_yes hxk (hr _ hmem) _) fun v21 H => x_b H [.m, .m, .m, .m, .m] ?_
      refine x_nil <| x_then <| x_seq <| x_seq <| x_region <| x_b H [.m, .m] <| x_nil ?_
      refine x_then <| x_f (by kernel_rfl) <| x_skipc <| x_then <| x_region <| x_b H [.m, .m] <| x_val (S ((txtS (xs.getD k zeroS)) ++ ([10] : List UInt8))) (by kernel_rfl) rfl (Eq.trans (by kernel_rfl) (strAdd (P := Tryd.prog) (t := 9) (a := txtS (xs.getD k zeroS)) (b := ([10] : List UInt8)) (by simp only [List.length_cons, List.length_nil]; omega))) ?_
      refine x_val (S (want ++ ((txtS (xs.getD k zeroS)) ++ ([10] : List UInt8)))) (by kernel_rfl) rfl (Eq.trans (by kernel_rfl) (strAdd (P := Tryd.prog) (t := 9) (a := want) (b := (txtS (xs.getD k zeroS)) ++ ([10] : List UInt8)) (by simp only [List.length_append, List.length_cons, List.length_nil]; omega))) <| x_b H [.m] <| x_nil <| x_blk <| x_then <| x_region <| z_ar ((k : Int) + 1) ?_
      refine x_b H [.m] <| x_nil <| x_then ?_
      replace H := H.pk []
      exact ⟨((k + 1), (want ++ ((txtS (xs.getD k zeroS)) ++ ([10] : List UInt8)))), (by dsimp only; omega), _, frm_of, H, (by omega), (by rw [TX_succ hkx, ← r2])⟩
    have h2p := of_decide_eq_true h2
    refine x_t (by kernel_rfl) <| x_seq <| x_region <| x_b H [.m] <| x_nil <| x_then <| x_retc ?_
    refine x_then_ret <| x_ret (.bool true) (by kernel_rfl) (by kernel_rfl) ?_
    exact ⟨rfl, H.below⟩
  have h1p := of_decide_eq_true h1
  refine x_b H [.k, .k, .k, .m] <| x_nil <| x_then <| x_t (by kernel_rfl) <| x_seq <| x_region <| x_b H [.m] ?_
  refine x_nil <| x_then <| x_retc <| x_then_ret <| x_ret (.bool true) (by kernel_rfl) (by kernel_rfl) ?_
  exact ⟨rfl, H.below⟩
theorem ScriptLines_walk {ad : Option Addr} {n c : Nat} {xs : List Stp} (l : List UInt8) (i : Int) (hlx : xs.length = n) (hnc : n ≤ c) (hx : ∀ x ∈ xs, Rng x) (w0 : World) (hE : EnvS w0) (hA : RAt stepL 75 zeroS w0 ad n xs) : Calls Tryd.prog 7 #[.slice ad n c, .int .i64 i, S l] w0 fun e w' => e = .returned (.bool true) ∧ Below w0.heap.size w0 w' := by
  by_cases hb : ∃ x ∈ xs, ¬ RightS x
  · exact LLines_bad hlx hnc hx hb w0 hE hA
  · have hr : ∀ x ∈ xs, RightS x := fun x hxm => Classical.byContradiction fun h => hb ⟨x, hxm, h⟩
    by_cases hi : 0 ≤ i ∧ i ≤ ((n : Nat) : Int)
    · obtain ⟨k, rfl⟩ := Int.eq_ofNat_of_zero_le hi.1
      exact LLines_in (ix := k) (by omega) hlx hnc hx hr w0 hE hA
    · exact LLines_out (by omega) hlx hnc hx hr w0 hE hA
end Go.Proofs.YtjbaabffilejeaaDoor
