/- The document's table: Find, Without, Put over a list. -/
import Derived.Test.YtpeefnbcgilihaaTabD
namespace Go.Proofs.Ytpeefnbcgilihaa
open Go Go.RowKit
set_option linter.unusedVariables false
set_option linter.unusedSimpArgs false

theorem find_hit {xs : List PairI} {key : Int} {k : Nat} (h : k < xs.length) (hall : ∀ j, j < k → ¬ (xs.getD j (0, 0)).1 = key) (he : (xs.getD k (0, 0)).1 = key) : fkI xs key = k := by
  unfold fkI
  rw [List.findIdx_eq h]
  constructor
  · have e : xs.getD k (0, 0) = xs[k] := by simp [List.getD, h]
    rw [e] at he; simp [eqkI, he]
  · intro j hj
    have e : xs.getD j (0, 0) = xs[j] := by simp [List.getD, show j < xs.length by omega]
    have q := hall j hj
    rw [e] at q; simp [eqkI, q]
theorem find_miss {xs : List PairI} {key : Int} (hall : ∀ j, j < xs.length → ¬ (xs.getD j (0, 0)).1 = key) : findI xs key = -1 := by
  unfold findI
  rw [if_neg]
  intro h
  have q := fk_atI xs key h
  exact hall _ h (of_decide_eq_true q)
theorem er_next {xs : List PairI} {k q : Nat} (h : k < xs.length) (hne : ¬ k = q) : (xs.take (k + 1)).eraseIdx q = (xs.take k).eraseIdx q ++ [xs.getD k (0, 0)] := by
  rw [take_nextP xs k h]
  have hl : (xs.take k).length = k := by simp; omega
  by_cases hq : q < k
  · rw [List.eraseIdx_append_of_lt_length (by omega)]
  · rw [List.eraseIdx_of_length_le (by simp; omega), List.eraseIdx_of_length_le (by omega)]
theorem er_same {xs : List PairI} {q : Nat} (h : q < xs.length) : (xs.take (q + 1)).eraseIdx q = (xs.take q).eraseIdx q := by
  rw [take_nextP xs q h]
  have hl : (xs.take q).length = q := by simp; omega
  have e : (xs.take q).eraseIdx q = xs.take q := List.eraseIdx_of_length_le (by omega)
  rw [List.eraseIdx_append_of_length_le (by omega), hl, Nat.sub_self, e]
  simp

set_option maxRecDepth 100000 in
set_option maxHeartbeats 4000000 in
theorem RFind_s {g cap : Nat} (xs : List PairI) (key : Int) (hn : xs.length ≤ 4096) (w0 : World) (hR : Ro w0 [.row (.slice (some ⟨g, 0, none⟩) (List.length xs) cap) 77 2 (List.length xs) (List.flatMap pairLI xs)]) :
    Calls Try.prog 33 #[.slice (some ⟨g, 0, none⟩) (List.length xs) cap, .int .i64 key] w0 fun e w' => e = .returned (.int .i64 (findI xs key)) ∧ Below w0.heap.size w0 w' := by
  refine x_enter Try.func33 rfl #[.slice (some ⟨g, 0, none⟩) (List.length xs) cap, .int .i64 key, undef, undef, undef, undef, undef, undef, undef, undef, undef, undef, undef, undef, undef, undef, undef, undef, undef, undef] (by kernel_rfl) ?_
  have H := Hs.nil w0
  have R0 := hR
  refine x_seq ?_
  refine x_region ?_
  refine x_val (.int .i64 0) (by kernel_rfl) rfl (by kernel_rfl) ?_
  refine x_nil ?_
  refine x_then ?_
  refine x_seq ?_
  refine x_seq ?_
  refine x_region ?_
  refine x_val (.int .i64 0) (by kernel_rfl) rfl (by kernel_rfl) ?_
  refine x_nil ?_
  refine x_then ?_
  refine x_block ?_
  refine x_loop (G := Nat) (fun (k : Nat) a w' => ∃ uf1 : Nat → Value, a = { tmps := #[.slice (some ⟨g, 0, none⟩) (List.length xs) cap, .int .i64 key, undef, undef, (uf1 0), .int .i64 ((k : Nat) : Int), (uf1 1), (uf1 2), (uf1 3), (uf1 4), (uf1 5), (uf1 6), (uf1 7), (uf1 8), (uf1 9), (uf1 10), (uf1 11), (uf1 12), (uf1 13), (uf1 14)], defers := [] } ∧ Hs [] w0 w' [] ∧ (k ≤ xs.length) ∧ (∀ j, j < k → ¬ (xs.getD j (0, 0)).1 = key)) (fun (k : Nat) => xs.length - k) 0 ⟨(nthV [.int .i64 0, undef, undef, undef, undef, undef, undef, undef, undef, undef, undef, undef, undef, undef, undef]), (by kernel_rfl), H, (Nat.zero_le _), (fun j hj => absurd hj (Nat.not_lt_zero _))⟩ ?_
  clear H
  rintro k _ v1 ⟨uf1, rfl, H, r1, r2⟩
  refine x_seq ?_
  refine x_seq ?_
  refine x_region ?_
  refine x_val (.int .i64 ((k : Nat) : Int)) (by kernel_rfl) rfl (by kernel_rfl) ?_
  refine x_val (.slice (some ⟨g, 0, none⟩) (List.length xs) cap) (by kernel_rfl) rfl (by kernel_rfl) ?_
  refine x_val (.int .i64 (((List.length xs) : Nat) : Int)) (by kernel_rfl) rfl (by kernel_rfl) ?_
  refine x_val (.bool (decide (((k : Nat) : Int) < (((List.length xs) : Nat) : Int)))) (by kernel_rfl) rfl (by kernel_rfl) ?_
  refine x_nil ?_
  refine x_then ?_
  cases h1 : decide (((k : Nat) : Int) < (((List.length xs) : Nat) : Int))
  · skip
    have h1p := of_decide_eq_false h1
    refine x_f (by kernel_rfl) ?_
    refine x_exit ?_
    refine x_then_exit ?_
    refine x_then_exit ?_
    refine x_blk_exit ?_
    refine x_then ?_
    refine x_seq ?_
    refine x_region ?_
    refine x_val (.int .i64 (-1)) (by kernel_rfl) rfl (by kernel_rfl) ?_
    refine x_nil ?_
    refine x_then ?_
    refine x_retc ?_
    refine x_ret (.int .i64 (-1)) (by kernel_rfl) (by kernel_rfl) ?_
    exact ⟨by rw [find_miss (fun j hj => r2 j (by omega))], H.below⟩
  · skip
    have h1p := of_decide_eq_true h1
    refine x_t (by kernel_rfl) ?_
    refine x_skipc ?_
    refine x_then ?_
    refine x_seq ?_
    refine x_block ?_
    refine x_seq ?_
    refine x_region ?_
    refine x_val (.slice (some ⟨g, 0, none⟩) (List.length xs) cap) (by kernel_rfl) rfl (by kernel_rfl) ?_
    refine x_val (.int .i64 ((k : Nat) : Int)) (by kernel_rfl) rfl (by kernel_rfl) ?_
    refine x_ix (t := 70) g 0 k (List.length xs) cap 77 2 (k * 2) (by omega) (by omega) (by kernel_rfl) (by kernel_rfl) (by kernel_rfl) rfl (by kernel_rfl) ?_
    refine x_val (.pointer (some ⟨g, k * 2, none⟩)) (by kernel_rfl) rfl (by kernel_rfl) ?_
    refine x_loadc g (k * 2) (.int .i64 ((xs.getD k (0, 0)).1)) (((H.ro R0).rowCells 0 rfl (k * 2) (flatAt pairLenI (0, 0) _ (by omega))) 0 _ rfl) (by kernel_rfl) rfl (by kernel_rfl) ?_
    refine x_val (.int .i64 key) (by kernel_rfl) rfl (by kernel_rfl) ?_
    refine x_val (.bool (decide (((xs.getD k (0, 0)).1) = key))) (by kernel_rfl) rfl (by kernel_rfl) ?_
    refine x_nil ?_
    refine x_then ?_
    cases h2 : decide (((xs.getD k (0, 0)).1) = key)
    · skip
      have h2p := of_decide_eq_false h2
      refine x_f (by kernel_rfl) ?_
      refine x_skipc ?_
      refine x_blk ?_
      refine x_then ?_
      refine x_region ?_
      refine x_val (.int .i64 ((k : Nat) : Int)) (by kernel_rfl) rfl (by kernel_rfl) ?_
      refine x_ar (((k : Nat) : Int) + 1) ⟨by omega, by omega⟩ (by kernel_rfl) rfl (by kernel_rfl) ?_
      refine x_val (.int .i64 (((k : Nat) : Int) + 1)) (by kernel_rfl) rfl (by kernel_rfl) ?_
      refine x_nil ?_
      refine x_then ?_
      exact ⟨(k + 1), (by omega), (nthV [(uf1 0), .int .i64 ((k : Nat) : Int), .slice (some ⟨g, 0, none⟩) (List.length xs) cap, .int .i64 (((List.length xs) : Nat) : Int), .bool true, .int .i64 ((k : Nat) : Int), .int .i64 (((k : Nat) : Int) + 1), .slice (some ⟨g, 0, none⟩) (List.length xs) cap, .int .i64 ((k : Nat) : Int), .pointer (some ⟨g, k * 2, none⟩), .pointer (some ⟨g, k * 2, none⟩), .int .i64 ((xs.getD k (0, 0)).1), .int .i64 key, .bool false, (uf1 14)]), (by kernel_rfl), H, (by omega), (fun j hj => by by_cases e : j = k; (subst e; exact of_decide_eq_false h2); exact r2 j (by omega))⟩
    · skip
      have h2p := of_decide_eq_true h2
      refine x_t (by kernel_rfl) ?_
      refine x_seq ?_
      refine x_region ?_
      refine x_val (.int .i64 ((k : Nat) : Int)) (by kernel_rfl) rfl (by kernel_rfl) ?_
      refine x_val (.int .i64 ((k : Nat) : Int)) (by kernel_rfl) rfl (by kernel_rfl) ?_
      refine x_nil ?_
      refine x_then ?_
      refine x_retc ?_
      refine x_blk_ret ?_
      refine x_then_ret ?_
      refine x_then_ret ?_
      refine x_blk_ret ?_
      refine x_then_ret ?_
      refine x_ret (.int .i64 ((k : Nat) : Int)) (by kernel_rfl) (by kernel_rfl) ?_
      have e := find_hit (show k < xs.length by omega) r2 (of_decide_eq_true h2)
      exact ⟨by unfold findI; rw [e, if_pos (by omega)], H.below⟩

theorem RFind {sv : Value} (xs : List PairI) (key : Int) (hn : xs.length ≤ 4096) (w0 : World) (hR : Ro w0 [.row (sv) 77 2 (List.length xs) (List.flatMap pairLI xs)]) : Calls Try.prog 33 #[sv, .int .i64 key] w0 fun e w' => e = .returned (.int .i64 (findI xs key)) ∧ Below w0.heap.size w0 w' := by
  rcases rowForm (hR 0 _ rfl : w0.ownsRow 0 _ 2 sv _ _) with ⟨rfl, h0⟩ | ⟨g, cap, rfl, hc, _⟩
  · rw [find_miss (fun j hj => by omega)]; exact RFind_nil key w0
  · exact RFind_s xs key hn w0 hR

set_option maxRecDepth 100000 in
set_option maxHeartbeats 4000000 in
theorem RWithout_s {g cap : Nat} (xs : List PairI) (q : Nat) (hq : q < xs.length) (hn : xs.length ≤ 4096) (w0 : World) (hR : Ro w0 [.row (.slice (some ⟨g, 0, none⟩) (List.length xs) cap) 77 2 (List.length xs) (List.flatMap pairLI xs)]) :
    Calls Try.prog 46 #[.slice (some ⟨g, 0, none⟩) (List.length xs) cap, .int .i64 ((q : Nat) : Int)] w0 fun e w' => ∃ u, e = .returned u ∧ Hs [] w0 w' [.row (u) 77 2 (List.length (xs.eraseIdx q)) (List.flatMap pairLI (xs.eraseIdx q))] := by
  refine x_enter Try.func46 rfl #[.slice (some ⟨g, 0, none⟩) (List.length xs) cap, .int .i64 ((q : Nat) : Int), undef, undef, undef, undef, undef, undef, undef, undef, undef, undef, undef, undef, undef, undef, undef, undef, undef, undef, undef, undef, undef, undef] (by kernel_rfl) ?_
  have H := Hs.nil w0
  have R0 := hR
  refine x_seq ?_
  refine x_region ?_
  refine x_val (.slice none 0 0) (by kernel_rfl) rfl (by kernel_rfl) ?_
  refine x_nil ?_
  refine x_then ?_
  refine x_seq ?_
  refine x_region ?_
  refine x_val (.slice none 0 0) (by kernel_rfl) rfl (by kernel_rfl) ?_
  refine x_nil ?_
  refine x_then ?_
  refine x_seq ?_
  refine x_seq ?_
  refine x_region ?_
  refine x_val (.int .i64 0) (by kernel_rfl) rfl (by kernel_rfl) ?_
  refine x_nil ?_
  refine x_then ?_
  refine x_block ?_
  replace H := H.nilRow 77 2
  refine x_loop (G := Nat × Value) (fun gh a w' => match gh with | (k, ov) => ∃ uf1 : Nat → Value, a = { tmps := #[.slice (some ⟨g, 0, none⟩) (List.length xs) cap, .int .i64 ((q : Nat) : Int), undef, undef, .slice none 0 0, ov, .int .i64 ((k : Nat) : Int), (uf1 0), (uf1 1), (uf1 2), (uf1 3), (uf1 4), (uf1 5), (uf1 6), (uf1 7), (uf1 8), (uf1 9), (uf1 10), (uf1 11), (uf1 12), (uf1 13), (uf1 14), (uf1 15), undef], defers := [] } ∧ Hs [] w0 w' [.row (ov) 77 2 (List.length (List.eraseIdx (List.take k xs) q)) (List.flatMap pairLI (List.eraseIdx (List.take k xs) q))] ∧ (k ≤ xs.length)) (fun gh => match gh with | (k, ov) => xs.length - k) (0, .slice none 0 0) ⟨(nthV [undef, undef, undef, undef, undef, undef, undef, undef, undef, undef, undef, undef, undef, undef, undef, undef]), (by kernel_rfl), H, (Nat.zero_le _)⟩ ?_
  clear H
  rintro ⟨k, ov⟩ _ v1 ⟨uf1, rfl, H, r1⟩
  refine x_seq ?_
  refine x_seq ?_
  refine x_region ?_
  refine x_val (.int .i64 ((k : Nat) : Int)) (by kernel_rfl) rfl (by kernel_rfl) ?_
  refine x_val (.slice (some ⟨g, 0, none⟩) (List.length xs) cap) (by kernel_rfl) rfl (by kernel_rfl) ?_
  refine x_val (.int .i64 (((List.length xs) : Nat) : Int)) (by kernel_rfl) rfl (by kernel_rfl) ?_
  refine x_val (.bool (decide (((k : Nat) : Int) < (((List.length xs) : Nat) : Int)))) (by kernel_rfl) rfl (by kernel_rfl) ?_
  refine x_nil ?_
  refine x_then ?_
  cases h1 : decide (((k : Nat) : Int) < (((List.length xs) : Nat) : Int))
  · skip
    have h1p := of_decide_eq_false h1
    refine x_f (by kernel_rfl) ?_
    refine x_exit ?_
    refine x_then_exit ?_
    refine x_then_exit ?_
    refine x_blk_exit ?_
    refine x_then ?_
    refine x_seq ?_
    refine x_region ?_
    refine x_val (ov) (by kernel_rfl) rfl (by kernel_rfl) ?_
    refine x_val (ov) (by kernel_rfl) rfl (by kernel_rfl) ?_
    refine x_nil ?_
    refine x_then ?_
    refine x_retc ?_
    refine x_ret (ov) (by kernel_rfl) (by kernel_rfl) ?_
    have hk : k = xs.length := by omega
    rw [hk, List.take_length] at H
    exact ⟨_, rfl, H.pick [0] _ (by decide) rfl⟩
  · skip
    have h1p := of_decide_eq_true h1
    refine x_t (by kernel_rfl) ?_
    refine x_skipc ?_
    refine x_then ?_
    refine x_seq ?_
    refine x_block ?_
    refine x_seq ?_
    refine x_region ?_
    refine x_val (.int .i64 ((k : Nat) : Int)) (by kernel_rfl) rfl (by kernel_rfl) ?_
    refine x_val (.int .i64 ((q : Nat) : Int)) (by kernel_rfl) rfl (by kernel_rfl) ?_
    refine x_val (.bool (!(decide (((k : Nat) : Int) = ((q : Nat) : Int))))) (by kernel_rfl) rfl (by kernel_rfl) ?_
    refine x_nil ?_
    refine x_then ?_
    cases h2 : decide (((k : Nat) : Int) = ((q : Nat) : Int))
    · skip
      have h2p := of_decide_eq_false h2
      refine x_t (by kernel_rfl) ?_
      refine x_region ?_
      refine x_val (ov) (by kernel_rfl) rfl (by kernel_rfl) ?_
      refine x_val (.slice (some ⟨g, 0, none⟩) (List.length xs) cap) (by kernel_rfl) rfl (by kernel_rfl) ?_
      refine x_val (.int .i64 ((k : Nat) : Int)) (by kernel_rfl) rfl (by kernel_rfl) ?_
      refine x_ix (t := 70) g 0 k (List.length xs) cap 77 2 (k * 2) (by omega) (by omega) (by kernel_rfl) (by kernel_rfl) (by kernel_rfl) rfl (by kernel_rfl) ?_
      refine x_loadcn (t := 77) g (k * 2) [.int .i64 ((xs.getD k (0, 0)).1), .int .i64 ((xs.getD k (0, 0)).2)] ((H.ro R0).rowCells 0 rfl (k * 2) (flatAt pairLenI (0, 0) _ (by omega))) (by kernel_rfl) rfl (by kernel_rfl) (by kernel_rfl) ?_
      refine x_box' H #[.int .i64 ((xs.getD k (0, 0)).1), .int .i64 ((xs.getD k (0, 0)).2)] 77 1 (by kernel_rfl) rfl (by kernel_rfl) ?_
      clear H
      intro v2 g1 H
      refine x_append H 1 (ov) 70 77 2 16 (List.length (List.eraseIdx (List.take k xs) q)) (.agg #[.int .i64 0, .int .i64 0]) (List.flatMap pairLI (List.eraseIdx (List.take k xs) q)) ⟨g1, 0, none⟩ 1 1 [.int .i64 ((xs.getD k (0, 0)).1), .int .i64 ((xs.getD k (0, 0)).2)] rfl (by kernel_rfl) (by kernel_rfl) rfl (by decide) (by decide) rfl (fun j u hj => by rw [add_none]; exact cellOf (H.blk 0 rfl) (by simpa using hj)) (List.all_eq_true.1 (by kernel_rfl)) (by have := List.length_eraseIdx_le (List.take k xs) q; have := List.length_take_le k xs; unfold maxLen; omega) (by have := List.length_eraseIdx_le (List.take k xs) q; have := List.length_take_le k xs; omega) (by kernel_rfl) rfl (by kernel_rfl) ?_
      clear H
      intro v3 g2 c2 hc2 H
      rw [show (((List.length (List.eraseIdx (List.take k xs) q)) + 1) : Nat) = (List.length (List.eraseIdx (List.take (k + 1) xs) q)) from (by rw [er_next (by omega) (by omega), List.length_append]; rfl)] at H ⊢
      rw [show (List.flatMap pairLI (List.eraseIdx (List.take k xs) q)) ++ [.int .i64 ((xs.getD k (0, 0)).1), .int .i64 ((xs.getD k (0, 0)).2)] = (List.flatMap pairLI (List.eraseIdx (List.take (k + 1) xs) q)) from (by rw [er_next (by omega) (by omega), List.flatMap_append]; rfl)] at H
      replace H : Hs [] w0 v3 [.blk g1 #[.int .i64 ((xs.getD k (0, 0)).1), .int .i64 ((xs.getD k (0, 0)).2)] 77, .row (.slice (some ⟨g2, 0, none⟩) (List.length (List.eraseIdx (List.take (k + 1) xs) q)) c2) 77 2 (List.length (List.eraseIdx (List.take (k + 1) xs) q)) (List.flatMap pairLI (List.eraseIdx (List.take (k + 1) xs) q))] := H
      replace H := H.pick [1] [.row (.slice (some ⟨g2, 0, none⟩) (List.length (List.eraseIdx (List.take (k + 1) xs) q)) c2) 77 2 (List.length (List.eraseIdx (List.take (k + 1) xs) q)) (List.flatMap pairLI (List.eraseIdx (List.take (k + 1) xs) q))] (by decide) (by kernel_rfl)
      refine x_val (.slice (some ⟨g2, 0, none⟩) (List.length (List.eraseIdx (List.take (k + 1) xs) q)) c2) (by kernel_rfl) rfl (by kernel_rfl) ?_
      refine x_nil ?_
      refine x_blk ?_
      refine x_then ?_
      refine x_region ?_
      refine x_val (.int .i64 ((k : Nat) : Int)) (by kernel_rfl) rfl (by kernel_rfl) ?_
      refine x_ar (((k : Nat) : Int) + 1) ⟨by omega, by omega⟩ (by kernel_rfl) rfl (by kernel_rfl) ?_
      refine x_val (.int .i64 (((k : Nat) : Int) + 1)) (by kernel_rfl) rfl (by kernel_rfl) ?_
      refine x_nil ?_
      refine x_then ?_
      replace H := H.pick [0] [.row (.slice (some ⟨g2, 0, none⟩) (List.length (List.eraseIdx (List.take (k + 1) xs) q)) c2) 77 2 (List.length (List.eraseIdx (List.take (k + 1) xs) q)) (List.flatMap pairLI (List.eraseIdx (List.take (k + 1) xs) q))] (by decide) (by kernel_rfl)
      exact ⟨(k + 1, .slice (some ⟨g2, 0, none⟩) (List.length (List.eraseIdx (List.take (k + 1) xs) q)) c2), (by dsimp only; omega), (nthV [.int .i64 ((k : Nat) : Int), .slice (some ⟨g, 0, none⟩) (List.length xs) cap, .int .i64 (((List.length xs) : Nat) : Int), .bool true, .int .i64 ((k : Nat) : Int), .int .i64 (((k : Nat) : Int) + 1), .int .i64 ((k : Nat) : Int), .int .i64 ((q : Nat) : Int), .bool true, ov, .slice (some ⟨g, 0, none⟩) (List.length xs) cap, .int .i64 ((k : Nat) : Int), .pointer (some ⟨g, k * 2, none⟩), .agg #[.int .i64 ((xs.getD k (0, 0)).1), .int .i64 ((xs.getD k (0, 0)).2)], .slice (some ⟨g1, 0, none⟩) 1 1, .slice (some ⟨g2, 0, none⟩) (List.length (List.eraseIdx (List.take (k + 1) xs) q)) c2]), (by kernel_rfl), H, (by omega)⟩
    · skip
      have h2p := of_decide_eq_true h2
      refine x_f (by kernel_rfl) ?_
      refine x_skipc ?_
      refine x_blk ?_
      refine x_then ?_
      refine x_region ?_
      refine x_val (.int .i64 ((k : Nat) : Int)) (by kernel_rfl) rfl (by kernel_rfl) ?_
      refine x_ar (((k : Nat) : Int) + 1) ⟨by omega, by omega⟩ (by kernel_rfl) rfl (by kernel_rfl) ?_
      refine x_val (.int .i64 (((k : Nat) : Int) + 1)) (by kernel_rfl) rfl (by kernel_rfl) ?_
      refine x_nil ?_
      refine x_then ?_
      have hkq : k = q := by omega
      rw [show (List.eraseIdx (List.take k xs) q) = (List.eraseIdx (List.take (k + 1) xs) q) from by rw [hkq]; exact (er_same hq).symm] at H
      exact ⟨(k + 1, ov), (by dsimp only; omega), (nthV [.int .i64 ((k : Nat) : Int), .slice (some ⟨g, 0, none⟩) (List.length xs) cap, .int .i64 (((List.length xs) : Nat) : Int), .bool true, .int .i64 ((k : Nat) : Int), .int .i64 (((k : Nat) : Int) + 1), .int .i64 ((k : Nat) : Int), .int .i64 ((q : Nat) : Int), .bool false, (uf1 9), (uf1 10), (uf1 11), (uf1 12), (uf1 13), (uf1 14), (uf1 15)]), (by kernel_rfl), H, (by omega)⟩

theorem RWithout {sv : Value} (xs : List PairI) (q : Nat) (hq : q < xs.length) (hn : xs.length ≤ 4096) (w0 : World) (hR : Ro w0 [.row (sv) 77 2 (List.length xs) (List.flatMap pairLI xs)]) : Calls Try.prog 46 #[sv, .int .i64 ((q : Nat) : Int)] w0 fun e w' => ∃ u, e = .returned u ∧ Hs [] w0 w' [.row (u) 77 2 (List.length (xs.eraseIdx q)) (List.flatMap pairLI (xs.eraseIdx q))] := by
  rcases rowForm (hR 0 _ rfl : w0.ownsRow 0 _ 2 sv _ _) with ⟨rfl, h0⟩ | ⟨g, cap, rfl, hc, _⟩
  · omega
  · exact RWithout_s xs q hq hn w0 hR

set_option maxRecDepth 100000 in
set_option maxHeartbeats 4000000 in
theorem RPut_set {g cap : Nat} (xs : List PairI) (room : Nat) (k v : Int) (hn : xs.length ≤ 4096) (hq : (fkI xs k) < xs.length) (w0 : World) (hR : Ro w0 [.row (.slice (some ⟨g, 0, none⟩) (List.length xs) cap) 77 2 (List.length xs) (List.flatMap pairLI xs)]) :
    Calls Try.prog 44 #[.slice (some ⟨g, 0, none⟩) (List.length xs) cap, .int .i64 ((room : Nat) : Int), .int .i64 k, .int .i64 v] w0 fun e w' => ∃ u, e = .returned (.tuple #[u, .int .i64 0, .bool false]) ∧ Hs [] w0 w' [.row (u) 77 2 (List.length (xs.set (fkI xs k) ((xs.getD (fkI xs k) (0, 0)).1, v))) (List.flatMap pairLI (xs.set (fkI xs k) ((xs.getD (fkI xs k) (0, 0)).1, v)))] := by
  refine x_enter Try.func44 rfl #[.slice (some ⟨g, 0, none⟩) (List.length xs) cap, .int .i64 ((room : Nat) : Int), .int .i64 k, .int .i64 v, undef, undef, undef, undef, undef, undef, undef, undef, undef, undef, undef, undef, undef, undef, undef, undef, undef, undef, undef, undef, undef, undef, undef, undef, undef, undef, undef, undef, undef, undef, undef, undef, undef, undef, undef, undef, undef, undef, undef, undef, undef, undef, undef, undef, undef, undef, undef, undef, undef, undef, undef, undef, undef, undef, undef, undef, undef, undef, undef, undef, undef, undef, undef, undef, undef, undef] (by kernel_rfl) ?_
  have H := Hs.nil w0
  have R0 := hR
  refine x_seq ?_
  refine x_region ?_
  refine x_val (.slice none 0 0) (by kernel_rfl) rfl (by kernel_rfl) ?_
  refine x_val (.int .i64 0) (by kernel_rfl) rfl (by kernel_rfl) ?_
  refine x_val (.bool false) (by kernel_rfl) rfl (by kernel_rfl) ?_
  refine x_nil ?_
  refine x_then ?_
  refine x_seq ?_
  refine x_region ?_
  refine x_val (.slice (some ⟨g, 0, none⟩) (List.length xs) cap) (by kernel_rfl) rfl (by kernel_rfl) ?_
  refine x_val (.int .i64 k) (by kernel_rfl) rfl (by kernel_rfl) ?_
  refine x_callB (.int .i64 (((fkI xs k) : Nat) : Int)) H (by kernel_rfl) rfl (by kernel_rfl) (by have h := RFind xs k hn _ (H.ro R0); rw [show findI xs k = (((fkI xs k) : Nat) : Int) by unfold findI; rw [if_pos hq]] at h; exact h) ?_
  clear H
  intro v1 H
  refine x_val (.int .i64 (((fkI xs k) : Nat) : Int)) (by kernel_rfl) rfl (by kernel_rfl) ?_
  refine x_nil ?_
  refine x_then ?_
  refine x_seq ?_
  refine x_region ?_
  refine x_val (.slice none 0 0) (by kernel_rfl) rfl (by kernel_rfl) ?_
  refine x_nil ?_
  refine x_then ?_
  refine x_seq ?_
  refine x_region ?_
  refine x_val (.slice none 0 0) (by kernel_rfl) rfl (by kernel_rfl) ?_
  refine x_val (.slice (some ⟨g, 0, none⟩) (List.length xs) cap) (by kernel_rfl) rfl (by kernel_rfl) ?_
  replace H := H.nilRow 77 2
  replace H : Hs [] w0 _ [.row (.slice none 0 0) 77 2 0 (List.flatMap pairLI ([] : List PairI))] := H
  refine x_appendSrc H 0 (.slice none 0 0) 70 77 2 16 0 (.agg #[.int .i64 0, .int .i64 0]) (List.flatMap pairLI ([] : List PairI)) (.slice (some ⟨g, 0, none⟩) (List.length xs) cap) (List.length xs) (List.flatMap pairLI xs) rfl (src_row ((H.ro R0) 0 _ rfl : Go.World.ownsRow _ 0 77 2 _ _ _)) (by kernel_rfl) (by kernel_rfl) (by kernel_rfl) (by decide) (oneCellFlat pairOneI _) (by unfold maxLen; omega) (by omega) (by kernel_rfl) rfl (by kernel_rfl) ?_
  clear H
  intro v2 vr20 H
  rw [show (List.flatMap pairLI ([] : List PairI)) ++ (List.flatMap pairLI xs) = (List.flatMap pairLI xs) from (by simp)] at H
  rw [show (0 + (List.length xs) : Nat) = (List.length xs) from (by simp)] at H
  replace H : Hs [] w0 v2 [.row (vr20) 77 2 (List.length xs) (List.flatMap pairLI xs)] := H
  rcases H.rowForm 0 rfl with ⟨rfl, h0⟩ | ⟨gr, cr, rfl, hcr, -⟩
  · exfalso; omega
  refine x_val (.slice (some ⟨gr, 0, none⟩) (List.length xs) cr) (by kernel_rfl) rfl (by kernel_rfl) ?_
  refine x_nil ?_
  refine x_then ?_
  refine x_seq ?_
  refine x_seq ?_
  refine x_region ?_
  refine x_val (.int .i64 (((fkI xs k) : Nat) : Int)) (by kernel_rfl) rfl (by kernel_rfl) ?_
  refine x_val (.bool (decide (0 ≤ (((fkI xs k) : Nat) : Int)))) (by kernel_rfl) rfl (by kernel_rfl) ?_
  refine x_nil ?_
  refine x_then ?_
  cases h1 : decide (0 ≤ (((fkI xs k) : Nat) : Int))
  · skip
    have h1p := of_decide_eq_false h1
    exact absurd h1p (by omega)
  · skip
    have h1p := of_decide_eq_true h1
    refine x_t (by kernel_rfl) ?_
    refine x_seq ?_
    refine x_region ?_
    refine x_val (.slice (some ⟨gr, 0, none⟩) (List.length xs) cr) (by kernel_rfl) rfl (by kernel_rfl) ?_
    refine x_val (.int .i64 (((fkI xs k) : Nat) : Int)) (by kernel_rfl) rfl (by kernel_rfl) ?_
    refine x_val (.int .i64 v) (by kernel_rfl) rfl (by kernel_rfl) ?_
    refine x_ix (t := 70) gr 0 (fkI xs k) (List.length xs) cr 77 2 ((fkI xs k) * 2) (by omega) (by omega) (by kernel_rfl) (by kernel_rfl) (by kernel_rfl) rfl (by kernel_rfl) ?_
    refine x_val (.pointer (some ⟨gr, (fkI xs k) * 2 + 1, none⟩)) (by kernel_rfl) rfl (by kernel_rfl) ?_
    refine x_storeRow (t := 3) (v := .int .i64 v) H 0 gr ((fkI xs k) * 2 + 1) (List.length xs) cr 77 2 (List.flatMap pairLI xs) [.int .i64 v] (List.flatMap pairLI (xs.set (fkI xs k) ((xs.getD (fkI xs k) (0, 0)).1, v))) [.row (.slice (some ⟨gr, 0, none⟩) (List.length xs) cr) 77 2 (List.length xs) (List.flatMap pairLI (xs.set (fkI xs k) ((xs.getD (fkI xs k) (0, 0)).1, v)))] rfl (by simp only [List.length_cons, List.length_nil]; omega) (by kernel_rfl) (flatSet pairLenI (d := (0, 0)) xs (by omega) 1 _ _ rfl) rfl (by kernel_rfl) rfl (by kernel_rfl) (by kernel_rfl) (by kernel_rfl) ?_
    clear H
    intro v3 H
    refine x_nil ?_
    refine x_then ?_
    refine x_seq ?_
    refine x_region ?_
    refine x_val (.slice (some ⟨gr, 0, none⟩) (List.length xs) cr) (by kernel_rfl) rfl (by kernel_rfl) ?_
    refine x_val (.slice (some ⟨gr, 0, none⟩) (List.length xs) cr) (by kernel_rfl) rfl (by kernel_rfl) ?_
    refine x_val (.int .i64 0) (by kernel_rfl) rfl (by kernel_rfl) ?_
    refine x_val (.bool false) (by kernel_rfl) rfl (by kernel_rfl) ?_
    refine x_nil ?_
    refine x_then ?_
    refine x_retc ?_
    refine x_then_ret ?_
    refine x_ret (.tuple #[.slice (some ⟨gr, 0, none⟩) (List.length xs) cr, .int .i64 0, .bool false]) (by kernel_rfl) (by kernel_rfl) ?_
    have hll : (xs.set (fkI xs k) ((xs.getD (fkI xs k) (0, 0)).1, v)).length = xs.length := List.length_set
    refine ⟨.slice (some ⟨gr, 0, none⟩) (List.length xs) cr, rfl, ?_⟩
    rw [hll]
    exact H.pick [0] _ (by decide) (by kernel_rfl)

set_option maxRecDepth 100000 in
set_option maxHeartbeats 4000000 in
theorem RPut_room_n (xs : List PairI) (room : Nat) (k v : Int) (hn : xs.length ≤ 4096) (hq : ¬ (fkI xs k) < xs.length) (hr : xs.length < room) (w0 : World) (hR : Ro w0 [.row (.slice none 0 0) 77 2 (List.length xs) (List.flatMap pairLI xs)]) :
    Calls Try.prog 44 #[.slice none 0 0, .int .i64 ((room : Nat) : Int), .int .i64 k, .int .i64 v] w0 fun e w' => ∃ u, e = .returned (.tuple #[u, .int .i64 0, .bool false]) ∧ Hs [] w0 w' [.row (u) 77 2 (List.length (xs ++ [(k, v)])) (List.flatMap pairLI (xs ++ [(k, v)]))] := by
  refine x_enter Try.func44 rfl #[.slice none 0 0, .int .i64 ((room : Nat) : Int), .int .i64 k, .int .i64 v, undef, undef, undef, undef, undef, undef, undef, undef, undef, undef, undef, undef, undef, undef, undef, undef, undef, undef, undef, undef, undef, undef, undef, undef, undef, undef, undef, undef, undef, undef, undef, undef, undef, undef, undef, undef, undef, undef, undef, undef, undef, undef, undef, undef, undef, undef, undef, undef, undef, undef, undef, undef, undef, undef, undef, undef, undef, undef, undef, undef, undef, undef, undef, undef, undef, undef] (by kernel_rfl) ?_
  have H := Hs.nil w0
  have R0 := hR
  have q1 : decide (0 < ((room : Nat) : Int)) = true := by simp; omega
  refine x_seq ?_
  refine x_region ?_
  refine x_val (.slice none 0 0) (by kernel_rfl) rfl (by kernel_rfl) ?_
  refine x_val (.int .i64 0) (by kernel_rfl) rfl (by kernel_rfl) ?_
  refine x_val (.bool false) (by kernel_rfl) rfl (by kernel_rfl) ?_
  refine x_nil ?_
  refine x_then ?_
  refine x_seq ?_
  refine x_region ?_
  refine x_val (.slice none 0 0) (by kernel_rfl) rfl (by kernel_rfl) ?_
  refine x_val (.int .i64 k) (by kernel_rfl) rfl (by kernel_rfl) ?_
  refine x_callB (.int .i64 (-1)) H (by kernel_rfl) rfl (by kernel_rfl) (by have h := RFind xs k hn _ (H.ro R0); rw [show findI xs k = -1 by unfold findI; rw [if_neg hq]] at h; exact h) ?_
  clear H
  intro v1 H
  refine x_val (.int .i64 (-1)) (by kernel_rfl) rfl (by kernel_rfl) ?_
  refine x_nil ?_
  refine x_then ?_
  refine x_seq ?_
  refine x_region ?_
  refine x_val (.slice none 0 0) (by kernel_rfl) rfl (by kernel_rfl) ?_
  refine x_nil ?_
  refine x_then ?_
  refine x_seq ?_
  refine x_region ?_
  refine x_val (.slice none 0 0) (by kernel_rfl) rfl (by kernel_rfl) ?_
  refine x_val (.slice none 0 0) (by kernel_rfl) rfl (by kernel_rfl) ?_
  replace H := H.nilRow 77 2
  replace H : Hs [] w0 _ [.row (.slice none 0 0) 77 2 0 (List.flatMap pairLI ([] : List PairI))] := H
  refine x_appendSrc H 0 (.slice none 0 0) 70 77 2 16 0 (.agg #[.int .i64 0, .int .i64 0]) (List.flatMap pairLI ([] : List PairI)) (.slice none 0 0) (List.length xs) (List.flatMap pairLI xs) rfl (src_row ((H.ro R0) 0 _ rfl : Go.World.ownsRow _ 0 77 2 _ _ _)) (by kernel_rfl) (by kernel_rfl) (by kernel_rfl) (by decide) (oneCellFlat pairOneI _) (by unfold maxLen; omega) (by omega) (by kernel_rfl) rfl (by kernel_rfl) ?_
  clear H
  intro v2 vr20 H
  rw [show (List.flatMap pairLI ([] : List PairI)) ++ (List.flatMap pairLI xs) = (List.flatMap pairLI xs) from (by simp)] at H
  rw [show (0 + (List.length xs) : Nat) = (List.length xs) from (by simp)] at H
  replace H : Hs [] w0 v2 [.row (vr20) 77 2 (List.length xs) (List.flatMap pairLI xs)] := H
  refine x_val (vr20) (by kernel_rfl) rfl (by kernel_rfl) ?_
  refine x_nil ?_
  refine x_then ?_
  refine x_seq ?_
  refine x_seq ?_
  refine x_region ?_
  refine x_val (.int .i64 (-1)) (by kernel_rfl) rfl (by kernel_rfl) ?_
  refine x_val (.bool false) (by kernel_rfl) rfl (by kernel_rfl) ?_
  refine x_nil ?_
  refine x_then ?_
  refine x_f (by kernel_rfl) ?_
  refine x_skipc ?_
  refine x_then ?_
  refine x_seq ?_
  refine x_seq ?_
  refine x_region ?_
  refine x_val (.slice none 0 0) (by kernel_rfl) rfl (by kernel_rfl) ?_
  refine x_val (.int .i64 0) (by kernel_rfl) rfl (by kernel_rfl) ?_
  refine x_val (.int .i64 ((room : Nat) : Int)) (by kernel_rfl) rfl (by kernel_rfl) ?_
  refine x_val (.bool (decide (0 < ((room : Nat) : Int)))) (by kernel_rfl) rfl (by kernel_rfl) ?_
  refine x_nil ?_
  refine x_then ?_
  rw [q1]
  refine x_t (by kernel_rfl) ?_
  refine x_seq ?_
  refine x_region ?_
  refine x_val (vr20) (by kernel_rfl) rfl (by kernel_rfl) ?_
  refine x_val (.int .i64 k) (by kernel_rfl) rfl (by kernel_rfl) ?_
  refine x_val (.int .i64 v) (by kernel_rfl) rfl (by kernel_rfl) ?_
  refine x_val (.agg #[.int .i64 k, .int .i64 v]) (by kernel_rfl) rfl (by kernel_rfl) ?_
  refine x_box' H #[.int .i64 k, .int .i64 v] 77 1 (by kernel_rfl) rfl (by kernel_rfl) ?_
  clear H
  intro v3 g1 H
  refine x_append H 1 (vr20) 70 77 2 16 (List.length xs) (.agg #[.int .i64 0, .int .i64 0]) (List.flatMap pairLI xs) ⟨g1, 0, none⟩ 1 1 [.int .i64 k, .int .i64 v] rfl (by kernel_rfl) (by kernel_rfl) rfl (by decide) (by decide) rfl (fun j u hj => by rw [add_none]; exact cellOf (H.blk 0 rfl) (by simpa using hj)) (List.all_eq_true.1 (by kernel_rfl)) (by unfold maxLen; omega) (by omega) (by kernel_rfl) rfl (by kernel_rfl) ?_
  clear H
  intro v4 g2 c2 hc2 H
  rw [show (((List.length xs) + 1) : Nat) = (List.length (xs ++ [(k, v)])) from (by simp)] at H ⊢
  rw [show (List.flatMap pairLI xs) ++ [.int .i64 k, .int .i64 v] = (List.flatMap pairLI (xs ++ [(k, v)])) from (by rw [List.flatMap_append]; rfl)] at H
  replace H : Hs [] w0 v4 [.blk g1 #[.int .i64 k, .int .i64 v] 77, .row (.slice (some ⟨g2, 0, none⟩) (List.length (xs ++ [(k, v)])) c2) 77 2 (List.length (xs ++ [(k, v)])) (List.flatMap pairLI (xs ++ [(k, v)]))] := H
  replace H := H.pick [1] [.row (.slice (some ⟨g2, 0, none⟩) (List.length (xs ++ [(k, v)])) c2) 77 2 (List.length (xs ++ [(k, v)])) (List.flatMap pairLI (xs ++ [(k, v)]))] (by decide) (by kernel_rfl)
  refine x_val (.slice (some ⟨g2, 0, none⟩) (List.length (xs ++ [(k, v)])) c2) (by kernel_rfl) rfl (by kernel_rfl) ?_
  refine x_val (.int .i64 0) (by kernel_rfl) rfl (by kernel_rfl) ?_
  refine x_val (.bool false) (by kernel_rfl) rfl (by kernel_rfl) ?_
  refine x_nil ?_
  refine x_then ?_
  refine x_retc ?_
  refine x_then_ret ?_
  refine x_ret (.tuple #[.slice (some ⟨g2, 0, none⟩) (List.length (xs ++ [(k, v)])) c2, .int .i64 0, .bool false]) (by kernel_rfl) (by kernel_rfl) ?_
  exact ⟨_, rfl, H.pick [0] _ (by decide) (by kernel_rfl)⟩

set_option maxRecDepth 100000 in
set_option maxHeartbeats 4000000 in
theorem RPut_room_s {g cap : Nat} (xs : List PairI) (room : Nat) (k v : Int) (hn : xs.length ≤ 4096) (hq : ¬ (fkI xs k) < xs.length) (hr : xs.length < room) (w0 : World) (hR : Ro w0 [.row (.slice (some ⟨g, 0, none⟩) (List.length xs) cap) 77 2 (List.length xs) (List.flatMap pairLI xs)]) :
    Calls Try.prog 44 #[.slice (some ⟨g, 0, none⟩) (List.length xs) cap, .int .i64 ((room : Nat) : Int), .int .i64 k, .int .i64 v] w0 fun e w' => ∃ u, e = .returned (.tuple #[u, .int .i64 0, .bool false]) ∧ Hs [] w0 w' [.row (u) 77 2 (List.length (xs ++ [(k, v)])) (List.flatMap pairLI (xs ++ [(k, v)]))] := by
  refine x_enter Try.func44 rfl #[.slice (some ⟨g, 0, none⟩) (List.length xs) cap, .int .i64 ((room : Nat) : Int), .int .i64 k, .int .i64 v, undef, undef, undef, undef, undef, undef, undef, undef, undef, undef, undef, undef, undef, undef, undef, undef, undef, undef, undef, undef, undef, undef, undef, undef, undef, undef, undef, undef, undef, undef, undef, undef, undef, undef, undef, undef, undef, undef, undef, undef, undef, undef, undef, undef, undef, undef, undef, undef, undef, undef, undef, undef, undef, undef, undef, undef, undef, undef, undef, undef, undef, undef, undef, undef, undef, undef] (by kernel_rfl) ?_
  have H := Hs.nil w0
  have R0 := hR
  have q1 : decide ((((List.length xs) : Nat) : Int) < ((room : Nat) : Int)) = true := by simp; omega
  refine x_seq ?_
  refine x_region ?_
  refine x_val (.slice none 0 0) (by kernel_rfl) rfl (by kernel_rfl) ?_
  refine x_val (.int .i64 0) (by kernel_rfl) rfl (by kernel_rfl) ?_
  refine x_val (.bool false) (by kernel_rfl) rfl (by kernel_rfl) ?_
  refine x_nil ?_
  refine x_then ?_
  refine x_seq ?_
  refine x_region ?_
  refine x_val (.slice (some ⟨g, 0, none⟩) (List.length xs) cap) (by kernel_rfl) rfl (by kernel_rfl) ?_
  refine x_val (.int .i64 k) (by kernel_rfl) rfl (by kernel_rfl) ?_
  refine x_callB (.int .i64 (-1)) H (by kernel_rfl) rfl (by kernel_rfl) (by have h := RFind xs k hn _ (H.ro R0); rw [show findI xs k = -1 by unfold findI; rw [if_neg hq]] at h; exact h) ?_
  clear H
  intro v1 H
  refine x_val (.int .i64 (-1)) (by kernel_rfl) rfl (by kernel_rfl) ?_
  refine x_nil ?_
  refine x_then ?_
  refine x_seq ?_
  refine x_region ?_
  refine x_val (.slice none 0 0) (by kernel_rfl) rfl (by kernel_rfl) ?_
  refine x_nil ?_
  refine x_then ?_
  refine x_seq ?_
  refine x_region ?_
  refine x_val (.slice none 0 0) (by kernel_rfl) rfl (by kernel_rfl) ?_
  refine x_val (.slice (some ⟨g, 0, none⟩) (List.length xs) cap) (by kernel_rfl) rfl (by kernel_rfl) ?_
  replace H := H.nilRow 77 2
  replace H : Hs [] w0 _ [.row (.slice none 0 0) 77 2 0 (List.flatMap pairLI ([] : List PairI))] := H
  refine x_appendSrc H 0 (.slice none 0 0) 70 77 2 16 0 (.agg #[.int .i64 0, .int .i64 0]) (List.flatMap pairLI ([] : List PairI)) (.slice (some ⟨g, 0, none⟩) (List.length xs) cap) (List.length xs) (List.flatMap pairLI xs) rfl (src_row ((H.ro R0) 0 _ rfl : Go.World.ownsRow _ 0 77 2 _ _ _)) (by kernel_rfl) (by kernel_rfl) (by kernel_rfl) (by decide) (oneCellFlat pairOneI _) (by unfold maxLen; omega) (by omega) (by kernel_rfl) rfl (by kernel_rfl) ?_
  clear H
  intro v2 vr20 H
  rw [show (List.flatMap pairLI ([] : List PairI)) ++ (List.flatMap pairLI xs) = (List.flatMap pairLI xs) from (by simp)] at H
  rw [show (0 + (List.length xs) : Nat) = (List.length xs) from (by simp)] at H
  replace H : Hs [] w0 v2 [.row (vr20) 77 2 (List.length xs) (List.flatMap pairLI xs)] := H
  refine x_val (vr20) (by kernel_rfl) rfl (by kernel_rfl) ?_
  refine x_nil ?_
  refine x_then ?_
  refine x_seq ?_
  refine x_seq ?_
  refine x_region ?_
  refine x_val (.int .i64 (-1)) (by kernel_rfl) rfl (by kernel_rfl) ?_
  refine x_val (.bool false) (by kernel_rfl) rfl (by kernel_rfl) ?_
  refine x_nil ?_
  refine x_then ?_
  refine x_f (by kernel_rfl) ?_
  refine x_skipc ?_
  refine x_then ?_
  refine x_seq ?_
  refine x_seq ?_
  refine x_region ?_
  refine x_val (.slice (some ⟨g, 0, none⟩) (List.length xs) cap) (by kernel_rfl) rfl (by kernel_rfl) ?_
  refine x_val (.int .i64 (((List.length xs) : Nat) : Int)) (by kernel_rfl) rfl (by kernel_rfl) ?_
  refine x_val (.int .i64 ((room : Nat) : Int)) (by kernel_rfl) rfl (by kernel_rfl) ?_
  refine x_val (.bool (decide ((((List.length xs) : Nat) : Int) < ((room : Nat) : Int)))) (by kernel_rfl) rfl (by kernel_rfl) ?_
  refine x_nil ?_
  refine x_then ?_
  rw [q1]
  refine x_t (by kernel_rfl) ?_
  refine x_seq ?_
  refine x_region ?_
  refine x_val (vr20) (by kernel_rfl) rfl (by kernel_rfl) ?_
  refine x_val (.int .i64 k) (by kernel_rfl) rfl (by kernel_rfl) ?_
  refine x_val (.int .i64 v) (by kernel_rfl) rfl (by kernel_rfl) ?_
  refine x_val (.agg #[.int .i64 k, .int .i64 v]) (by kernel_rfl) rfl (by kernel_rfl) ?_
  refine x_box' H #[.int .i64 k, .int .i64 v] 77 1 (by kernel_rfl) rfl (by kernel_rfl) ?_
  clear H
  intro v3 g1 H
  refine x_append H 1 (vr20) 70 77 2 16 (List.length xs) (.agg #[.int .i64 0, .int .i64 0]) (List.flatMap pairLI xs) ⟨g1, 0, none⟩ 1 1 [.int .i64 k, .int .i64 v] rfl (by kernel_rfl) (by kernel_rfl) rfl (by decide) (by decide) rfl (fun j u hj => by rw [add_none]; exact cellOf (H.blk 0 rfl) (by simpa using hj)) (List.all_eq_true.1 (by kernel_rfl)) (by unfold maxLen; omega) (by omega) (by kernel_rfl) rfl (by kernel_rfl) ?_
  clear H
  intro v4 g2 c2 hc2 H
  rw [show (((List.length xs) + 1) : Nat) = (List.length (xs ++ [(k, v)])) from (by simp)] at H ⊢
  rw [show (List.flatMap pairLI xs) ++ [.int .i64 k, .int .i64 v] = (List.flatMap pairLI (xs ++ [(k, v)])) from (by rw [List.flatMap_append]; rfl)] at H
  replace H : Hs [] w0 v4 [.blk g1 #[.int .i64 k, .int .i64 v] 77, .row (.slice (some ⟨g2, 0, none⟩) (List.length (xs ++ [(k, v)])) c2) 77 2 (List.length (xs ++ [(k, v)])) (List.flatMap pairLI (xs ++ [(k, v)]))] := H
  replace H := H.pick [1] [.row (.slice (some ⟨g2, 0, none⟩) (List.length (xs ++ [(k, v)])) c2) 77 2 (List.length (xs ++ [(k, v)])) (List.flatMap pairLI (xs ++ [(k, v)]))] (by decide) (by kernel_rfl)
  refine x_val (.slice (some ⟨g2, 0, none⟩) (List.length (xs ++ [(k, v)])) c2) (by kernel_rfl) rfl (by kernel_rfl) ?_
  refine x_val (.int .i64 0) (by kernel_rfl) rfl (by kernel_rfl) ?_
  refine x_val (.bool false) (by kernel_rfl) rfl (by kernel_rfl) ?_
  refine x_nil ?_
  refine x_then ?_
  refine x_retc ?_
  refine x_then_ret ?_
  refine x_ret (.tuple #[.slice (some ⟨g2, 0, none⟩) (List.length (xs ++ [(k, v)])) c2, .int .i64 0, .bool false]) (by kernel_rfl) (by kernel_rfl) ?_
  exact ⟨_, rfl, H.pick [0] _ (by decide) (by kernel_rfl)⟩

set_option maxRecDepth 100000 in
set_option maxHeartbeats 4000000 in
theorem RPut_evict {g cap : Nat} (xs : List PairI) (room : Nat) (k v : Int) (hn : xs.length ≤ 4096) (hq : ¬ (fkI xs k) < xs.length) (hr : ¬ xs.length < room) (h1 : 1 ≤ room) (w0 : World) (hR : Ro w0 [.row (.slice (some ⟨g, 0, none⟩) (List.length xs) cap) 77 2 (List.length xs) (List.flatMap pairLI xs)]) :
    Calls Try.prog 44 #[.slice (some ⟨g, 0, none⟩) (List.length xs) cap, .int .i64 ((room : Nat) : Int), .int .i64 k, .int .i64 v] w0 fun e w' => ∃ u, e = .returned (.tuple #[u, .int .i64 ((xs.getD ((ltI xs xs.length).1) (0, 0)).1), .bool true]) ∧ Hs [] w0 w' [.row (u) 77 2 (List.length ((xs.eraseIdx (ltI xs xs.length).1) ++ [(k, v)])) (List.flatMap pairLI ((xs.eraseIdx (ltI xs xs.length).1) ++ [(k, v)]))] := by
  refine x_enter Try.func44 rfl #[.slice (some ⟨g, 0, none⟩) (List.length xs) cap, .int .i64 ((room : Nat) : Int), .int .i64 k, .int .i64 v, undef, undef, undef, undef, undef, undef, undef, undef, undef, undef, undef, undef, undef, undef, undef, undef, undef, undef, undef, undef, undef, undef, undef, undef, undef, undef, undef, undef, undef, undef, undef, undef, undef, undef, undef, undef, undef, undef, undef, undef, undef, undef, undef, undef, undef, undef, undef, undef, undef, undef, undef, undef, undef, undef, undef, undef, undef, undef, undef, undef, undef, undef, undef, undef, undef, undef] (by kernel_rfl) ?_
  have H := Hs.nil w0
  have R0 := hR
  have q1 : decide ((((List.length xs) : Nat) : Int) < ((room : Nat) : Int)) = false := by simp; omega
  have hlq : (ltI xs xs.length).1 < xs.length := lt_ltI xs _ (by omega)
  refine x_seq ?_
  refine x_region ?_
  refine x_val (.slice none 0 0) (by kernel_rfl) rfl (by kernel_rfl) ?_
  refine x_val (.int .i64 0) (by kernel_rfl) rfl (by kernel_rfl) ?_
  refine x_val (.bool false) (by kernel_rfl) rfl (by kernel_rfl) ?_
  refine x_nil ?_
  refine x_then ?_
  refine x_seq ?_
  refine x_region ?_
  refine x_val (.slice (some ⟨g, 0, none⟩) (List.length xs) cap) (by kernel_rfl) rfl (by kernel_rfl) ?_
  refine x_val (.int .i64 k) (by kernel_rfl) rfl (by kernel_rfl) ?_
  refine x_callB (.int .i64 (-1)) H (by kernel_rfl) rfl (by kernel_rfl) (by have h := RFind xs k hn _ (H.ro R0); rw [show findI xs k = -1 by unfold findI; rw [if_neg hq]] at h; exact h) ?_
  clear H
  intro v1 H
  refine x_val (.int .i64 (-1)) (by kernel_rfl) rfl (by kernel_rfl) ?_
  refine x_nil ?_
  refine x_then ?_
  refine x_seq ?_
  refine x_region ?_
  refine x_val (.slice none 0 0) (by kernel_rfl) rfl (by kernel_rfl) ?_
  refine x_nil ?_
  refine x_then ?_
  refine x_seq ?_
  refine x_region ?_
  refine x_val (.slice none 0 0) (by kernel_rfl) rfl (by kernel_rfl) ?_
  refine x_val (.slice (some ⟨g, 0, none⟩) (List.length xs) cap) (by kernel_rfl) rfl (by kernel_rfl) ?_
  replace H := H.nilRow 77 2
  replace H : Hs [] w0 _ [.row (.slice none 0 0) 77 2 0 (List.flatMap pairLI ([] : List PairI))] := H
  refine x_appendSrc H 0 (.slice none 0 0) 70 77 2 16 0 (.agg #[.int .i64 0, .int .i64 0]) (List.flatMap pairLI ([] : List PairI)) (.slice (some ⟨g, 0, none⟩) (List.length xs) cap) (List.length xs) (List.flatMap pairLI xs) rfl (src_row ((H.ro R0) 0 _ rfl : Go.World.ownsRow _ 0 77 2 _ _ _)) (by kernel_rfl) (by kernel_rfl) (by kernel_rfl) (by decide) (oneCellFlat pairOneI _) (by unfold maxLen; omega) (by omega) (by kernel_rfl) rfl (by kernel_rfl) ?_
  clear H
  intro v2 vr20 H
  rw [show (List.flatMap pairLI ([] : List PairI)) ++ (List.flatMap pairLI xs) = (List.flatMap pairLI xs) from (by simp)] at H
  rw [show (0 + (List.length xs) : Nat) = (List.length xs) from (by simp)] at H
  replace H : Hs [] w0 v2 [.row (vr20) 77 2 (List.length xs) (List.flatMap pairLI xs)] := H
  refine x_val (vr20) (by kernel_rfl) rfl (by kernel_rfl) ?_
  refine x_nil ?_
  refine x_then ?_
  refine x_seq ?_
  refine x_seq ?_
  refine x_region ?_
  refine x_val (.int .i64 (-1)) (by kernel_rfl) rfl (by kernel_rfl) ?_
  refine x_val (.bool false) (by kernel_rfl) rfl (by kernel_rfl) ?_
  refine x_nil ?_
  refine x_then ?_
  refine x_f (by kernel_rfl) ?_
  refine x_skipc ?_
  refine x_then ?_
  refine x_seq ?_
  refine x_seq ?_
  refine x_region ?_
  refine x_val (.slice (some ⟨g, 0, none⟩) (List.length xs) cap) (by kernel_rfl) rfl (by kernel_rfl) ?_
  refine x_val (.int .i64 (((List.length xs) : Nat) : Int)) (by kernel_rfl) rfl (by kernel_rfl) ?_
  refine x_val (.int .i64 ((room : Nat) : Int)) (by kernel_rfl) rfl (by kernel_rfl) ?_
  refine x_val (.bool (decide ((((List.length xs) : Nat) : Int) < ((room : Nat) : Int)))) (by kernel_rfl) rfl (by kernel_rfl) ?_
  refine x_nil ?_
  refine x_then ?_
  rw [q1]
  refine x_f (by kernel_rfl) ?_
  refine x_skipc ?_
  refine x_then ?_
  refine x_seq ?_
  refine x_region ?_
  refine x_val (.int .i64 0) (by kernel_rfl) rfl (by kernel_rfl) ?_
  refine x_nil ?_
  refine x_then ?_
  refine x_seq ?_
  refine x_seq ?_
  refine x_region ?_
  refine x_val (.int .i64 1) (by kernel_rfl) rfl (by kernel_rfl) ?_
  refine x_nil ?_
  refine x_then ?_
  refine x_block ?_
  refine x_loop (G := Nat × Nat) (fun gh a w' => match gh with | (j, ls) => ∃ uf1 : Nat → Value, a = { tmps := #[.slice (some ⟨g, 0, none⟩) (List.length xs) cap, .int .i64 ((room : Nat) : Int), .int .i64 k, .int .i64 v, undef, undef, undef, undef, .slice none 0 0, .int .i64 0, .bool false, .int .i64 (-1), vr20, .int .i64 ((ls : Nat) : Int), .int .i64 ((j : Nat) : Int), .slice (some ⟨g, 0, none⟩) (List.length xs) cap, .int .i64 k, .int .i64 (-1), .slice none 0 0, .slice (some ⟨g, 0, none⟩) (List.length xs) cap, vr20, .int .i64 (-1), .bool false, undef, undef, undef, undef, undef, undef, .slice (some ⟨g, 0, none⟩) (List.length xs) cap, .int .i64 (((List.length xs) : Nat) : Int), .int .i64 ((room : Nat) : Int), .bool false, undef, undef, undef, undef, undef, undef, (uf1 0), (uf1 1), (uf1 2), (uf1 3), (uf1 4), (uf1 5), (uf1 6), (uf1 7), (uf1 8), (uf1 9), (uf1 10), (uf1 11), (uf1 12), (uf1 13), (uf1 14), (uf1 15), (uf1 16), (uf1 17), undef, undef, undef, undef, undef, undef, undef, undef, undef, undef, undef, undef, undef], defers := [] } ∧ Hs [] w0 w' [.row (vr20) 77 2 (List.length xs) (List.flatMap pairLI xs)] ∧ (1 ≤ j) ∧ (j ≤ xs.length) ∧ (ls = (ltI xs j).1) ∧ (ls < xs.length)) (fun gh => match gh with | (j, ls) => xs.length - j) (1, 0) ⟨(nthV [undef, undef, undef, undef, undef, undef, undef, undef, undef, undef, undef, undef, undef, undef, undef, undef, undef, undef]), (by kernel_rfl), H, (Nat.le_refl _), (by omega), (by rw [ltI, if_pos (Or.inl rfl)]), (by omega)⟩ ?_
  clear H
  rintro ⟨j, ls⟩ _ v3 ⟨uf1, rfl, H, r1, r2, r3, r4⟩
  refine x_seq ?_
  refine x_seq ?_
  refine x_region ?_
  refine x_val (.int .i64 ((j : Nat) : Int)) (by kernel_rfl) rfl (by kernel_rfl) ?_
  refine x_val (.slice (some ⟨g, 0, none⟩) (List.length xs) cap) (by kernel_rfl) rfl (by kernel_rfl) ?_
  refine x_val (.int .i64 (((List.length xs) : Nat) : Int)) (by kernel_rfl) rfl (by kernel_rfl) ?_
  refine x_val (.bool (decide (((j : Nat) : Int) < (((List.length xs) : Nat) : Int)))) (by kernel_rfl) rfl (by kernel_rfl) ?_
  refine x_nil ?_
  refine x_then ?_
  cases h1 : decide (((j : Nat) : Int) < (((List.length xs) : Nat) : Int))
  · skip
    have h1p := of_decide_eq_false h1
    have hjl : j = xs.length := by omega
    rw [hjl] at r3
    subst r3
    refine x_f (by kernel_rfl) ?_
    refine x_exit ?_
    refine x_then_exit ?_
    refine x_then_exit ?_
    refine x_blk_exit ?_
    refine x_then ?_
    refine x_seq ?_
    refine x_region_s 16 (fun w' => Hs [] w0 w' [.row (vr20) 77 2 (List.length xs) (List.flatMap pairLI xs)]) (fun w' => Hs [] w0 w' [.row (vr20) 77 2 (List.length xs) (List.flatMap pairLI xs)]) (by kernel_rfl) (by kernel_rfl) (by kernel_rfl) hsShut (fun _ h => h.pick [0] _ (by decide) (by kernel_rfl)) H.drew ?_
    refine s_quiet 0 rfl (by kernel_rfl) (y_val (vr20) (by kernel_rfl) (fun _ => by kernel_rfl)) ?_
    refine s_quiet 1 rfl (by kernel_rfl) (y_val (.int .i64 ((((ltI xs xs.length).1) : Nat) : Int)) (by kernel_rfl) (fun _ => by kernel_rfl)) ?_
    refine s_quiet 3 rfl (by kernel_rfl) (y_val (.int .i64 k) (by kernel_rfl) (fun _ => by kernel_rfl)) ?_
    refine s_quiet 4 rfl (by kernel_rfl) (y_val (.int .i64 v) (by kernel_rfl) (fun _ => by kernel_rfl)) ?_
    refine s_quiet 5 rfl (by kernel_rfl) (y_val (.agg #[.int .i64 k, .int .i64 v]) (by kernel_rfl) (fun _ => by kernel_rfl)) ?_
    refine s_quiet 8 rfl (by kernel_rfl) (y_val (.slice (some ⟨g, 0, none⟩) (List.length xs) cap) (by kernel_rfl) (fun _ => by kernel_rfl)) ?_
    refine s_quiet 9 rfl (by kernel_rfl) (y_val (.int .i64 ((((ltI xs xs.length).1) : Nat) : Int)) (by kernel_rfl) (fun _ => by kernel_rfl)) ?_
    refine s_quiet 10 rfl (by kernel_rfl) (y_ix (t := 70) g 0 ((ltI xs xs.length).1) (List.length xs) cap 77 2 (((ltI xs xs.length).1) * 2) (by omega) (by omega) (by kernel_rfl) (by kernel_rfl) (by kernel_rfl) (fun _ => by kernel_rfl)) ?_
    refine s_quiet 11 rfl (by kernel_rfl) (y_val (.pointer (some ⟨g, ((ltI xs xs.length).1) * 2, none⟩)) (by kernel_rfl) (fun _ => by kernel_rfl)) ?_
    refine s_quiet 12 rfl (by kernel_rfl) (y_loadc g (((ltI xs xs.length).1) * 2) (.int .i64 ((xs.getD ((ltI xs xs.length).1) (0, 0)).1)) (fun _ H => ((H.ro R0).rowCells 0 rfl (((ltI xs xs.length).1) * 2) (flatAt pairLenI (0, 0) _ (by omega))) 0 _ rfl) (by kernel_rfl) (fun _ => by kernel_rfl)) ?_
    refine s_two 2 6 rfl rfl (by kernel_rfl) rfl rfl ?_ ?_
    · skip
      clear H
      intro v4 H
      refine x_call (by kernel_rfl) rfl (by kernel_rfl) (RWithout xs ((ltI xs xs.length).1) hlq hn _ (H.roOf [0] [.row (vr20) 77 2 (List.length xs) (List.flatMap pairLI xs)] (by kernel_rfl))) ?_
      rintro _ v5 ⟨wv, rfl, hN'⟩
      refine ⟨_, rfl, ?_⟩
      replace H := H.more hN'
      clear hN'
      replace H : Hs [] w0 _ [.row (wv) 77 2 (List.length (xs.eraseIdx (ltI xs xs.length).1)) (List.flatMap pairLI (xs.eraseIdx (ltI xs xs.length).1)), .row (vr20) 77 2 (List.length xs) (List.flatMap pairLI xs)] := H
      refine x_nil ?_
      refine x_then ?_
      refine ⟨fun w' => Hs [] w0 w' [.row (vr20) 77 2 (List.length xs) (List.flatMap pairLI xs)], fun w' => Hs [] w0 w' [.row (wv) 77 2 (List.length (xs.eraseIdx (ltI xs xs.length).1)) (List.flatMap pairLI (xs.eraseIdx (ltI xs xs.length).1)), .row (vr20) 77 2 (List.length xs) (List.flatMap pairLI xs)], H, hsShut, fun _ h => h.pick [1] _ (by decide) (by kernel_rfl), fun _ h => h.pick [0] _ (by decide) (by kernel_rfl), ?_⟩
      refine s_one 6 rfl (by kernel_rfl) rfl ?_
      clear H
      intro v6 H
      refine x_box' H #[.int .i64 k, .int .i64 v] 77 1 (by kernel_rfl) rfl (by kernel_rfl) ?_
      clear H
      intro v7 g1 H
      refine x_nil ?_
      refine x_then ?_
      refine ⟨fun w' => Hs [] w0 w' [.row (vr20) 77 2 (List.length xs) (List.flatMap pairLI xs)], fun w' => Hs [] w0 w' [.blk g1 #[.int .i64 k, .int .i64 v] 77, .row (wv) 77 2 (List.length (xs.eraseIdx (ltI xs xs.length).1)) (List.flatMap pairLI (xs.eraseIdx (ltI xs xs.length).1)), .row (vr20) 77 2 (List.length xs) (List.flatMap pairLI xs)], H, hsShut, fun _ h => h.pick [2] _ (by decide) (by kernel_rfl), fun _ h => h.pick [0] _ (by decide) (by kernel_rfl), ?_⟩
      refine s_one 7 rfl (by kernel_rfl) rfl ?_
      clear H
      intro v8 H
      refine x_append H 1 (wv) 70 77 2 16 (List.length (xs.eraseIdx (ltI xs xs.length).1)) (.agg #[.int .i64 0, .int .i64 0]) (List.flatMap pairLI (xs.eraseIdx (ltI xs xs.length).1)) ⟨g1, 0, none⟩ 1 1 [.int .i64 k, .int .i64 v] rfl (by kernel_rfl) (by kernel_rfl) rfl (by decide) (by decide) rfl (fun j u hj => by rw [add_none]; exact cellOf (H.blk 0 rfl) (by simpa using hj)) (List.all_eq_true.1 (by kernel_rfl)) (by rw [List.length_eraseIdx]; unfold maxLen; split <;> omega) (by rw [List.length_eraseIdx]; split <;> omega) (by kernel_rfl) rfl (by kernel_rfl) ?_
      clear H
      intro v9 g2 c2 hc2 H
      rw [show (((List.length (xs.eraseIdx (ltI xs xs.length).1)) + 1) : Nat) = (List.length ((xs.eraseIdx (ltI xs xs.length).1) ++ [(k, v)])) from (by simp)] at H ⊢
      rw [show (List.flatMap pairLI (xs.eraseIdx (ltI xs xs.length).1)) ++ [.int .i64 k, .int .i64 v] = (List.flatMap pairLI ((xs.eraseIdx (ltI xs xs.length).1) ++ [(k, v)])) from (by rw [List.flatMap_append]; rfl)] at H
      replace H : Hs [] w0 v9 [.blk g1 #[.int .i64 k, .int .i64 v] 77, .row (.slice (some ⟨g2, 0, none⟩) (List.length ((xs.eraseIdx (ltI xs xs.length).1) ++ [(k, v)])) c2) 77 2 (List.length ((xs.eraseIdx (ltI xs xs.length).1) ++ [(k, v)])) (List.flatMap pairLI ((xs.eraseIdx (ltI xs xs.length).1) ++ [(k, v)])), .row (vr20) 77 2 (List.length xs) (List.flatMap pairLI xs)] := H
      replace H := H.pick [1, 2] [.row (.slice (some ⟨g2, 0, none⟩) (List.length ((xs.eraseIdx (ltI xs xs.length).1) ++ [(k, v)])) c2) 77 2 (List.length ((xs.eraseIdx (ltI xs xs.length).1) ++ [(k, v)])) (List.flatMap pairLI ((xs.eraseIdx (ltI xs xs.length).1) ++ [(k, v)])), .row (vr20) 77 2 (List.length xs) (List.flatMap pairLI xs)] (by decide) (by kernel_rfl)
      refine x_nil ?_
      refine x_then ?_
      refine ⟨fun w' => Hs [] w0 w' [.row (.slice (some ⟨g2, 0, none⟩) (List.length ((xs.eraseIdx (ltI xs xs.length).1) ++ [(k, v)])) c2) 77 2 (List.length ((xs.eraseIdx (ltI xs xs.length).1) ++ [(k, v)])) (List.flatMap pairLI ((xs.eraseIdx (ltI xs xs.length).1) ++ [(k, v)])), .row (vr20) 77 2 (List.length xs) (List.flatMap pairLI xs)], fun w' => Hs [] w0 w' [.row (.slice (some ⟨g2, 0, none⟩) (List.length ((xs.eraseIdx (ltI xs xs.length).1) ++ [(k, v)])) c2) 77 2 (List.length ((xs.eraseIdx (ltI xs xs.length).1) ++ [(k, v)])) (List.flatMap pairLI ((xs.eraseIdx (ltI xs xs.length).1) ++ [(k, v)])), .row (vr20) 77 2 (List.length xs) (List.flatMap pairLI xs)], H, hsShut, fun _ h => h.pick [0, 1] _ (by decide) (by kernel_rfl), fun _ h => h.pick [1] _ (by decide) (by kernel_rfl), ?_⟩
      refine s_quiet 13 rfl (by kernel_rfl) (y_val (.slice (some ⟨g2, 0, none⟩) (List.length ((xs.eraseIdx (ltI xs xs.length).1) ++ [(k, v)])) c2) (by kernel_rfl) (fun _ => by kernel_rfl)) ?_
      refine s_quiet 14 rfl (by kernel_rfl) (y_val (.int .i64 ((xs.getD ((ltI xs xs.length).1) (0, 0)).1)) (by kernel_rfl) (fun _ => by kernel_rfl)) ?_
      refine s_quiet 15 rfl (by kernel_rfl) (y_val (.bool true) (by kernel_rfl) (fun _ => by kernel_rfl)) ?_
      refine s_done (by kernel_rfl) ?_
      clear H
      intro v10 H
      refine x_then ?_
      refine x_retc ?_
      refine x_ret (.tuple #[.slice (some ⟨g2, 0, none⟩) (List.length ((xs.eraseIdx (ltI xs xs.length).1) ++ [(k, v)])) c2, .int .i64 ((xs.getD ((ltI xs xs.length).1) (0, 0)).1), .bool true]) (by kernel_rfl) (by kernel_rfl) ?_
      exact ⟨_, rfl, H.pick [0] _ (by decide) (by kernel_rfl)⟩
    · skip
      clear H
      intro v11 H
      refine x_box' H #[.int .i64 k, .int .i64 v] 77 1 (by kernel_rfl) rfl (by kernel_rfl) ?_
      clear H
      intro v12 g3 H
      refine x_nil ?_
      refine x_then ?_
      refine ⟨fun w' => Hs [] w0 w' [.row (vr20) 77 2 (List.length xs) (List.flatMap pairLI xs)], fun w' => Hs [] w0 w' [.blk g3 #[.int .i64 k, .int .i64 v] 77, .row (vr20) 77 2 (List.length xs) (List.flatMap pairLI xs)], H, hsShut, fun _ h => h.pick [1] _ (by decide) (by kernel_rfl), fun _ h => h.pick [0] _ (by decide) (by kernel_rfl), ?_⟩
      refine s_one 2 rfl (by kernel_rfl) rfl ?_
      clear H
      intro v13 H
      refine x_call (by kernel_rfl) rfl (by kernel_rfl) (RWithout xs ((ltI xs xs.length).1) hlq hn _ (H.roOf [1] [.row (vr20) 77 2 (List.length xs) (List.flatMap pairLI xs)] (by kernel_rfl))) ?_
      rintro _ v14 ⟨wv, rfl, hN'⟩
      refine ⟨_, rfl, ?_⟩
      replace H := H.more hN'
      clear hN'
      replace H : Hs [] w0 _ [.row (wv) 77 2 (List.length (xs.eraseIdx (ltI xs xs.length).1)) (List.flatMap pairLI (xs.eraseIdx (ltI xs xs.length).1)), .blk g3 #[.int .i64 k, .int .i64 v] 77, .row (vr20) 77 2 (List.length xs) (List.flatMap pairLI xs)] := H
      refine x_nil ?_
      refine x_then ?_
      refine ⟨fun w' => Hs [] w0 w' [.row (vr20) 77 2 (List.length xs) (List.flatMap pairLI xs)], fun w' => Hs [] w0 w' [.row (wv) 77 2 (List.length (xs.eraseIdx (ltI xs xs.length).1)) (List.flatMap pairLI (xs.eraseIdx (ltI xs xs.length).1)), .blk g3 #[.int .i64 k, .int .i64 v] 77, .row (vr20) 77 2 (List.length xs) (List.flatMap pairLI xs)], H, hsShut, fun _ h => h.pick [2] _ (by decide) (by kernel_rfl), fun _ h => h.pick [0] _ (by decide) (by kernel_rfl), ?_⟩
      refine s_one 7 rfl (by kernel_rfl) rfl ?_
      clear H
      intro v15 H
      refine x_append H 0 (wv) 70 77 2 16 (List.length (xs.eraseIdx (ltI xs xs.length).1)) (.agg #[.int .i64 0, .int .i64 0]) (List.flatMap pairLI (xs.eraseIdx (ltI xs xs.length).1)) ⟨g3, 0, none⟩ 1 1 [.int .i64 k, .int .i64 v] rfl (by kernel_rfl) (by kernel_rfl) rfl (by decide) (by decide) rfl (fun j u hj => by rw [add_none]; exact cellOf (H.blk 1 rfl) (by simpa using hj)) (List.all_eq_true.1 (by kernel_rfl)) (by rw [List.length_eraseIdx]; unfold maxLen; split <;> omega) (by rw [List.length_eraseIdx]; split <;> omega) (by kernel_rfl) rfl (by kernel_rfl) ?_
      clear H
      intro v16 g4 c4 hc4 H
      rw [show (((List.length (xs.eraseIdx (ltI xs xs.length).1)) + 1) : Nat) = (List.length ((xs.eraseIdx (ltI xs xs.length).1) ++ [(k, v)])) from (by simp)] at H ⊢
      rw [show (List.flatMap pairLI (xs.eraseIdx (ltI xs xs.length).1)) ++ [.int .i64 k, .int .i64 v] = (List.flatMap pairLI ((xs.eraseIdx (ltI xs xs.length).1) ++ [(k, v)])) from (by rw [List.flatMap_append]; rfl)] at H
      replace H : Hs [] w0 v16 [.row (.slice (some ⟨g4, 0, none⟩) (List.length ((xs.eraseIdx (ltI xs xs.length).1) ++ [(k, v)])) c4) 77 2 (List.length ((xs.eraseIdx (ltI xs xs.length).1) ++ [(k, v)])) (List.flatMap pairLI ((xs.eraseIdx (ltI xs xs.length).1) ++ [(k, v)])), .blk g3 #[.int .i64 k, .int .i64 v] 77, .row (vr20) 77 2 (List.length xs) (List.flatMap pairLI xs)] := H
      replace H := H.pick [0, 2] [.row (.slice (some ⟨g4, 0, none⟩) (List.length ((xs.eraseIdx (ltI xs xs.length).1) ++ [(k, v)])) c4) 77 2 (List.length ((xs.eraseIdx (ltI xs xs.length).1) ++ [(k, v)])) (List.flatMap pairLI ((xs.eraseIdx (ltI xs xs.length).1) ++ [(k, v)])), .row (vr20) 77 2 (List.length xs) (List.flatMap pairLI xs)] (by decide) (by kernel_rfl)
      refine x_nil ?_
      refine x_then ?_
      refine ⟨fun w' => Hs [] w0 w' [.row (vr20) 77 2 (List.length xs) (List.flatMap pairLI xs)], fun w' => Hs [] w0 w' [.row (.slice (some ⟨g4, 0, none⟩) (List.length ((xs.eraseIdx (ltI xs xs.length).1) ++ [(k, v)])) c4) 77 2 (List.length ((xs.eraseIdx (ltI xs xs.length).1) ++ [(k, v)])) (List.flatMap pairLI ((xs.eraseIdx (ltI xs xs.length).1) ++ [(k, v)])), .row (vr20) 77 2 (List.length xs) (List.flatMap pairLI xs)], H, hsShut, fun _ h => h.pick [1] _ (by decide) (by kernel_rfl), fun _ h => h.pick [0] _ (by decide) (by kernel_rfl), ?_⟩
      refine s_quiet 13 rfl (by kernel_rfl) (y_val (.slice (some ⟨g4, 0, none⟩) (List.length ((xs.eraseIdx (ltI xs xs.length).1) ++ [(k, v)])) c4) (by kernel_rfl) (fun _ => by kernel_rfl)) ?_
      refine s_quiet 14 rfl (by kernel_rfl) (y_val (.int .i64 ((xs.getD ((ltI xs xs.length).1) (0, 0)).1)) (by kernel_rfl) (fun _ => by kernel_rfl)) ?_
      refine s_quiet 15 rfl (by kernel_rfl) (y_val (.bool true) (by kernel_rfl) (fun _ => by kernel_rfl)) ?_
      refine s_done (by kernel_rfl) ?_
      clear H
      intro v17 H
      refine x_then ?_
      refine x_retc ?_
      refine x_ret (.tuple #[.slice (some ⟨g4, 0, none⟩) (List.length ((xs.eraseIdx (ltI xs xs.length).1) ++ [(k, v)])) c4, .int .i64 ((xs.getD ((ltI xs xs.length).1) (0, 0)).1), .bool true]) (by kernel_rfl) (by kernel_rfl) ?_
      exact ⟨_, rfl, H.pick [0] _ (by decide) (by kernel_rfl)⟩
  · skip
    have h1p := of_decide_eq_true h1
    refine x_t (by kernel_rfl) ?_
    refine x_skipc ?_
    refine x_then ?_
    refine x_seq ?_
    refine x_block ?_
    refine x_seq ?_
    refine x_region_whole (fun w' => Hs [] w0 w' [.row (vr20) 77 2 (List.length xs) (List.flatMap pairLI xs)]) (by kernel_rfl) (by kernel_rfl) (by kernel_rfl) H.drew ?_
    refine q_val (.slice (some ⟨g, 0, none⟩) (List.length xs) cap) (by kernel_rfl) (fun _ => by kernel_rfl) ?_
    refine q_val (.int .i64 ((j : Nat) : Int)) (by kernel_rfl) (fun _ => by kernel_rfl) ?_
    refine q_ix (t := 70) g 0 j (List.length xs) cap 77 2 (j * 2) (by omega) (by omega) (by kernel_rfl) (by kernel_rfl) (by kernel_rfl) (fun _ => by kernel_rfl) ?_
    refine q_val (.pointer (some ⟨g, j * 2 + 1, none⟩)) (by kernel_rfl) (fun _ => by kernel_rfl) ?_
    refine q_loadc g (j * 2 + 1) (.int .i64 ((xs.getD j (0, 0)).2)) (fun _ H => ((H.ro R0).rowCells 0 rfl (j * 2) (flatAt pairLenI (0, 0) _ (by omega))) 1 _ rfl) (by kernel_rfl) (fun _ => by kernel_rfl) ?_
    refine q_val (.slice (some ⟨g, 0, none⟩) (List.length xs) cap) (by kernel_rfl) (fun _ => by kernel_rfl) ?_
    refine q_val (.int .i64 ((ls : Nat) : Int)) (by kernel_rfl) (fun _ => by kernel_rfl) ?_
    refine q_ix (t := 70) g 0 ls (List.length xs) cap 77 2 (ls * 2) (by omega) (by omega) (by kernel_rfl) (by kernel_rfl) (by kernel_rfl) (fun _ => by kernel_rfl) ?_
    refine q_val (.pointer (some ⟨g, ls * 2 + 1, none⟩)) (by kernel_rfl) (fun _ => by kernel_rfl) ?_
    refine q_loadc g (ls * 2 + 1) (.int .i64 ((xs.getD ls (0, 0)).2)) (fun _ H => ((H.ro R0).rowCells 0 rfl (ls * 2) (flatAt pairLenI (0, 0) _ (by omega))) 1 _ rfl) (by kernel_rfl) (fun _ => by kernel_rfl) ?_
    refine q_val (.bool (decide (((xs.getD j (0, 0)).2) < ((xs.getD ls (0, 0)).2)))) (by kernel_rfl) (fun _ => by kernel_rfl) ?_
    refine q_nil ?_
    clear H
    intro v18 H
    refine x_then ?_
    cases h2 : decide (((xs.getD j (0, 0)).2) < ((xs.getD ls (0, 0)).2))
    · skip
      have h2p := of_decide_eq_false h2
      refine x_f (by kernel_rfl) ?_
      refine x_skipc ?_
      refine x_blk ?_
      refine x_then ?_
      refine x_region ?_
      refine x_val (.int .i64 ((j : Nat) : Int)) (by kernel_rfl) rfl (by kernel_rfl) ?_
      refine x_ar (((j : Nat) : Int) + 1) ⟨by omega, by omega⟩ (by kernel_rfl) rfl (by kernel_rfl) ?_
      refine x_val (.int .i64 (((j : Nat) : Int) + 1)) (by kernel_rfl) rfl (by kernel_rfl) ?_
      refine x_nil ?_
      refine x_then ?_
      replace H := H.pick [0] [.row (vr20) 77 2 (List.length xs) (List.flatMap pairLI xs)] (by decide) (by kernel_rfl)
      have hj := lt_le xs j (by omega)
      exact ⟨(j + 1, ls), (by dsimp only; omega), (nthV [.int .i64 ((j : Nat) : Int), .slice (some ⟨g, 0, none⟩) (List.length xs) cap, .int .i64 (((List.length xs) : Nat) : Int), .bool true, .int .i64 ((j : Nat) : Int), .int .i64 (((j : Nat) : Int) + 1), .slice (some ⟨g, 0, none⟩) (List.length xs) cap, .int .i64 ((j : Nat) : Int), .pointer (some ⟨g, j * 2, none⟩), .pointer (some ⟨g, j * 2 + 1, none⟩), .int .i64 ((xs.getD j (0, 0)).2), .slice (some ⟨g, 0, none⟩) (List.length xs) cap, .int .i64 ((ls : Nat) : Int), .pointer (some ⟨g, ls * 2, none⟩), .pointer (some ⟨g, ls * 2 + 1, none⟩), .int .i64 ((xs.getD ls (0, 0)).2), .bool false, (uf1 17)]), (by kernel_rfl), H, (by omega), (by omega), (by rw [ltI, if_neg (by rintro (z | z); omega; rw [hj.1, ← r3] at z; exact h2p z)]; exact r3), (by omega)⟩
    · skip
      have h2p := of_decide_eq_true h2
      refine x_t (by kernel_rfl) ?_
      refine x_region ?_
      refine x_val (.int .i64 ((j : Nat) : Int)) (by kernel_rfl) rfl (by kernel_rfl) ?_
      refine x_val (.int .i64 ((j : Nat) : Int)) (by kernel_rfl) rfl (by kernel_rfl) ?_
      refine x_nil ?_
      refine x_blk ?_
      refine x_then ?_
      refine x_region ?_
      refine x_val (.int .i64 ((j : Nat) : Int)) (by kernel_rfl) rfl (by kernel_rfl) ?_
      refine x_ar (((j : Nat) : Int) + 1) ⟨by omega, by omega⟩ (by kernel_rfl) rfl (by kernel_rfl) ?_
      refine x_val (.int .i64 (((j : Nat) : Int) + 1)) (by kernel_rfl) rfl (by kernel_rfl) ?_
      refine x_nil ?_
      refine x_then ?_
      replace H := H.pick [0] [.row (vr20) 77 2 (List.length xs) (List.flatMap pairLI xs)] (by decide) (by kernel_rfl)
      have hj := lt_le xs j (by omega)
      exact ⟨(j + 1, j), (by dsimp only; omega), (nthV [.int .i64 ((j : Nat) : Int), .slice (some ⟨g, 0, none⟩) (List.length xs) cap, .int .i64 (((List.length xs) : Nat) : Int), .bool true, .int .i64 ((j : Nat) : Int), .int .i64 (((j : Nat) : Int) + 1), .slice (some ⟨g, 0, none⟩) (List.length xs) cap, .int .i64 ((j : Nat) : Int), .pointer (some ⟨g, j * 2, none⟩), .pointer (some ⟨g, j * 2 + 1, none⟩), .int .i64 ((xs.getD j (0, 0)).2), .slice (some ⟨g, 0, none⟩) (List.length xs) cap, .int .i64 ((ls : Nat) : Int), .pointer (some ⟨g, ls * 2, none⟩), .pointer (some ⟨g, ls * 2 + 1, none⟩), .int .i64 ((xs.getD ls (0, 0)).2), .bool true, .int .i64 ((j : Nat) : Int)]), (by kernel_rfl), H, (by omega), (by omega), (by rw [ltI, if_pos (Or.inr (by rw [hj.1, ← r3]; exact h2p))]), (by omega)⟩

end Go.Proofs.Ytpeefnbcgilihaa
