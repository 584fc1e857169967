/- The document's tracker: buckets, Find, Drop, Put. -/
import Derived.Test.YtgpalgbdacoagaaTrkF
import Derived.Test.YtgpalgbdacoagaaPxF
namespace Go.Proofs.Ytgpalgbdacoagaa
open Go Go.RowKit
set_option linter.unusedVariables false
set_option linter.unusedSimpArgs false

def dbL (L E : Int) (b : Buk) : List Value := [.int .i64 L, .int .i64 E, .int .i64 b.1, .int .i64 b.2]
def dpL (L E : Int) (x : PairB) : List Value := [.int .i64 x.1, .int .i64 L, .int .i64 E, .int .i64 x.2.1, .int .i64 x.2.2]
theorem dbLen (L E : Int) (x : Buk) : (dbL L E x).length = 4 := rfl
theorem dpLen (L E : Int) (x : PairB) : (dpL L E x).length = 5 := rfl
theorem dbOne (L E : Int) (x : Buk) : ∀ v ∈ dbL L E x, v.oneCell' = true := fun v hv => by
  simp only [dbL, List.mem_cons, List.not_mem_nil, or_false] at hv
  rcases hv with rfl | rfl | rfl | rfl <;> rfl
theorem dpOne (L E : Int) (x : PairB) : ∀ v ∈ dpL L E x, v.oneCell' = true := fun v hv => by
  simp only [dpL, List.mem_cons, List.not_mem_nil, or_false] at hv
  rcases hv with rfl | rfl | rfl | rfl | rfl <;> rfl
theorem find_hitB {xs : List PairB} {key : Int} {k : Nat} (h : k < xs.length) (hall : ∀ j, j < k → ¬ (xs.getD j (0, 0, 0)).1 = key) (he : (xs.getD k (0, 0, 0)).1 = key) : fkB xs key = k := by
  unfold fkB
  rw [List.findIdx_eq h]
  constructor
  · have e : xs.getD k (0, 0, 0) = xs[k] := by simp [List.getD, h]
    rw [e] at he; simp [eqkI, he]
  · intro j hj
    have e : xs.getD j (0, 0, 0) = xs[j] := by simp [List.getD, show j < xs.length by omega]
    have q := hall j hj
    rw [e] at q; simp [eqkI, q]
theorem find_missB {xs : List PairB} {key : Int} (hall : ∀ j, j < xs.length → ¬ (xs.getD j (0, 0, 0)).1 = key) : findB xs key = -1 := by
  unfold findB
  rw [if_neg]
  intro h
  have q := fk_atB xs key h
  exact hall _ h (of_decide_eq_true q)
theorem lt_leB (xs : List PairB) : ∀ k, 0 < k → (ltB xs k).2 = (xs.getD (ltB xs k).1 (0, 0, 0)).2.1
  | 0, h => absurd h (Nat.lt_irrefl _)
  | 1, _ => by rw [ltB, if_pos (.inl rfl)]
  | k + 2, _ => by
    rw [ltB]
    split
    · rfl
    · exact lt_leB xs (k + 1) (by omega)

set_option maxRecDepth 100000 in
set_option maxHeartbeats 4000000 in
theorem DFill (L E u v n : Int) (hb : RB E (u, v)) (hn : 0 ≤ n) (w0 : World) :
    Calls Try.prog 158 #[.agg #[.int .i64 L, .int .i64 E, .int .i64 u, .int .i64 v], .int .i64 n] w0 fun e w' => e = .returned (.tuple #[.agg #[.int .i64 L, .int .i64 E, .int .i64 ((bfill (u, v) n).1), .int .i64 ((bfill (u, v) n).2)], .bool (bcross L (u, v) n)]) ∧ Below w0.heap.size w0 w' := by
  refine x_enter Try.func158 rfl #[.agg #[.int .i64 L, .int .i64 E, .int .i64 u, .int .i64 v], .int .i64 n, undef, undef, undef, undef, undef, undef, undef, undef, undef, undef, undef, undef, undef, undef, undef, undef, undef, undef, undef, undef, undef, undef, undef, undef, undef, undef, undef, undef, undef, undef] (by kernel_rfl) ?_
  have H := Hs.nil w0
  have hb' := hb
  unfold RB at hb'
  dsimp only at hb'
  refine x_seq ?_
  refine x_region ?_
  refine x_box H #[.int .i64 L, .int .i64 E, .int .i64 u, .int .i64 v] 119 (by kernel_rfl) rfl (by kernel_rfl) ?_
  clear H
  intro v1 g1 H
  refine x_box H #[.int .i64 0, .int .i64 0, .int .i64 0, .int .i64 0] 119 (by kernel_rfl) rfl (by kernel_rfl) ?_
  clear H
  intro v2 g2 H
  refine x_val (.bool false) (by kernel_rfl) rfl (by kernel_rfl) ?_
  refine x_nil ?_
  refine x_then ?_
  refine x_seq ?_
  refine x_region ?_
  refine x_val (.pointer (some ⟨g1, 2, none⟩)) (by kernel_rfl) rfl (by kernel_rfl) ?_
  refine x_load1 H 1 g1 2 _ _ (.int .i64 u) rfl (by kernel_rfl) (by kernel_rfl) rfl (by kernel_rfl) ?_
  refine x_val (.int .i64 u) (by kernel_rfl) rfl (by kernel_rfl) ?_
  refine x_nil ?_
  refine x_then ?_
  refine x_seq ?_
  refine x_seq ?_
  refine x_region ?_
  refine x_val (.int .i64 n) (by kernel_rfl) rfl (by kernel_rfl) ?_
  refine x_val (.pointer (some ⟨g1, 2, none⟩)) (by kernel_rfl) rfl (by kernel_rfl) ?_
  refine x_load1 H 1 g1 2 _ _ (.int .i64 u) rfl (by kernel_rfl) (by kernel_rfl) rfl (by kernel_rfl) ?_
  refine x_ar (65536 - u) ⟨by omega, by omega⟩ (by kernel_rfl) rfl (by kernel_rfl) ?_
  refine x_val (.bool (decide ((65536 - u) < n))) (by kernel_rfl) rfl (by kernel_rfl) ?_
  refine x_nil ?_
  refine x_then ?_
  cases h1 : decide ((65536 - u) < n)
  · skip
    have h1p := of_decide_eq_false h1
    refine x_f (by kernel_rfl) ?_
    refine x_region ?_
    refine x_val (.pointer (some ⟨g1, 2, none⟩)) (by kernel_rfl) rfl (by kernel_rfl) ?_
    refine x_load1 H 1 g1 2 _ _ (.int .i64 u) rfl (by kernel_rfl) (by kernel_rfl) rfl (by kernel_rfl) ?_
    refine x_val (.int .i64 n) (by kernel_rfl) rfl (by kernel_rfl) ?_
    refine x_ar (u + n) ⟨by omega, by omega⟩ (by kernel_rfl) rfl (by kernel_rfl) ?_
    refine x_val (.pointer (some ⟨g1, 2, none⟩)) (by kernel_rfl) rfl (by kernel_rfl) ?_
    refine x_store (t := 3) (v := .int .i64 (u + n)) H 1 g1 2 _ #[.int .i64 L, .int .i64 E, .int .i64 (u + n), .int .i64 v] 119 [.int .i64 (u + n)] _ rfl rfl (by kernel_rfl) (by kernel_rfl) (by kernel_rfl) rfl (by kernel_rfl) (by kernel_rfl) (by kernel_rfl) (by kernel_rfl) ?_
    clear H
    intro v3 H
    refine x_nil ?_
    refine x_then ?_
    refine x_seq ?_
    cases h2 : decide (u < L)
    · skip
      have h2p := of_decide_eq_false h2
      refine x_region_s 14 (fun w' => Hs [] w0 w' [.blk g1 #[.int .i64 L, .int .i64 E, .int .i64 (u + n), .int .i64 v] 119]) (fun w' => Hs [] w0 w' [.blk g2 #[.int .i64 0, .int .i64 0, .int .i64 0, .int .i64 0] 119, .blk g1 #[.int .i64 L, .int .i64 E, .int .i64 (u + n), .int .i64 v] 119]) (by kernel_rfl) (by kernel_rfl) (by kernel_rfl) hsShut (fun _ h => h.pick [1] _ (by decide) (by kernel_rfl)) H.drew ?_
      refine s_quiet 0 rfl (by kernel_rfl) (y_loadn (t := 119) 0 g1 0 #[.int .i64 L, .int .i64 E, .int .i64 (u + n), .int .i64 v] 119 [.int .i64 L, .int .i64 E, .int .i64 (u + n), .int .i64 v] (by kernel_rfl) (by kernel_rfl) (by kernel_rfl) (by kernel_rfl) (by kernel_rfl)) ?_
      refine s_quiet 1 rfl (by kernel_rfl) (y_val (.int .i64 u) (by kernel_rfl) (fun _ => by kernel_rfl)) ?_
      refine s_quiet 2 rfl (by kernel_rfl) (y_val (.pointer (some ⟨g1, 0, none⟩)) (by kernel_rfl) (fun _ => by kernel_rfl)) ?_
      refine s_quiet 3 rfl (by kernel_rfl) (y_load1 0 g1 0 #[.int .i64 L, .int .i64 E, .int .i64 (u + n), .int .i64 v] 119 (.int .i64 L) (by kernel_rfl) (by kernel_rfl) (by kernel_rfl) (fun _ => by kernel_rfl)) ?_
      refine s_quiet 4 rfl (by kernel_rfl) (y_val (.bool (decide (u < L))) (by kernel_rfl) (fun _ => by kernel_rfl)) ?_
      refine s_quiet 5 rfl (by kernel_rfl) (y_val (.bool (decide (u < L))) (by kernel_rfl) (fun _ => by kernel_rfl)) ?_
      rw [h2]
      refine s_quiet 6 rfl (by kernel_rfl) (y_skip (by kernel_rfl)) ?_
      refine s_quiet 7 rfl (by kernel_rfl) (y_skip (by kernel_rfl)) ?_
      refine s_quiet 8 rfl (by kernel_rfl) (y_skip (by kernel_rfl)) ?_
      refine s_quiet 9 rfl (by kernel_rfl) (y_skip (by kernel_rfl)) ?_
      refine s_quiet 10 rfl (by kernel_rfl) (y_skip (by kernel_rfl)) ?_
      refine s_quiet 11 rfl (by kernel_rfl) (y_val (.bool false) (by kernel_rfl) (fun _ => by kernel_rfl)) ?_
      refine s_one 12 rfl (by kernel_rfl) rfl ?_
      clear H
      intro v4 H
      refine x_store (t := 119) (v := .agg #[.int .i64 L, .int .i64 E, .int .i64 (u + n), .int .i64 v]) H 0 g2 0 _ #[.int .i64 L, .int .i64 E, .int .i64 (u + n), .int .i64 v] 119 [.int .i64 L, .int .i64 E, .int .i64 (u + n), .int .i64 v] _ rfl rfl (by kernel_rfl) (by kernel_rfl) (by kernel_rfl) rfl (by kernel_rfl) (by kernel_rfl) (by kernel_rfl) (by kernel_rfl) ?_
      clear H
      intro v5 H
      refine x_nil ?_
      refine x_then ?_
      refine ⟨fun w' => Hs [] w0 w' [.blk g2 #[.int .i64 L, .int .i64 E, .int .i64 (u + n), .int .i64 v] 119, .blk g1 #[.int .i64 L, .int .i64 E, .int .i64 (u + n), .int .i64 v] 119], fun w' => Hs [] w0 w' [.blk g2 #[.int .i64 L, .int .i64 E, .int .i64 (u + n), .int .i64 v] 119, .blk g1 #[.int .i64 L, .int .i64 E, .int .i64 (u + n), .int .i64 v] 119], H, hsShut, fun _ h => h.pick [0, 1] _ (by decide) (by kernel_rfl), fun _ h => h.pick [1] _ (by decide) (by kernel_rfl), ?_⟩
      refine s_quiet 13 rfl (by kernel_rfl) (y_val (.bool false) (by kernel_rfl) (fun _ => by kernel_rfl)) ?_
      refine s_done (by kernel_rfl) ?_
      clear H
      intro v6 H
      refine x_then ?_
      refine x_retc ?_
      refine x_ret (.tuple #[.agg #[.int .i64 L, .int .i64 E, .int .i64 (u + n), .int .i64 v], .bool false]) (by kernel_rfl) (x_rescell H 0 g2 0 #[.int .i64 L, .int .i64 E, .int .i64 (u + n), .int .i64 v] 119 [.int .i64 L, .int .i64 E, .int .i64 (u + n), .int .i64 v] (fun x => .tuple #[x, .bool false]) (by kernel_rfl) (by kernel_rfl) (by kernel_rfl)) ?_
      have e1 : (u + n, v) = bfill (u, v) n := by unfold bfill; exact Prod.ext (by first | rfl | omega | (dsimp only; omega)) rfl
      have e2 : false = bcross L (u, v) n := by unfold bcross; rw [decide_eq_false (by first | omega | (dsimp only; omega)), Bool.false_and]
      exact ⟨by rw [← e1, ← e2], H.below⟩
    · skip
      have h2p := of_decide_eq_true h2
      refine x_region_s 14 (fun w' => Hs [] w0 w' [.blk g1 #[.int .i64 L, .int .i64 E, .int .i64 (u + n), .int .i64 v] 119]) (fun w' => Hs [] w0 w' [.blk g2 #[.int .i64 0, .int .i64 0, .int .i64 0, .int .i64 0] 119, .blk g1 #[.int .i64 L, .int .i64 E, .int .i64 (u + n), .int .i64 v] 119]) (by kernel_rfl) (by kernel_rfl) (by kernel_rfl) hsShut (fun _ h => h.pick [1] _ (by decide) (by kernel_rfl)) H.drew ?_
      refine s_quiet 0 rfl (by kernel_rfl) (y_loadn (t := 119) 0 g1 0 #[.int .i64 L, .int .i64 E, .int .i64 (u + n), .int .i64 v] 119 [.int .i64 L, .int .i64 E, .int .i64 (u + n), .int .i64 v] (by kernel_rfl) (by kernel_rfl) (by kernel_rfl) (by kernel_rfl) (by kernel_rfl)) ?_
      refine s_quiet 1 rfl (by kernel_rfl) (y_val (.int .i64 u) (by kernel_rfl) (fun _ => by kernel_rfl)) ?_
      refine s_quiet 2 rfl (by kernel_rfl) (y_val (.pointer (some ⟨g1, 0, none⟩)) (by kernel_rfl) (fun _ => by kernel_rfl)) ?_
      refine s_quiet 3 rfl (by kernel_rfl) (y_load1 0 g1 0 #[.int .i64 L, .int .i64 E, .int .i64 (u + n), .int .i64 v] 119 (.int .i64 L) (by kernel_rfl) (by kernel_rfl) (by kernel_rfl) (fun _ => by kernel_rfl)) ?_
      refine s_quiet 4 rfl (by kernel_rfl) (y_val (.bool (decide (u < L))) (by kernel_rfl) (fun _ => by kernel_rfl)) ?_
      refine s_quiet 5 rfl (by kernel_rfl) (y_val (.bool (decide (u < L))) (by kernel_rfl) (fun _ => by kernel_rfl)) ?_
      rw [h2]
      refine s_quiet 6 rfl (by kernel_rfl) (y_val (.pointer (some ⟨g1, 2, none⟩)) (by kernel_rfl) (fun _ => by kernel_rfl)) ?_
      refine s_quiet 7 rfl (by kernel_rfl) (y_load1 0 g1 2 #[.int .i64 L, .int .i64 E, .int .i64 (u + n), .int .i64 v] 119 (.int .i64 (u + n)) (by kernel_rfl) (by kernel_rfl) (by kernel_rfl) (fun _ => by kernel_rfl)) ?_
      refine s_quiet 8 rfl (by kernel_rfl) (y_val (.pointer (some ⟨g1, 0, none⟩)) (by kernel_rfl) (fun _ => by kernel_rfl)) ?_
      refine s_quiet 9 rfl (by kernel_rfl) (y_load1 0 g1 0 #[.int .i64 L, .int .i64 E, .int .i64 (u + n), .int .i64 v] 119 (.int .i64 L) (by kernel_rfl) (by kernel_rfl) (by kernel_rfl) (fun _ => by kernel_rfl)) ?_
      refine s_quiet 10 rfl (by kernel_rfl) (y_val (.bool (decide (L ≤ (u + n)))) (by kernel_rfl) (fun _ => by kernel_rfl)) ?_
      refine s_quiet 11 rfl (by kernel_rfl) (y_val (.bool (decide (L ≤ (u + n)))) (by kernel_rfl) (fun _ => by kernel_rfl)) ?_
      refine s_one 12 rfl (by kernel_rfl) rfl ?_
      clear H
      intro v7 H
      refine x_store (t := 119) (v := .agg #[.int .i64 L, .int .i64 E, .int .i64 (u + n), .int .i64 v]) H 0 g2 0 _ #[.int .i64 L, .int .i64 E, .int .i64 (u + n), .int .i64 v] 119 [.int .i64 L, .int .i64 E, .int .i64 (u + n), .int .i64 v] [.blk g2 #[.int .i64 L, .int .i64 E, .int .i64 (u + n), .int .i64 v] 119, .blk g1 #[.int .i64 L, .int .i64 E, .int .i64 (u + n), .int .i64 v] 119] rfl rfl (by kernel_rfl) (by kernel_rfl) (by kernel_rfl) (by kernel_rfl) (by kernel_rfl) (by kernel_rfl) (by kernel_rfl) (by kernel_rfl) ?_
      clear H
      intro v8 H
      refine x_nil ?_
      refine x_then ?_
      refine ⟨fun w' => Hs [] w0 w' [.blk g2 #[.int .i64 L, .int .i64 E, .int .i64 (u + n), .int .i64 v] 119, .blk g1 #[.int .i64 L, .int .i64 E, .int .i64 (u + n), .int .i64 v] 119], fun w' => Hs [] w0 w' [.blk g2 #[.int .i64 L, .int .i64 E, .int .i64 (u + n), .int .i64 v] 119, .blk g1 #[.int .i64 L, .int .i64 E, .int .i64 (u + n), .int .i64 v] 119], H, hsShut, fun _ h => h.pick [0, 1] _ (by decide) (by kernel_rfl), fun _ h => h.pick [1] _ (by decide) (by kernel_rfl), ?_⟩
      refine s_quiet 13 rfl (by kernel_rfl) (y_val (.bool (decide (L ≤ (u + n)))) (by kernel_rfl) (fun _ => by kernel_rfl)) ?_
      refine s_done (by kernel_rfl) ?_
      clear H
      intro v9 H
      refine x_then ?_
      refine x_retc ?_
      refine x_ret (.tuple #[.agg #[.int .i64 L, .int .i64 E, .int .i64 (u + n), .int .i64 v], .bool (decide (L ≤ (u + n)))]) (by kernel_rfl) (x_rescell H 0 g2 0 #[.int .i64 L, .int .i64 E, .int .i64 (u + n), .int .i64 v] 119 [.int .i64 L, .int .i64 E, .int .i64 (u + n), .int .i64 v] (fun x => .tuple #[x, .bool (decide (L ≤ (u + n)))]) (by kernel_rfl) (by kernel_rfl) (by kernel_rfl)) ?_
      have e1 : (u + n, v) = bfill (u, v) n := by unfold bfill; exact Prod.ext (by first | rfl | omega | (dsimp only; omega)) rfl
      have e2 : (decide (L ≤ (u + n))) = bcross L (u, v) n := by unfold bcross; dsimp only; rw [decide_eq_true (show u < L by omega), Bool.true_and]; exact decide_eq_decide.2 (by omega)
      exact ⟨by rw [← e1, ← e2], H.below⟩
  · skip
    have h1p := of_decide_eq_true h1
    refine x_t (by kernel_rfl) ?_
    refine x_region ?_
    refine x_val (.pointer (some ⟨g1, 2, none⟩)) (by kernel_rfl) rfl (by kernel_rfl) ?_
    refine x_store (t := 3) (v := .int .i64 65536) H 1 g1 2 _ #[.int .i64 L, .int .i64 E, .int .i64 65536, .int .i64 v] 119 [.int .i64 65536] _ rfl rfl (by kernel_rfl) (by kernel_rfl) (by kernel_rfl) rfl (by kernel_rfl) (by kernel_rfl) (by kernel_rfl) (by kernel_rfl) ?_
    clear H
    intro v10 H
    refine x_nil ?_
    refine x_then ?_
    refine x_seq ?_
    cases h3 : decide (u < L)
    · skip
      have h3p := of_decide_eq_false h3
      refine x_region_s 14 (fun w' => Hs [] w0 w' [.blk g1 #[.int .i64 L, .int .i64 E, .int .i64 65536, .int .i64 v] 119]) (fun w' => Hs [] w0 w' [.blk g2 #[.int .i64 0, .int .i64 0, .int .i64 0, .int .i64 0] 119, .blk g1 #[.int .i64 L, .int .i64 E, .int .i64 65536, .int .i64 v] 119]) (by kernel_rfl) (by kernel_rfl) (by kernel_rfl) hsShut (fun _ h => h.pick [1] _ (by decide) (by kernel_rfl)) H.drew ?_
      refine s_quiet 0 rfl (by kernel_rfl) (y_loadn (t := 119) 0 g1 0 #[.int .i64 L, .int .i64 E, .int .i64 65536, .int .i64 v] 119 [.int .i64 L, .int .i64 E, .int .i64 65536, .int .i64 v] (by kernel_rfl) (by kernel_rfl) (by kernel_rfl) (by kernel_rfl) (by kernel_rfl)) ?_
      refine s_quiet 1 rfl (by kernel_rfl) (y_val (.int .i64 u) (by kernel_rfl) (fun _ => by kernel_rfl)) ?_
      refine s_quiet 2 rfl (by kernel_rfl) (y_val (.pointer (some ⟨g1, 0, none⟩)) (by kernel_rfl) (fun _ => by kernel_rfl)) ?_
      refine s_quiet 3 rfl (by kernel_rfl) (y_load1 0 g1 0 #[.int .i64 L, .int .i64 E, .int .i64 65536, .int .i64 v] 119 (.int .i64 L) (by kernel_rfl) (by kernel_rfl) (by kernel_rfl) (fun _ => by kernel_rfl)) ?_
      refine s_quiet 4 rfl (by kernel_rfl) (y_val (.bool (decide (u < L))) (by kernel_rfl) (fun _ => by kernel_rfl)) ?_
      refine s_quiet 5 rfl (by kernel_rfl) (y_val (.bool (decide (u < L))) (by kernel_rfl) (fun _ => by kernel_rfl)) ?_
      rw [h3]
      refine s_quiet 6 rfl (by kernel_rfl) (y_skip (by kernel_rfl)) ?_
      refine s_quiet 7 rfl (by kernel_rfl) (y_skip (by kernel_rfl)) ?_
      refine s_quiet 8 rfl (by kernel_rfl) (y_skip (by kernel_rfl)) ?_
      refine s_quiet 9 rfl (by kernel_rfl) (y_skip (by kernel_rfl)) ?_
      refine s_quiet 10 rfl (by kernel_rfl) (y_skip (by kernel_rfl)) ?_
      refine s_quiet 11 rfl (by kernel_rfl) (y_val (.bool false) (by kernel_rfl) (fun _ => by kernel_rfl)) ?_
      refine s_one 12 rfl (by kernel_rfl) rfl ?_
      clear H
      intro v11 H
      refine x_store (t := 119) (v := .agg #[.int .i64 L, .int .i64 E, .int .i64 65536, .int .i64 v]) H 0 g2 0 _ #[.int .i64 L, .int .i64 E, .int .i64 65536, .int .i64 v] 119 [.int .i64 L, .int .i64 E, .int .i64 65536, .int .i64 v] _ rfl rfl (by kernel_rfl) (by kernel_rfl) (by kernel_rfl) rfl (by kernel_rfl) (by kernel_rfl) (by kernel_rfl) (by kernel_rfl) ?_
      clear H
      intro v12 H
      refine x_nil ?_
      refine x_then ?_
      refine ⟨fun w' => Hs [] w0 w' [.blk g2 #[.int .i64 L, .int .i64 E, .int .i64 65536, .int .i64 v] 119, .blk g1 #[.int .i64 L, .int .i64 E, .int .i64 65536, .int .i64 v] 119], fun w' => Hs [] w0 w' [.blk g2 #[.int .i64 L, .int .i64 E, .int .i64 65536, .int .i64 v] 119, .blk g1 #[.int .i64 L, .int .i64 E, .int .i64 65536, .int .i64 v] 119], H, hsShut, fun _ h => h.pick [0, 1] _ (by decide) (by kernel_rfl), fun _ h => h.pick [1] _ (by decide) (by kernel_rfl), ?_⟩
      refine s_quiet 13 rfl (by kernel_rfl) (y_val (.bool false) (by kernel_rfl) (fun _ => by kernel_rfl)) ?_
      refine s_done (by kernel_rfl) ?_
      clear H
      intro v13 H
      refine x_then ?_
      refine x_retc ?_
      refine x_ret (.tuple #[.agg #[.int .i64 L, .int .i64 E, .int .i64 65536, .int .i64 v], .bool false]) (by kernel_rfl) (x_rescell H 0 g2 0 #[.int .i64 L, .int .i64 E, .int .i64 65536, .int .i64 v] 119 [.int .i64 L, .int .i64 E, .int .i64 65536, .int .i64 v] (fun x => .tuple #[x, .bool false]) (by kernel_rfl) (by kernel_rfl) (by kernel_rfl)) ?_
      have e1 : (65536, v) = bfill (u, v) n := by unfold bfill; exact Prod.ext (by first | rfl | omega | (dsimp only; omega)) rfl
      have e2 : false = bcross L (u, v) n := by unfold bcross; rw [decide_eq_false (by first | omega | (dsimp only; omega)), Bool.false_and]
      exact ⟨by rw [← e1, ← e2], H.below⟩
    · skip
      have h3p := of_decide_eq_true h3
      refine x_region_s 14 (fun w' => Hs [] w0 w' [.blk g1 #[.int .i64 L, .int .i64 E, .int .i64 65536, .int .i64 v] 119]) (fun w' => Hs [] w0 w' [.blk g2 #[.int .i64 0, .int .i64 0, .int .i64 0, .int .i64 0] 119, .blk g1 #[.int .i64 L, .int .i64 E, .int .i64 65536, .int .i64 v] 119]) (by kernel_rfl) (by kernel_rfl) (by kernel_rfl) hsShut (fun _ h => h.pick [1] _ (by decide) (by kernel_rfl)) H.drew ?_
      refine s_quiet 0 rfl (by kernel_rfl) (y_loadn (t := 119) 0 g1 0 #[.int .i64 L, .int .i64 E, .int .i64 65536, .int .i64 v] 119 [.int .i64 L, .int .i64 E, .int .i64 65536, .int .i64 v] (by kernel_rfl) (by kernel_rfl) (by kernel_rfl) (by kernel_rfl) (by kernel_rfl)) ?_
      refine s_quiet 1 rfl (by kernel_rfl) (y_val (.int .i64 u) (by kernel_rfl) (fun _ => by kernel_rfl)) ?_
      refine s_quiet 2 rfl (by kernel_rfl) (y_val (.pointer (some ⟨g1, 0, none⟩)) (by kernel_rfl) (fun _ => by kernel_rfl)) ?_
      refine s_quiet 3 rfl (by kernel_rfl) (y_load1 0 g1 0 #[.int .i64 L, .int .i64 E, .int .i64 65536, .int .i64 v] 119 (.int .i64 L) (by kernel_rfl) (by kernel_rfl) (by kernel_rfl) (fun _ => by kernel_rfl)) ?_
      refine s_quiet 4 rfl (by kernel_rfl) (y_val (.bool (decide (u < L))) (by kernel_rfl) (fun _ => by kernel_rfl)) ?_
      refine s_quiet 5 rfl (by kernel_rfl) (y_val (.bool (decide (u < L))) (by kernel_rfl) (fun _ => by kernel_rfl)) ?_
      rw [h3]
      refine s_quiet 6 rfl (by kernel_rfl) (y_val (.pointer (some ⟨g1, 2, none⟩)) (by kernel_rfl) (fun _ => by kernel_rfl)) ?_
      refine s_quiet 7 rfl (by kernel_rfl) (y_load1 0 g1 2 #[.int .i64 L, .int .i64 E, .int .i64 65536, .int .i64 v] 119 (.int .i64 65536) (by kernel_rfl) (by kernel_rfl) (by kernel_rfl) (fun _ => by kernel_rfl)) ?_
      refine s_quiet 8 rfl (by kernel_rfl) (y_val (.pointer (some ⟨g1, 0, none⟩)) (by kernel_rfl) (fun _ => by kernel_rfl)) ?_
      refine s_quiet 9 rfl (by kernel_rfl) (y_load1 0 g1 0 #[.int .i64 L, .int .i64 E, .int .i64 65536, .int .i64 v] 119 (.int .i64 L) (by kernel_rfl) (by kernel_rfl) (by kernel_rfl) (fun _ => by kernel_rfl)) ?_
      refine s_quiet 10 rfl (by kernel_rfl) (y_val (.bool (decide (L ≤ 65536))) (by kernel_rfl) (fun _ => by kernel_rfl)) ?_
      refine s_quiet 11 rfl (by kernel_rfl) (y_val (.bool (decide (L ≤ 65536))) (by kernel_rfl) (fun _ => by kernel_rfl)) ?_
      refine s_one 12 rfl (by kernel_rfl) rfl ?_
      clear H
      intro v14 H
      refine x_store (t := 119) (v := .agg #[.int .i64 L, .int .i64 E, .int .i64 65536, .int .i64 v]) H 0 g2 0 _ #[.int .i64 L, .int .i64 E, .int .i64 65536, .int .i64 v] 119 [.int .i64 L, .int .i64 E, .int .i64 65536, .int .i64 v] [.blk g2 #[.int .i64 L, .int .i64 E, .int .i64 65536, .int .i64 v] 119, .blk g1 #[.int .i64 L, .int .i64 E, .int .i64 65536, .int .i64 v] 119] rfl rfl (by kernel_rfl) (by kernel_rfl) (by kernel_rfl) (by kernel_rfl) (by kernel_rfl) (by kernel_rfl) (by kernel_rfl) (by kernel_rfl) ?_
      clear H
      intro v15 H
      refine x_nil ?_
      refine x_then ?_
      refine ⟨fun w' => Hs [] w0 w' [.blk g2 #[.int .i64 L, .int .i64 E, .int .i64 65536, .int .i64 v] 119, .blk g1 #[.int .i64 L, .int .i64 E, .int .i64 65536, .int .i64 v] 119], fun w' => Hs [] w0 w' [.blk g2 #[.int .i64 L, .int .i64 E, .int .i64 65536, .int .i64 v] 119, .blk g1 #[.int .i64 L, .int .i64 E, .int .i64 65536, .int .i64 v] 119], H, hsShut, fun _ h => h.pick [0, 1] _ (by decide) (by kernel_rfl), fun _ h => h.pick [1] _ (by decide) (by kernel_rfl), ?_⟩
      refine s_quiet 13 rfl (by kernel_rfl) (y_val (.bool (decide (L ≤ 65536))) (by kernel_rfl) (fun _ => by kernel_rfl)) ?_
      refine s_done (by kernel_rfl) ?_
      clear H
      intro v16 H
      refine x_then ?_
      refine x_retc ?_
      refine x_ret (.tuple #[.agg #[.int .i64 L, .int .i64 E, .int .i64 65536, .int .i64 v], .bool (decide (L ≤ 65536))]) (by kernel_rfl) (x_rescell H 0 g2 0 #[.int .i64 L, .int .i64 E, .int .i64 65536, .int .i64 v] 119 [.int .i64 L, .int .i64 E, .int .i64 65536, .int .i64 v] (fun x => .tuple #[x, .bool (decide (L ≤ 65536))]) (by kernel_rfl) (by kernel_rfl) (by kernel_rfl)) ?_
      have e1 : (65536, v) = bfill (u, v) n := by unfold bfill; exact Prod.ext (by first | rfl | omega | (dsimp only; omega)) rfl
      have e2 : (decide (L ≤ 65536)) = bcross L (u, v) n := by unfold bcross; dsimp only; rw [decide_eq_true (show u < L by omega), Bool.true_and]; exact decide_eq_decide.2 (by omega)
      exact ⟨by rw [← e1, ← e2], H.below⟩

set_option maxRecDepth 100000 in
set_option maxHeartbeats 4000000 in
theorem DTick (L E u v : Int) (hE : 1 ≤ E ∧ E ≤ 65536) (hb : RB E (u, v)) (w0 : World) :
    Calls Try.prog 160 #[.agg #[.int .i64 L, .int .i64 E, .int .i64 u, .int .i64 v]] w0 fun e w' => e = .returned (.agg #[.int .i64 L, .int .i64 E, .int .i64 ((btick E (u, v)).1), .int .i64 ((btick E (u, v)).2)]) ∧ Below w0.heap.size w0 w' := by
  refine x_enter Try.func160 rfl #[.agg #[.int .i64 L, .int .i64 E, .int .i64 u, .int .i64 v], undef, undef, undef, undef, undef, undef, undef, undef, undef, undef, undef, undef, undef, undef, undef, undef, undef, undef, undef, undef] (by kernel_rfl) ?_
  have H := Hs.nil w0
  have hb' := hb
  unfold RB at hb'
  dsimp only at hb'
  refine x_seq ?_
  refine x_region ?_
  refine x_box H #[.int .i64 L, .int .i64 E, .int .i64 u, .int .i64 v] 119 (by kernel_rfl) rfl (by kernel_rfl) ?_
  clear H
  intro v1 g1 H
  refine x_box H #[.int .i64 0, .int .i64 0, .int .i64 0, .int .i64 0] 119 (by kernel_rfl) rfl (by kernel_rfl) ?_
  clear H
  intro v2 g2 H
  refine x_nil ?_
  refine x_then ?_
  refine x_seq ?_
  refine x_region ?_
  refine x_val (.pointer (some ⟨g1, 3, none⟩)) (by kernel_rfl) rfl (by kernel_rfl) ?_
  refine x_load1 H 1 g1 3 _ _ (.int .i64 v) rfl (by kernel_rfl) (by kernel_rfl) rfl (by kernel_rfl) ?_
  refine x_ar (v + 1) ⟨by omega, by omega⟩ (by kernel_rfl) rfl (by kernel_rfl) ?_
  refine x_val (.pointer (some ⟨g1, 3, none⟩)) (by kernel_rfl) rfl (by kernel_rfl) ?_
  refine x_store (t := 3) (v := .int .i64 (v + 1)) H 1 g1 3 _ #[.int .i64 L, .int .i64 E, .int .i64 u, .int .i64 (v + 1)] 119 [.int .i64 (v + 1)] _ rfl rfl (by kernel_rfl) (by kernel_rfl) (by kernel_rfl) rfl (by kernel_rfl) (by kernel_rfl) (by kernel_rfl) (by kernel_rfl) ?_
  clear H
  intro v3 H
  refine x_nil ?_
  refine x_then ?_
  refine x_seq ?_
  refine x_seq ?_
  refine x_region ?_
  refine x_val (.pointer (some ⟨g1, 3, none⟩)) (by kernel_rfl) rfl (by kernel_rfl) ?_
  refine x_load1 H 1 g1 3 _ _ (.int .i64 (v + 1)) rfl (by kernel_rfl) (by kernel_rfl) rfl (by kernel_rfl) ?_
  refine x_val (.pointer (some ⟨g1, 1, none⟩)) (by kernel_rfl) rfl (by kernel_rfl) ?_
  refine x_load1 H 1 g1 1 _ _ (.int .i64 E) rfl (by kernel_rfl) (by kernel_rfl) rfl (by kernel_rfl) ?_
  refine x_val (.bool (decide ((v + 1) = E))) (by kernel_rfl) rfl (by kernel_rfl) ?_
  refine x_nil ?_
  refine x_then ?_
  cases h1 : decide ((v + 1) = E)
  · skip
    have h1p := of_decide_eq_false h1
    refine x_f (by kernel_rfl) ?_
    refine x_skipc ?_
    refine x_then ?_
    refine x_seq ?_
    refine x_region ?_
    refine x_loadn (t := 119) H 1 g1 0 _ _ [.int .i64 L, .int .i64 E, .int .i64 u, .int .i64 (v + 1)] rfl (by kernel_rfl) (by kernel_rfl) rfl (by kernel_rfl) (by kernel_rfl) ?_
    refine x_store (t := 119) (v := .agg #[.int .i64 L, .int .i64 E, .int .i64 u, .int .i64 (v + 1)]) H 0 g2 0 _ #[.int .i64 L, .int .i64 E, .int .i64 u, .int .i64 (v + 1)] 119 [.int .i64 L, .int .i64 E, .int .i64 u, .int .i64 (v + 1)] _ rfl rfl (by kernel_rfl) (by kernel_rfl) (by kernel_rfl) rfl (by kernel_rfl) (by kernel_rfl) (by kernel_rfl) (by kernel_rfl) ?_
    clear H
    intro v4 H
    refine x_nil ?_
    refine x_then ?_
    refine x_retc ?_
    refine x_ret (.agg #[.int .i64 L, .int .i64 E, .int .i64 u, .int .i64 (v + 1)]) (by kernel_rfl) (x_rescell H 0 g2 0 #[.int .i64 L, .int .i64 E, .int .i64 u, .int .i64 (v + 1)] 119 [.int .i64 L, .int .i64 E, .int .i64 u, .int .i64 (v + 1)] (fun x => x) (by kernel_rfl) (by kernel_rfl) (by kernel_rfl)) ?_
    have e1 : (u, v + 1) = btick E (u, v) := by unfold btick; split <;> exact Prod.ext (by first | rfl | omega | (dsimp only at *; omega)) (by first | rfl | omega | (dsimp only at *; omega))
    exact ⟨by rw [← e1], H.below⟩
  · skip
    have h1p := of_decide_eq_true h1
    refine x_t (by kernel_rfl) ?_
    refine x_seq ?_
    refine x_region ?_
    refine x_val (.pointer (some ⟨g1, 3, none⟩)) (by kernel_rfl) rfl (by kernel_rfl) ?_
    refine x_store (t := 3) (v := .int .i64 0) H 1 g1 3 _ #[.int .i64 L, .int .i64 E, .int .i64 u, .int .i64 0] 119 [.int .i64 0] _ rfl rfl (by kernel_rfl) (by kernel_rfl) (by kernel_rfl) rfl (by kernel_rfl) (by kernel_rfl) (by kernel_rfl) (by kernel_rfl) ?_
    clear H
    intro v5 H
    refine x_nil ?_
    refine x_then ?_
    refine x_seq ?_
    refine x_region ?_
    refine x_val (.pointer (some ⟨g1, 2, none⟩)) (by kernel_rfl) rfl (by kernel_rfl) ?_
    refine x_load1 H 1 g1 2 _ _ (.int .i64 u) rfl (by kernel_rfl) (by kernel_rfl) rfl (by kernel_rfl) ?_
    refine x_val (.bool (decide (0 < u))) (by kernel_rfl) rfl (by kernel_rfl) ?_
    refine x_nil ?_
    refine x_then ?_
    cases h2 : decide (0 < u)
    · skip
      have h2p := of_decide_eq_false h2
      refine x_f (by kernel_rfl) ?_
      refine x_skipc ?_
      refine x_then ?_
      refine x_seq ?_
      refine x_region ?_
      refine x_loadn (t := 119) H 1 g1 0 _ _ [.int .i64 L, .int .i64 E, .int .i64 u, .int .i64 0] rfl (by kernel_rfl) (by kernel_rfl) rfl (by kernel_rfl) (by kernel_rfl) ?_
      refine x_store (t := 119) (v := .agg #[.int .i64 L, .int .i64 E, .int .i64 u, .int .i64 0]) H 0 g2 0 _ #[.int .i64 L, .int .i64 E, .int .i64 u, .int .i64 0] 119 [.int .i64 L, .int .i64 E, .int .i64 u, .int .i64 0] _ rfl rfl (by kernel_rfl) (by kernel_rfl) (by kernel_rfl) rfl (by kernel_rfl) (by kernel_rfl) (by kernel_rfl) (by kernel_rfl) ?_
      clear H
      intro v6 H
      refine x_nil ?_
      refine x_then ?_
      refine x_retc ?_
      refine x_ret (.agg #[.int .i64 L, .int .i64 E, .int .i64 u, .int .i64 0]) (by kernel_rfl) (x_rescell H 0 g2 0 #[.int .i64 L, .int .i64 E, .int .i64 u, .int .i64 0] 119 [.int .i64 L, .int .i64 E, .int .i64 u, .int .i64 0] (fun x => x) (by kernel_rfl) (by kernel_rfl) (by kernel_rfl)) ?_
      have e1 : (u, 0) = btick E (u, v) := by unfold btick; split <;> exact Prod.ext (by first | rfl | omega | (dsimp only at *; omega)) (by first | rfl | omega | (dsimp only at *; omega))
      exact ⟨by rw [← e1], H.below⟩
    · skip
      have h2p := of_decide_eq_true h2
      refine x_t (by kernel_rfl) ?_
      refine x_region ?_
      refine x_val (.pointer (some ⟨g1, 2, none⟩)) (by kernel_rfl) rfl (by kernel_rfl) ?_
      refine x_load1 H 1 g1 2 _ _ (.int .i64 u) rfl (by kernel_rfl) (by kernel_rfl) rfl (by kernel_rfl) ?_
      refine x_ar (u - 1) ⟨by omega, by omega⟩ (by kernel_rfl) rfl (by kernel_rfl) ?_
      refine x_val (.pointer (some ⟨g1, 2, none⟩)) (by kernel_rfl) rfl (by kernel_rfl) ?_
      refine x_store (t := 3) (v := .int .i64 (u - 1)) H 1 g1 2 _ #[.int .i64 L, .int .i64 E, .int .i64 (u - 1), .int .i64 0] 119 [.int .i64 (u - 1)] [.blk g2 #[.int .i64 0, .int .i64 0, .int .i64 0, .int .i64 0] 119, .blk g1 #[.int .i64 L, .int .i64 E, .int .i64 (u - 1), .int .i64 0] 119] rfl rfl (by kernel_rfl) (by kernel_rfl) (by kernel_rfl) (by kernel_rfl) (by kernel_rfl) (by kernel_rfl) (by kernel_rfl) (by kernel_rfl) ?_
      clear H
      intro v7 H
      refine x_nil ?_
      refine x_then ?_
      refine x_seq ?_
      refine x_region ?_
      refine x_loadn (t := 119) H 1 g1 0 _ _ [.int .i64 L, .int .i64 E, .int .i64 (u - 1), .int .i64 0] rfl (by kernel_rfl) (by kernel_rfl) rfl (by kernel_rfl) (by kernel_rfl) ?_
      refine x_store (t := 119) (v := .agg #[.int .i64 L, .int .i64 E, .int .i64 (u - 1), .int .i64 0]) H 0 g2 0 _ #[.int .i64 L, .int .i64 E, .int .i64 (u - 1), .int .i64 0] 119 [.int .i64 L, .int .i64 E, .int .i64 (u - 1), .int .i64 0] _ rfl rfl (by kernel_rfl) (by kernel_rfl) (by kernel_rfl) rfl (by kernel_rfl) (by kernel_rfl) (by kernel_rfl) (by kernel_rfl) ?_
      clear H
      intro v8 H
      refine x_nil ?_
      refine x_then ?_
      refine x_retc ?_
      refine x_ret (.agg #[.int .i64 L, .int .i64 E, .int .i64 (u - 1), .int .i64 0]) (by kernel_rfl) (x_rescell H 0 g2 0 #[.int .i64 L, .int .i64 E, .int .i64 (u - 1), .int .i64 0] 119 [.int .i64 L, .int .i64 E, .int .i64 (u - 1), .int .i64 0] (fun x => x) (by kernel_rfl) (by kernel_rfl) (by kernel_rfl)) ?_
      have e1 : (u - 1, 0) = btick E (u, v) := by unfold btick; split <;> exact Prod.ext (by first | rfl | omega | (dsimp only at *; omega)) (by first | rfl | omega | (dsimp only at *; omega))
      exact ⟨by rw [← e1], H.below⟩

set_option maxRecDepth 100000 in
set_option maxHeartbeats 4000000 in
theorem DRight (L E u v : Int) (w0 : World) :
    Calls Try.prog 61 #[.agg #[.int .i64 L, .int .i64 E, .int .i64 u, .int .i64 v]] w0 fun e w' => e = .returned (.bool (decide (RR L E ∧ RB E (u, v)))) ∧ Below w0.heap.size w0 w' := by
  refine x_enter Try.func61 rfl #[.agg #[.int .i64 L, .int .i64 E, .int .i64 u, .int .i64 v], undef, undef, undef, undef, undef, undef, undef, undef, undef, undef, undef, undef, undef, undef, undef, undef, undef, undef, undef, undef, undef, undef, undef, undef, undef, undef, undef, undef, undef, undef, undef, undef, undef, undef, undef, undef, undef, undef, undef, undef, undef, undef] (by kernel_rfl) ?_
  have H := Hs.nil w0
  refine x_seq ?_
  refine x_region ?_
  refine x_box H #[.int .i64 L, .int .i64 E, .int .i64 u, .int .i64 v] 119 (by kernel_rfl) rfl (by kernel_rfl) ?_
  clear H
  intro v1 g1 H
  refine x_val (.bool false) (by kernel_rfl) rfl (by kernel_rfl) ?_
  refine x_nil ?_
  refine x_then ?_
  refine x_seq ?_
  refine x_region ?_
  refine x_val (.pointer (some ⟨g1, 0, none⟩)) (by kernel_rfl) rfl (by kernel_rfl) ?_
  refine x_load1 H 0 g1 0 _ _ (.int .i64 L) rfl (by kernel_rfl) (by kernel_rfl) rfl (by kernel_rfl) ?_
  refine x_val (.bool (decide (1 ≤ L))) (by kernel_rfl) rfl (by kernel_rfl) ?_
  refine x_val (.bool (decide (1 ≤ L))) (by kernel_rfl) rfl (by kernel_rfl) ?_
  cases h1 : decide (1 ≤ L)
  · skip
    have h1p := of_decide_eq_false h1
    refine x_skip (by kernel_rfl) ?_
    refine x_skip (by kernel_rfl) ?_
    refine x_skip (by kernel_rfl) ?_
    refine x_val (.bool false) (by kernel_rfl) rfl (by kernel_rfl) ?_
    refine x_val (.bool false) (by kernel_rfl) rfl (by kernel_rfl) ?_
    refine x_skip (by kernel_rfl) ?_
    refine x_skip (by kernel_rfl) ?_
    refine x_skip (by kernel_rfl) ?_
    refine x_val (.bool false) (by kernel_rfl) rfl (by kernel_rfl) ?_
    refine x_val (.bool false) (by kernel_rfl) rfl (by kernel_rfl) ?_
    refine x_skip (by kernel_rfl) ?_
    refine x_skip (by kernel_rfl) ?_
    refine x_skip (by kernel_rfl) ?_
    refine x_val (.bool false) (by kernel_rfl) rfl (by kernel_rfl) ?_
    refine x_val (.bool false) (by kernel_rfl) rfl (by kernel_rfl) ?_
    refine x_skip (by kernel_rfl) ?_
    refine x_skip (by kernel_rfl) ?_
    refine x_skip (by kernel_rfl) ?_
    refine x_val (.bool false) (by kernel_rfl) rfl (by kernel_rfl) ?_
    refine x_val (.bool false) (by kernel_rfl) rfl (by kernel_rfl) ?_
    refine x_skip (by kernel_rfl) ?_
    refine x_skip (by kernel_rfl) ?_
    refine x_skip (by kernel_rfl) ?_
    refine x_val (.bool false) (by kernel_rfl) rfl (by kernel_rfl) ?_
    refine x_val (.bool false) (by kernel_rfl) rfl (by kernel_rfl) ?_
    refine x_skip (by kernel_rfl) ?_
    refine x_skip (by kernel_rfl) ?_
    refine x_skip (by kernel_rfl) ?_
    refine x_val (.bool false) (by kernel_rfl) rfl (by kernel_rfl) ?_
    refine x_val (.bool false) (by kernel_rfl) rfl (by kernel_rfl) ?_
    refine x_skip (by kernel_rfl) ?_
    refine x_skip (by kernel_rfl) ?_
    refine x_skip (by kernel_rfl) ?_
    refine x_skip (by kernel_rfl) ?_
    refine x_skip (by kernel_rfl) ?_
    refine x_val (.bool false) (by kernel_rfl) rfl (by kernel_rfl) ?_
    refine x_val (.bool false) (by kernel_rfl) rfl (by kernel_rfl) ?_
    refine x_nil ?_
    refine x_then ?_
    refine x_retc ?_
    refine x_ret (.bool false) (by kernel_rfl) (by kernel_rfl) ?_
    exact ⟨by rw [decide_eq_false (by unfold RR RB; omega)], H.below⟩
  · skip
    have h1p := of_decide_eq_true h1
    refine x_val (.pointer (some ⟨g1, 0, none⟩)) (by kernel_rfl) rfl (by kernel_rfl) ?_
    refine x_load1 H 0 g1 0 _ _ (.int .i64 L) rfl (by kernel_rfl) (by kernel_rfl) rfl (by kernel_rfl) ?_
    refine x_val (.bool (decide (L ≤ 65536))) (by kernel_rfl) rfl (by kernel_rfl) ?_
    refine x_val (.bool (decide (L ≤ 65536))) (by kernel_rfl) rfl (by kernel_rfl) ?_
    refine x_val (.bool (decide (L ≤ 65536))) (by kernel_rfl) rfl (by kernel_rfl) ?_
    cases h2 : decide (L ≤ 65536)
    · skip
      have h2p := of_decide_eq_false h2
      refine x_skip (by kernel_rfl) ?_
      refine x_skip (by kernel_rfl) ?_
      refine x_skip (by kernel_rfl) ?_
      refine x_val (.bool false) (by kernel_rfl) rfl (by kernel_rfl) ?_
      refine x_val (.bool false) (by kernel_rfl) rfl (by kernel_rfl) ?_
      refine x_skip (by kernel_rfl) ?_
      refine x_skip (by kernel_rfl) ?_
      refine x_skip (by kernel_rfl) ?_
      refine x_val (.bool false) (by kernel_rfl) rfl (by kernel_rfl) ?_
      refine x_val (.bool false) (by kernel_rfl) rfl (by kernel_rfl) ?_
      refine x_skip (by kernel_rfl) ?_
      refine x_skip (by kernel_rfl) ?_
      refine x_skip (by kernel_rfl) ?_
      refine x_val (.bool false) (by kernel_rfl) rfl (by kernel_rfl) ?_
      refine x_val (.bool false) (by kernel_rfl) rfl (by kernel_rfl) ?_
      refine x_skip (by kernel_rfl) ?_
      refine x_skip (by kernel_rfl) ?_
      refine x_skip (by kernel_rfl) ?_
      refine x_val (.bool false) (by kernel_rfl) rfl (by kernel_rfl) ?_
      refine x_val (.bool false) (by kernel_rfl) rfl (by kernel_rfl) ?_
      refine x_skip (by kernel_rfl) ?_
      refine x_skip (by kernel_rfl) ?_
      refine x_skip (by kernel_rfl) ?_
      refine x_val (.bool false) (by kernel_rfl) rfl (by kernel_rfl) ?_
      refine x_val (.bool false) (by kernel_rfl) rfl (by kernel_rfl) ?_
      refine x_skip (by kernel_rfl) ?_
      refine x_skip (by kernel_rfl) ?_
      refine x_skip (by kernel_rfl) ?_
      refine x_skip (by kernel_rfl) ?_
      refine x_skip (by kernel_rfl) ?_
      refine x_val (.bool false) (by kernel_rfl) rfl (by kernel_rfl) ?_
      refine x_val (.bool false) (by kernel_rfl) rfl (by kernel_rfl) ?_
      refine x_nil ?_
      refine x_then ?_
      refine x_retc ?_
      refine x_ret (.bool false) (by kernel_rfl) (by kernel_rfl) ?_
      exact ⟨by rw [decide_eq_false (by unfold RR RB; omega)], H.below⟩
    · skip
      have h2p := of_decide_eq_true h2
      refine x_val (.pointer (some ⟨g1, 1, none⟩)) (by kernel_rfl) rfl (by kernel_rfl) ?_
      refine x_load1 H 0 g1 1 _ _ (.int .i64 E) rfl (by kernel_rfl) (by kernel_rfl) rfl (by kernel_rfl) ?_
      refine x_val (.bool (decide (1 ≤ E))) (by kernel_rfl) rfl (by kernel_rfl) ?_
      refine x_val (.bool (decide (1 ≤ E))) (by kernel_rfl) rfl (by kernel_rfl) ?_
      refine x_val (.bool (decide (1 ≤ E))) (by kernel_rfl) rfl (by kernel_rfl) ?_
      cases h3 : decide (1 ≤ E)
      · skip
        have h3p := of_decide_eq_false h3
        refine x_skip (by kernel_rfl) ?_
        refine x_skip (by kernel_rfl) ?_
        refine x_skip (by kernel_rfl) ?_
        refine x_val (.bool false) (by kernel_rfl) rfl (by kernel_rfl) ?_
        refine x_val (.bool false) (by kernel_rfl) rfl (by kernel_rfl) ?_
        refine x_skip (by kernel_rfl) ?_
        refine x_skip (by kernel_rfl) ?_
        refine x_skip (by kernel_rfl) ?_
        refine x_val (.bool false) (by kernel_rfl) rfl (by kernel_rfl) ?_
        refine x_val (.bool false) (by kernel_rfl) rfl (by kernel_rfl) ?_
        refine x_skip (by kernel_rfl) ?_
        refine x_skip (by kernel_rfl) ?_
        refine x_skip (by kernel_rfl) ?_
        refine x_val (.bool false) (by kernel_rfl) rfl (by kernel_rfl) ?_
        refine x_val (.bool false) (by kernel_rfl) rfl (by kernel_rfl) ?_
        refine x_skip (by kernel_rfl) ?_
        refine x_skip (by kernel_rfl) ?_
        refine x_skip (by kernel_rfl) ?_
        refine x_val (.bool false) (by kernel_rfl) rfl (by kernel_rfl) ?_
        refine x_val (.bool false) (by kernel_rfl) rfl (by kernel_rfl) ?_
        refine x_skip (by kernel_rfl) ?_
        refine x_skip (by kernel_rfl) ?_
        refine x_skip (by kernel_rfl) ?_
        refine x_skip (by kernel_rfl) ?_
        refine x_skip (by kernel_rfl) ?_
        refine x_val (.bool false) (by kernel_rfl) rfl (by kernel_rfl) ?_
        refine x_val (.bool false) (by kernel_rfl) rfl (by kernel_rfl) ?_
        refine x_nil ?_
        refine x_then ?_
        refine x_retc ?_
        refine x_ret (.bool false) (by kernel_rfl) (by kernel_rfl) ?_
        exact ⟨by rw [decide_eq_false (by unfold RR RB; omega)], H.below⟩
      · skip
        have h3p := of_decide_eq_true h3
        refine x_val (.pointer (some ⟨g1, 1, none⟩)) (by kernel_rfl) rfl (by kernel_rfl) ?_
        refine x_load1 H 0 g1 1 _ _ (.int .i64 E) rfl (by kernel_rfl) (by kernel_rfl) rfl (by kernel_rfl) ?_
        refine x_val (.bool (decide (E ≤ 65536))) (by kernel_rfl) rfl (by kernel_rfl) ?_
        refine x_val (.bool (decide (E ≤ 65536))) (by kernel_rfl) rfl (by kernel_rfl) ?_
        refine x_val (.bool (decide (E ≤ 65536))) (by kernel_rfl) rfl (by kernel_rfl) ?_
        cases h4 : decide (E ≤ 65536)
        · skip
          have h4p := of_decide_eq_false h4
          refine x_skip (by kernel_rfl) ?_
          refine x_skip (by kernel_rfl) ?_
          refine x_skip (by kernel_rfl) ?_
          refine x_val (.bool false) (by kernel_rfl) rfl (by kernel_rfl) ?_
          refine x_val (.bool false) (by kernel_rfl) rfl (by kernel_rfl) ?_
          refine x_skip (by kernel_rfl) ?_
          refine x_skip (by kernel_rfl) ?_
          refine x_skip (by kernel_rfl) ?_
          refine x_val (.bool false) (by kernel_rfl) rfl (by kernel_rfl) ?_
          refine x_val (.bool false) (by kernel_rfl) rfl (by kernel_rfl) ?_
          refine x_skip (by kernel_rfl) ?_
          refine x_skip (by kernel_rfl) ?_
          refine x_skip (by kernel_rfl) ?_
          refine x_val (.bool false) (by kernel_rfl) rfl (by kernel_rfl) ?_
          refine x_val (.bool false) (by kernel_rfl) rfl (by kernel_rfl) ?_
          refine x_skip (by kernel_rfl) ?_
          refine x_skip (by kernel_rfl) ?_
          refine x_skip (by kernel_rfl) ?_
          refine x_skip (by kernel_rfl) ?_
          refine x_skip (by kernel_rfl) ?_
          refine x_val (.bool false) (by kernel_rfl) rfl (by kernel_rfl) ?_
          refine x_val (.bool false) (by kernel_rfl) rfl (by kernel_rfl) ?_
          refine x_nil ?_
          refine x_then ?_
          refine x_retc ?_
          refine x_ret (.bool false) (by kernel_rfl) (by kernel_rfl) ?_
          exact ⟨by rw [decide_eq_false (by unfold RR RB; omega)], H.below⟩
        · skip
          have h4p := of_decide_eq_true h4
          refine x_val (.pointer (some ⟨g1, 2, none⟩)) (by kernel_rfl) rfl (by kernel_rfl) ?_
          refine x_load1 H 0 g1 2 _ _ (.int .i64 u) rfl (by kernel_rfl) (by kernel_rfl) rfl (by kernel_rfl) ?_
          refine x_val (.bool (decide (0 ≤ u))) (by kernel_rfl) rfl (by kernel_rfl) ?_
          refine x_val (.bool (decide (0 ≤ u))) (by kernel_rfl) rfl (by kernel_rfl) ?_
          refine x_val (.bool (decide (0 ≤ u))) (by kernel_rfl) rfl (by kernel_rfl) ?_
          cases h5 : decide (0 ≤ u)
          · skip
            have h5p := of_decide_eq_false h5
            refine x_skip (by kernel_rfl) ?_
            refine x_skip (by kernel_rfl) ?_
            refine x_skip (by kernel_rfl) ?_
            refine x_val (.bool false) (by kernel_rfl) rfl (by kernel_rfl) ?_
            refine x_val (.bool false) (by kernel_rfl) rfl (by kernel_rfl) ?_
            refine x_skip (by kernel_rfl) ?_
            refine x_skip (by kernel_rfl) ?_
            refine x_skip (by kernel_rfl) ?_
            refine x_val (.bool false) (by kernel_rfl) rfl (by kernel_rfl) ?_
            refine x_val (.bool false) (by kernel_rfl) rfl (by kernel_rfl) ?_
            refine x_skip (by kernel_rfl) ?_
            refine x_skip (by kernel_rfl) ?_
            refine x_skip (by kernel_rfl) ?_
            refine x_skip (by kernel_rfl) ?_
            refine x_skip (by kernel_rfl) ?_
            refine x_val (.bool false) (by kernel_rfl) rfl (by kernel_rfl) ?_
            refine x_val (.bool false) (by kernel_rfl) rfl (by kernel_rfl) ?_
            refine x_nil ?_
            refine x_then ?_
            refine x_retc ?_
            refine x_ret (.bool false) (by kernel_rfl) (by kernel_rfl) ?_
            exact ⟨by rw [decide_eq_false (by unfold RR RB; omega)], H.below⟩
          · skip
            have h5p := of_decide_eq_true h5
            refine x_val (.pointer (some ⟨g1, 2, none⟩)) (by kernel_rfl) rfl (by kernel_rfl) ?_
            refine x_load1 H 0 g1 2 _ _ (.int .i64 u) rfl (by kernel_rfl) (by kernel_rfl) rfl (by kernel_rfl) ?_
            refine x_val (.bool (decide (u ≤ 65536))) (by kernel_rfl) rfl (by kernel_rfl) ?_
            refine x_val (.bool (decide (u ≤ 65536))) (by kernel_rfl) rfl (by kernel_rfl) ?_
            refine x_val (.bool (decide (u ≤ 65536))) (by kernel_rfl) rfl (by kernel_rfl) ?_
            cases h6 : decide (u ≤ 65536)
            · skip
              have h6p := of_decide_eq_false h6
              refine x_skip (by kernel_rfl) ?_
              refine x_skip (by kernel_rfl) ?_
              refine x_skip (by kernel_rfl) ?_
              refine x_val (.bool false) (by kernel_rfl) rfl (by kernel_rfl) ?_
              refine x_val (.bool false) (by kernel_rfl) rfl (by kernel_rfl) ?_
              refine x_skip (by kernel_rfl) ?_
              refine x_skip (by kernel_rfl) ?_
              refine x_skip (by kernel_rfl) ?_
              refine x_skip (by kernel_rfl) ?_
              refine x_skip (by kernel_rfl) ?_
              refine x_val (.bool false) (by kernel_rfl) rfl (by kernel_rfl) ?_
              refine x_val (.bool false) (by kernel_rfl) rfl (by kernel_rfl) ?_
              refine x_nil ?_
              refine x_then ?_
              refine x_retc ?_
              refine x_ret (.bool false) (by kernel_rfl) (by kernel_rfl) ?_
              exact ⟨by rw [decide_eq_false (by unfold RR RB; omega)], H.below⟩
            · skip
              have h6p := of_decide_eq_true h6
              refine x_val (.pointer (some ⟨g1, 3, none⟩)) (by kernel_rfl) rfl (by kernel_rfl) ?_
              refine x_load1 H 0 g1 3 _ _ (.int .i64 v) rfl (by kernel_rfl) (by kernel_rfl) rfl (by kernel_rfl) ?_
              refine x_val (.bool (decide (0 ≤ v))) (by kernel_rfl) rfl (by kernel_rfl) ?_
              refine x_val (.bool (decide (0 ≤ v))) (by kernel_rfl) rfl (by kernel_rfl) ?_
              refine x_val (.bool (decide (0 ≤ v))) (by kernel_rfl) rfl (by kernel_rfl) ?_
              cases h7 : decide (0 ≤ v)
              · skip
                have h7p := of_decide_eq_false h7
                refine x_skip (by kernel_rfl) ?_
                refine x_skip (by kernel_rfl) ?_
                refine x_skip (by kernel_rfl) ?_
                refine x_skip (by kernel_rfl) ?_
                refine x_skip (by kernel_rfl) ?_
                refine x_val (.bool false) (by kernel_rfl) rfl (by kernel_rfl) ?_
                refine x_val (.bool false) (by kernel_rfl) rfl (by kernel_rfl) ?_
                refine x_nil ?_
                refine x_then ?_
                refine x_retc ?_
                refine x_ret (.bool false) (by kernel_rfl) (by kernel_rfl) ?_
                exact ⟨by rw [decide_eq_false (by unfold RR RB; omega)], H.below⟩
              · skip
                have h7p := of_decide_eq_true h7
                refine x_val (.pointer (some ⟨g1, 3, none⟩)) (by kernel_rfl) rfl (by kernel_rfl) ?_
                refine x_load1 H 0 g1 3 _ _ (.int .i64 v) rfl (by kernel_rfl) (by kernel_rfl) rfl (by kernel_rfl) ?_
                refine x_val (.pointer (some ⟨g1, 1, none⟩)) (by kernel_rfl) rfl (by kernel_rfl) ?_
                refine x_load1 H 0 g1 1 _ _ (.int .i64 E) rfl (by kernel_rfl) (by kernel_rfl) rfl (by kernel_rfl) ?_
                refine x_val (.bool (decide (v < E))) (by kernel_rfl) rfl (by kernel_rfl) ?_
                refine x_val (.bool (decide (v < E))) (by kernel_rfl) rfl (by kernel_rfl) ?_
                refine x_val (.bool (decide (v < E))) (by kernel_rfl) rfl (by kernel_rfl) ?_
                refine x_nil ?_
                refine x_then ?_
                refine x_retc ?_
                refine x_ret (.bool (decide (v < E))) (by kernel_rfl) (by kernel_rfl) ?_
                have e : ((decide (v < E))) = decide (RR L E ∧ RB E (u, v)) := by rw [decide_eq_decide]; unfold RR RB; omega
                exact ⟨by rw [e], H.below⟩

set_option maxRecDepth 100000 in
set_option maxHeartbeats 4000000 in
theorem DFind_s {pL pE : Int} {room : Nat} {rv : Value} {g cap : Nat} (xs : List PairB) (key : Int) (hn : xs.length ≤ 4096) (w0 : World) (hR : Ro w0 [.row (.slice (some ⟨g, 0, none⟩) (List.length xs) cap) 206 5 (List.length xs) (List.flatMap (dpL pL pE) xs)]) :
    Calls Try.prog 66 #[.agg #[rv, .slice (some ⟨g, 0, none⟩) (List.length xs) cap, .int .i64 pL, .int .i64 pE, .int .i64 0, .int .i64 0, .int .i64 ((room : Nat) : Int)], .int .i64 key] w0 fun e w' => e = .returned (.int .i64 (findB xs key)) ∧ Below w0.heap.size w0 w' := by
  refine x_enter Try.func66 rfl #[.agg #[rv, .slice (some ⟨g, 0, none⟩) (List.length xs) cap, .int .i64 pL, .int .i64 pE, .int .i64 0, .int .i64 0, .int .i64 ((room : Nat) : Int)], .int .i64 key, undef, undef, undef, undef, undef, undef, undef, undef, undef, undef, undef, undef, undef, undef, undef, undef, undef, undef, undef, undef] (by kernel_rfl) ?_
  have H := Hs.nil w0
  have R0 := hR
  refine x_seq ?_
  refine x_region ?_
  refine x_box H #[rv, .slice (some ⟨g, 0, none⟩) (List.length xs) cap, .int .i64 pL, .int .i64 pE, .int .i64 0, .int .i64 0, .int .i64 ((room : Nat) : Int)] 124 (by kernel_rfl) rfl (by kernel_rfl) ?_
  clear H
  intro v1 g1 H
  refine x_val (.int .i64 0) (by kernel_rfl) rfl (by kernel_rfl) ?_
  refine x_nil ?_
  refine x_then ?_
  refine x_seq ?_
  refine x_seq ?_
  refine x_region ?_
  refine x_val (.int .i64 0) (by kernel_rfl) rfl (by kernel_rfl) ?_
  refine x_nil ?_
  refine x_then ?_
  refine x_block ?_
  refine x_loop (G := Nat) (fun (k : Nat) a w' => ∃ uf1 : Nat → Value, a = { tmps := #[.agg #[rv, .slice (some ⟨g, 0, none⟩) (List.length xs) cap, .int .i64 pL, .int .i64 pE, .int .i64 0, .int .i64 0, .int .i64 ((room : Nat) : Int)], .int .i64 key, .pointer (some ⟨g1, 0, none⟩), undef, (uf1 0), .int .i64 ((k : Nat) : Int), (uf1 1), (uf1 2), (uf1 3), (uf1 4), (uf1 5), (uf1 6), (uf1 7), (uf1 8), (uf1 9), (uf1 10), (uf1 11), (uf1 12), (uf1 13), (uf1 14), (uf1 15), (uf1 16)], defers := [] } ∧ Hs [] w0 w' [.blk g1 #[rv, .slice (some ⟨g, 0, none⟩) (List.length xs) cap, .int .i64 pL, .int .i64 pE, .int .i64 0, .int .i64 0, .int .i64 ((room : Nat) : Int)] 124] ∧ (k ≤ xs.length) ∧ (∀ j, j < k → ¬ (xs.getD j (0, 0, 0)).1 = key)) (fun (k : Nat) => xs.length - k) 0 ⟨(nthV [.int .i64 0, undef, undef, undef, undef, undef, undef, undef, undef, undef, undef, undef, undef, undef, undef, undef, undef]), (by kernel_rfl), H, (Nat.zero_le _), (fun j hj => absurd hj (Nat.not_lt_zero _))⟩ ?_
  clear H
  rintro k _ v2 ⟨uf1, rfl, H, r1, r2⟩
  refine x_seq ?_
  refine x_seq ?_
  refine x_region ?_
  refine x_val (.int .i64 ((k : Nat) : Int)) (by kernel_rfl) rfl (by kernel_rfl) ?_
  refine x_val (.pointer (some ⟨g1, 1, none⟩)) (by kernel_rfl) rfl (by kernel_rfl) ?_
  refine x_load1 H 0 g1 1 _ _ (.slice (some ⟨g, 0, none⟩) (List.length xs) cap) rfl (by kernel_rfl) (by kernel_rfl) rfl (by kernel_rfl) ?_
  refine x_val (.int .i64 (((List.length xs) : Nat) : Int)) (by kernel_rfl) rfl (by kernel_rfl) ?_
  refine x_val (.bool (decide (((k : Nat) : Int) < (((List.length xs) : Nat) : Int)))) (by kernel_rfl) rfl (by kernel_rfl) ?_
  refine x_nil ?_
  refine x_then ?_
  cases h1 : decide (((k : Nat) : Int) < (((List.length xs) : Nat) : Int))
  · skip
    have h1p := of_decide_eq_false h1
    refine x_f (by kernel_rfl) ?_
    refine x_exit ?_
    refine x_then_exit ?_
    refine x_then_exit ?_
    refine x_blk_exit ?_
    refine x_then ?_
    refine x_seq ?_
    refine x_region ?_
    refine x_val (.int .i64 (-1)) (by kernel_rfl) rfl (by kernel_rfl) ?_
    refine x_nil ?_
    refine x_then ?_
    refine x_retc ?_
    refine x_ret (.int .i64 (-1)) (by kernel_rfl) (by kernel_rfl) ?_
    exact ⟨by rw [find_missB (fun j hj => r2 j (by omega))], H.below⟩
  · skip
    have h1p := of_decide_eq_true h1
    refine x_t (by kernel_rfl) ?_
    refine x_skipc ?_
    refine x_then ?_
    refine x_seq ?_
    refine x_block ?_
    refine x_seq ?_
    refine x_region ?_
    refine x_val (.pointer (some ⟨g1, 1, none⟩)) (by kernel_rfl) rfl (by kernel_rfl) ?_
    refine x_load1 H 0 g1 1 _ _ (.slice (some ⟨g, 0, none⟩) (List.length xs) cap) rfl (by kernel_rfl) (by kernel_rfl) rfl (by kernel_rfl) ?_
    refine x_val (.int .i64 ((k : Nat) : Int)) (by kernel_rfl) rfl (by kernel_rfl) ?_
    refine x_ix (t := 122) g 0 k (List.length xs) cap 206 5 (k * 5) (by omega) (by omega) (by kernel_rfl) (by kernel_rfl) (by kernel_rfl) rfl (by kernel_rfl) ?_
    refine x_val (.pointer (some ⟨g, k * 5, none⟩)) (by kernel_rfl) rfl (by kernel_rfl) ?_
    refine x_loadc g (k * 5) (.int .i64 ((xs.getD k (0, 0, 0)).1)) (((H.ro R0).rowCells 0 rfl (k * 5) (flatAt (dpLen pL pE) (0, 0, 0) _ (by omega))) 0 _ rfl) (by kernel_rfl) rfl (by kernel_rfl) ?_
    refine x_val (.int .i64 key) (by kernel_rfl) rfl (by kernel_rfl) ?_
    refine x_val (.bool (decide (((xs.getD k (0, 0, 0)).1) = key))) (by kernel_rfl) rfl (by kernel_rfl) ?_
    refine x_nil ?_
    refine x_then ?_
    cases h2 : decide (((xs.getD k (0, 0, 0)).1) = key)
    · skip
      have h2p := of_decide_eq_false h2
      refine x_f (by kernel_rfl) ?_
      refine x_skipc ?_
      refine x_blk ?_
      refine x_then ?_
      refine x_region ?_
      refine x_val (.int .i64 ((k : Nat) : Int)) (by kernel_rfl) rfl (by kernel_rfl) ?_
      refine x_ar (((k : Nat) : Int) + 1) ⟨by omega, by omega⟩ (by kernel_rfl) rfl (by kernel_rfl) ?_
      refine x_val (.int .i64 (((k : Nat) : Int) + 1)) (by kernel_rfl) rfl (by kernel_rfl) ?_
      refine x_nil ?_
      refine x_then ?_
      exact ⟨(k + 1), (by omega), (nthV [(uf1 0), .int .i64 ((k : Nat) : Int), .pointer (some ⟨g1, 1, none⟩), .slice (some ⟨g, 0, none⟩) (List.length xs) cap, .int .i64 (((List.length xs) : Nat) : Int), .bool true, .int .i64 ((k : Nat) : Int), .int .i64 (((k : Nat) : Int) + 1), .pointer (some ⟨g1, 1, none⟩), .slice (some ⟨g, 0, none⟩) (List.length xs) cap, .int .i64 ((k : Nat) : Int), .pointer (some ⟨g, k * 5, none⟩), .pointer (some ⟨g, k * 5, none⟩), .int .i64 ((xs.getD k (0, 0, 0)).1), .int .i64 key, .bool false, (uf1 16)]), (by kernel_rfl), H, (by omega), (fun j hj => by by_cases e : j = k; (subst e; exact of_decide_eq_false h2); exact r2 j (by omega))⟩
    · skip
      have h2p := of_decide_eq_true h2
      refine x_t (by kernel_rfl) ?_
      refine x_seq ?_
      refine x_region ?_
      refine x_val (.int .i64 ((k : Nat) : Int)) (by kernel_rfl) rfl (by kernel_rfl) ?_
      refine x_val (.int .i64 ((k : Nat) : Int)) (by kernel_rfl) rfl (by kernel_rfl) ?_
      refine x_nil ?_
      refine x_then ?_
      refine x_retc ?_
      refine x_blk_ret ?_
      refine x_then_ret ?_
      refine x_then_ret ?_
      refine x_blk_ret ?_
      refine x_then_ret ?_
      refine x_ret (.int .i64 ((k : Nat) : Int)) (by kernel_rfl) (by kernel_rfl) ?_
      have e := find_hitB (show k < xs.length by omega) r2 (of_decide_eq_true h2)
      exact ⟨by unfold findB; rw [e, if_pos (by omega)], H.below⟩

set_option maxRecDepth 100000 in
set_option maxHeartbeats 4000000 in
theorem DFind_n {pL pE : Int} {room : Nat} {rv : Value} (key : Int) (w0 : World) :
    Calls Try.prog 66 #[.agg #[rv, .slice none 0 0, .int .i64 pL, .int .i64 pE, .int .i64 0, .int .i64 0, .int .i64 ((room : Nat) : Int)], .int .i64 key] w0 fun e w' => e = .returned (.int .i64 (-1)) ∧ Below w0.heap.size w0 w' := by
  refine x_enter Try.func66 rfl #[.agg #[rv, .slice none 0 0, .int .i64 pL, .int .i64 pE, .int .i64 0, .int .i64 0, .int .i64 ((room : Nat) : Int)], .int .i64 key, undef, undef, undef, undef, undef, undef, undef, undef, undef, undef, undef, undef, undef, undef, undef, undef, undef, undef, undef, undef] (by kernel_rfl) ?_
  have H := Hs.nil w0
  refine x_seq ?_
  refine x_region ?_
  refine x_box H #[rv, .slice none 0 0, .int .i64 pL, .int .i64 pE, .int .i64 0, .int .i64 0, .int .i64 ((room : Nat) : Int)] 124 (by kernel_rfl) rfl (by kernel_rfl) ?_
  clear H
  intro v1 g1 H
  refine x_val (.int .i64 0) (by kernel_rfl) rfl (by kernel_rfl) ?_
  refine x_nil ?_
  refine x_then ?_
  refine x_seq ?_
  refine x_seq ?_
  refine x_region ?_
  refine x_val (.int .i64 0) (by kernel_rfl) rfl (by kernel_rfl) ?_
  refine x_nil ?_
  refine x_then ?_
  refine x_block ?_
  refine x_loop (G := Unit) (fun (_ : Unit) a w' => ∃ uf1 : Nat → Value, a = { tmps := #[.agg #[rv, .slice none 0 0, .int .i64 pL, .int .i64 pE, .int .i64 0, .int .i64 0, .int .i64 ((room : Nat) : Int)], .int .i64 key, .pointer (some ⟨g1, 0, none⟩), undef, (uf1 0), .int .i64 0, (uf1 1), (uf1 2), (uf1 3), (uf1 4), (uf1 5), (uf1 6), (uf1 7), (uf1 8), (uf1 9), (uf1 10), (uf1 11), (uf1 12), (uf1 13), (uf1 14), (uf1 15), (uf1 16)], defers := [] } ∧ Hs [] w0 w' [.blk g1 #[rv, .slice none 0 0, .int .i64 pL, .int .i64 pE, .int .i64 0, .int .i64 0, .int .i64 ((room : Nat) : Int)] 124]) (fun _ => 0) () ⟨(nthV [.int .i64 0, undef, undef, undef, undef, undef, undef, undef, undef, undef, undef, undef, undef, undef, undef, undef, undef]), (by kernel_rfl), H⟩ ?_
  clear H
  rintro _ _ v2 ⟨uf1, rfl, H⟩
  refine x_seq ?_
  refine x_seq ?_
  refine x_region ?_
  refine x_val (.int .i64 0) (by kernel_rfl) rfl (by kernel_rfl) ?_
  refine x_val (.pointer (some ⟨g1, 1, none⟩)) (by kernel_rfl) rfl (by kernel_rfl) ?_
  refine x_load1 H 0 g1 1 _ _ (.slice none 0 0) rfl (by kernel_rfl) (by kernel_rfl) rfl (by kernel_rfl) ?_
  refine x_val (.int .i64 0) (by kernel_rfl) rfl (by kernel_rfl) ?_
  refine x_val (.bool false) (by kernel_rfl) rfl (by kernel_rfl) ?_
  refine x_nil ?_
  refine x_then ?_
  refine x_f (by kernel_rfl) ?_
  refine x_exit ?_
  refine x_then_exit ?_
  refine x_then_exit ?_
  refine x_blk_exit ?_
  refine x_then ?_
  refine x_seq ?_
  refine x_region ?_
  refine x_val (.int .i64 (-1)) (by kernel_rfl) rfl (by kernel_rfl) ?_
  refine x_nil ?_
  refine x_then ?_
  refine x_retc ?_
  refine x_ret (.int .i64 (-1)) (by kernel_rfl) (by kernel_rfl) ?_
  exact ⟨rfl, H.below⟩

theorem DFind {pL pE : Int} {room : Nat} {rv pv : Value} (xs : List PairB) (key : Int) (hn : xs.length ≤ 4096) (w0 : World) (hR : Ro w0 [.row (pv) 206 5 (List.length xs) (List.flatMap (dpL pL pE) xs)]) : Calls Try.prog 66 #[.agg #[rv, pv, .int .i64 pL, .int .i64 pE, .int .i64 0, .int .i64 0, .int .i64 ((room : Nat) : Int)], .int .i64 key] w0 fun e w' => e = .returned (.int .i64 (findB xs key)) ∧ Below w0.heap.size w0 w' := by
  rcases rowForm (hR 0 _ rfl : w0.ownsRow 0 _ 5 pv _ _) with ⟨rfl, h0⟩ | ⟨g, cap, rfl, hc, _⟩
  · rw [find_missB (fun j hj => by omega)]; exact DFind_n key w0
  · exact DFind_s xs key hn w0 hR

set_option maxRecDepth 100000 in
set_option maxHeartbeats 4000000 in
theorem DDrop_s {rL rE pL pE : Int} {room : Nat} {rv : Value} {rs : List Buk} {g cap : Nat} (xs : List PairB) (q : Nat) (hq : q < xs.length) (hn : xs.length ≤ 4096) (w0 : World) (hR : Ro w0 [.row (rv) 119 4 (List.length rs) (List.flatMap (dbL rL rE) rs), .row (.slice (some ⟨g, 0, none⟩) (List.length xs) cap) 206 5 (List.length xs) (List.flatMap (dpL pL pE) xs)]) :
    Calls Try.prog 122 #[.agg #[rv, .slice (some ⟨g, 0, none⟩) (List.length xs) cap, .int .i64 pL, .int .i64 pE, .int .i64 0, .int .i64 0, .int .i64 ((room : Nat) : Int)], .int .i64 ((q : Nat) : Int)] w0 fun e w' => ∃ u, e = .returned (.agg #[rv, u, .int .i64 pL, .int .i64 pE, .int .i64 0, .int .i64 0, .int .i64 ((room : Nat) : Int)]) ∧ Hs [] w0 w' [.row (u) 206 5 (List.length (xs.eraseIdx q)) (List.flatMap (dpL pL pE) (xs.eraseIdx q))] := by
  refine x_enter Try.func122 rfl #[.agg #[rv, .slice (some ⟨g, 0, none⟩) (List.length xs) cap, .int .i64 pL, .int .i64 pE, .int .i64 0, .int .i64 0, .int .i64 ((room : Nat) : Int)], .int .i64 ((q : Nat) : Int), undef, undef, undef, undef, undef, undef, undef, undef, undef, undef, undef, undef, undef, undef, undef, undef, undef, undef, undef, undef, undef, undef, undef, undef, undef, undef] (by kernel_rfl) ?_
  have H := Hs.nil w0
  have R0 := hR
  refine x_seq ?_
  refine x_region ?_
  refine x_box H #[rv, .slice (some ⟨g, 0, none⟩) (List.length xs) cap, .int .i64 pL, .int .i64 pE, .int .i64 0, .int .i64 0, .int .i64 ((room : Nat) : Int)] 124 (by kernel_rfl) rfl (by kernel_rfl) ?_
  clear H
  intro v1 g1 H
  refine x_box H #[.slice none 0 0, .slice none 0 0, .int .i64 0, .int .i64 0, .int .i64 0, .int .i64 0, .int .i64 0] 124 (by kernel_rfl) rfl (by kernel_rfl) ?_
  clear H
  intro v2 g2 H
  refine x_nil ?_
  refine x_then ?_
  refine x_seq ?_
  refine x_region ?_
  refine x_val (.slice none 0 0) (by kernel_rfl) rfl (by kernel_rfl) ?_
  refine x_nil ?_
  refine x_then ?_
  refine x_seq ?_
  refine x_seq ?_
  refine x_region ?_
  refine x_val (.int .i64 0) (by kernel_rfl) rfl (by kernel_rfl) ?_
  refine x_nil ?_
  refine x_then ?_
  refine x_block ?_
  replace H := H.nilRow 206 5
  refine x_loop (G := Nat × Value) (fun gh a w' => match gh with | (k, ov) => ∃ uf1 : Nat → Value, a = { tmps := #[.agg #[rv, .slice (some ⟨g, 0, none⟩) (List.length xs) cap, .int .i64 pL, .int .i64 pE, .int .i64 0, .int .i64 0, .int .i64 ((room : Nat) : Int)], .int .i64 ((q : Nat) : Int), .pointer (some ⟨g1, 0, none⟩), undef, .pointer (some ⟨g2, 0, none⟩), ov, .int .i64 ((k : Nat) : Int), (uf1 0), (uf1 1), (uf1 2), (uf1 3), (uf1 4), (uf1 5), (uf1 6), (uf1 7), (uf1 8), (uf1 9), (uf1 10), (uf1 11), (uf1 12), (uf1 13), (uf1 14), (uf1 15), (uf1 16), (uf1 17), undef, undef, undef], defers := [] } ∧ Hs [] w0 w' [.row (ov) 206 5 (List.length (List.eraseIdx (List.take k xs) q)) (List.flatMap (dpL pL pE) (List.eraseIdx (List.take k xs) q)), .blk g2 #[.slice none 0 0, .slice none 0 0, .int .i64 0, .int .i64 0, .int .i64 0, .int .i64 0, .int .i64 0] 124, .blk g1 #[rv, .slice (some ⟨g, 0, none⟩) (List.length xs) cap, .int .i64 pL, .int .i64 pE, .int .i64 0, .int .i64 0, .int .i64 ((room : Nat) : Int)] 124] ∧ (k ≤ xs.length)) (fun gh => match gh with | (k, ov) => xs.length - k) (0, .slice none 0 0) ⟨(nthV [undef, undef, undef, undef, undef, undef, undef, undef, undef, undef, undef, undef, undef, undef, undef, undef, undef, undef]), (by kernel_rfl), H, (Nat.zero_le _)⟩ ?_
  clear H
  rintro ⟨k, ov⟩ _ v3 ⟨uf1, rfl, H, r1⟩
  refine x_seq ?_
  refine x_seq ?_
  refine x_region ?_
  refine x_val (.int .i64 ((k : Nat) : Int)) (by kernel_rfl) rfl (by kernel_rfl) ?_
  refine x_val (.pointer (some ⟨g1, 1, none⟩)) (by kernel_rfl) rfl (by kernel_rfl) ?_
  refine x_load1 H 2 g1 1 _ _ (.slice (some ⟨g, 0, none⟩) (List.length xs) cap) rfl (by kernel_rfl) (by kernel_rfl) rfl (by kernel_rfl) ?_
  refine x_val (.int .i64 (((List.length xs) : Nat) : Int)) (by kernel_rfl) rfl (by kernel_rfl) ?_
  refine x_val (.bool (decide (((k : Nat) : Int) < (((List.length xs) : Nat) : Int)))) (by kernel_rfl) rfl (by kernel_rfl) ?_
  refine x_nil ?_
  refine x_then ?_
  cases h1 : decide (((k : Nat) : Int) < (((List.length xs) : Nat) : Int))
  · skip
    have h1p := of_decide_eq_false h1
    refine x_f (by kernel_rfl) ?_
    refine x_exit ?_
    refine x_then_exit ?_
    refine x_then_exit ?_
    refine x_blk_exit ?_
    refine x_then ?_
    refine x_seq ?_
    refine x_region ?_
    refine x_val (ov) (by kernel_rfl) rfl (by kernel_rfl) ?_
    refine x_val (.pointer (some ⟨g1, 1, none⟩)) (by kernel_rfl) rfl (by kernel_rfl) ?_
    have h2o := H.rowOne 0 rfl
    have h2c := H.rowCel 0 rfl
    refine x_store (t := 122) (v := ov) H 2 g1 1 _ #[rv, ov, .int .i64 pL, .int .i64 pE, .int .i64 0, .int .i64 0, .int .i64 ((room : Nat) : Int)] 124 [ov] _ rfl rfl (by kernel_rfl) (by simp only [List.all_cons, List.all_nil, h2o, Bool.and_true, Bool.true_and] <;> rfl) (by kernel_rfl) rfl (by kernel_rfl) (by kernel_rfl) (by kernel_rfl) (by rw [h2c]) ?_
    clear H
    intro v4 H
    refine x_nil ?_
    refine x_then ?_
    refine x_seq ?_
    refine x_region ?_
    refine x_loadn (t := 124) H 2 g1 0 _ _ [rv, ov, .int .i64 pL, .int .i64 pE, .int .i64 0, .int .i64 0, .int .i64 ((room : Nat) : Int)] rfl (by kernel_rfl) (by kernel_rfl) rfl (by kernel_rfl) (by kernel_rfl) ?_
    have h3o := (H.ro R0).rowOne 0 rfl
    have h4o := H.rowOne 0 rfl
    refine x_store (t := 124) (v := .agg #[rv, ov, .int .i64 pL, .int .i64 pE, .int .i64 0, .int .i64 0, .int .i64 ((room : Nat) : Int)]) H 1 g2 0 _ #[rv, ov, .int .i64 pL, .int .i64 pE, .int .i64 0, .int .i64 0, .int .i64 ((room : Nat) : Int)] 124 [rv, ov, .int .i64 pL, .int .i64 pE, .int .i64 0, .int .i64 0, .int .i64 ((room : Nat) : Int)] _ rfl rfl (by kernel_rfl) (by simp only [List.all_cons, List.all_nil, h3o, h4o, Bool.and_true, Bool.true_and] <;> rfl) (by kernel_rfl) rfl (by kernel_rfl) (by kernel_rfl) (by kernel_rfl) (by kernel_rfl) ?_
    clear H
    intro v5 H
    refine x_nil ?_
    refine x_then ?_
    refine x_retc ?_
    refine x_ret (.agg #[rv, ov, .int .i64 pL, .int .i64 pE, .int .i64 0, .int .i64 0, .int .i64 ((room : Nat) : Int)]) (by kernel_rfl) (x_rescell H 1 g2 0 #[rv, ov, .int .i64 pL, .int .i64 pE, .int .i64 0, .int .i64 0, .int .i64 ((room : Nat) : Int)] 124 [rv, ov, .int .i64 pL, .int .i64 pE, .int .i64 0, .int .i64 0, .int .i64 ((room : Nat) : Int)] (fun x => x) (by kernel_rfl) (by kernel_rfl) (by kernel_rfl)) ?_
    have hk : k = xs.length := by omega
    rw [hk, List.take_length] at H
    exact ⟨_, rfl, H.pick [0] _ (by decide) (by kernel_rfl)⟩
  · skip
    have h1p := of_decide_eq_true h1
    refine x_t (by kernel_rfl) ?_
    refine x_skipc ?_
    refine x_then ?_
    refine x_seq ?_
    refine x_block ?_
    refine x_seq ?_
    refine x_region ?_
    refine x_val (.int .i64 ((k : Nat) : Int)) (by kernel_rfl) rfl (by kernel_rfl) ?_
    refine x_val (.int .i64 ((q : Nat) : Int)) (by kernel_rfl) rfl (by kernel_rfl) ?_
    refine x_val (.bool (!(decide (((k : Nat) : Int) = ((q : Nat) : Int))))) (by kernel_rfl) rfl (by kernel_rfl) ?_
    refine x_nil ?_
    refine x_then ?_
    cases h5 : decide (((k : Nat) : Int) = ((q : Nat) : Int))
    · skip
      have h5p := of_decide_eq_false h5
      refine x_t (by kernel_rfl) ?_
      refine x_region ?_
      refine x_val (ov) (by kernel_rfl) rfl (by kernel_rfl) ?_
      refine x_val (.pointer (some ⟨g1, 1, none⟩)) (by kernel_rfl) rfl (by kernel_rfl) ?_
      refine x_load1 H 2 g1 1 _ _ (.slice (some ⟨g, 0, none⟩) (List.length xs) cap) rfl (by kernel_rfl) (by kernel_rfl) rfl (by kernel_rfl) ?_
      refine x_val (.int .i64 ((k : Nat) : Int)) (by kernel_rfl) rfl (by kernel_rfl) ?_
      refine x_ix (t := 122) g 0 k (List.length xs) cap 206 5 (k * 5) (by omega) (by omega) (by kernel_rfl) (by kernel_rfl) (by kernel_rfl) rfl (by kernel_rfl) ?_
      refine x_loadcn (t := 206) g (k * 5) [.int .i64 ((xs.getD k (0, 0, 0)).1), .int .i64 pL, .int .i64 pE, .int .i64 ((xs.getD k (0, 0, 0)).2.1), .int .i64 ((xs.getD k (0, 0, 0)).2.2)] ((H.ro R0).rowCells 1 rfl (k * 5) (flatAt (dpLen pL pE) (0, 0, 0) _ (by omega))) (by kernel_rfl) rfl (by kernel_rfl) (by kernel_rfl) ?_
      refine x_box' H #[.int .i64 ((xs.getD k (0, 0, 0)).1), .int .i64 pL, .int .i64 pE, .int .i64 ((xs.getD k (0, 0, 0)).2.1), .int .i64 ((xs.getD k (0, 0, 0)).2.2)] 206 1 (by kernel_rfl) rfl (by kernel_rfl) ?_
      clear H
      intro v6 g3 H
      refine x_append H 1 (ov) 122 206 5 40 (List.length (List.eraseIdx (List.take k xs) q)) (.agg #[.int .i64 0, .int .i64 0, .int .i64 0, .int .i64 0, .int .i64 0]) (List.flatMap (dpL pL pE) (List.eraseIdx (List.take k xs) q)) ⟨g3, 0, none⟩ 1 1 [.int .i64 ((xs.getD k (0, 0, 0)).1), .int .i64 pL, .int .i64 pE, .int .i64 ((xs.getD k (0, 0, 0)).2.1), .int .i64 ((xs.getD k (0, 0, 0)).2.2)] rfl (by kernel_rfl) (by kernel_rfl) rfl (by decide) (by decide) rfl (fun j u hj => by rw [add_none]; exact cellOf (H.blk 0 rfl) (by simpa using hj)) (List.all_eq_true.1 (by kernel_rfl)) (by have := List.length_eraseIdx_le (List.take k xs) q; have := List.length_take_le k xs; unfold maxLen; omega) (by have := List.length_eraseIdx_le (List.take k xs) q; have := List.length_take_le k xs; omega) (by kernel_rfl) rfl (by kernel_rfl) ?_
      clear H
      intro v7 g4 c4 hc4 H
      rw [show (((List.length (List.eraseIdx (List.take k xs) q)) + 1) : Nat) = (List.length (List.eraseIdx (List.take (k + 1) xs) q)) from (by rw [erNext (0, 0, 0) (by omega) (by omega), List.length_append]; rfl)] at H ⊢
      rw [show (List.flatMap (dpL pL pE) (List.eraseIdx (List.take k xs) q)) ++ [.int .i64 ((xs.getD k (0, 0, 0)).1), .int .i64 pL, .int .i64 pE, .int .i64 ((xs.getD k (0, 0, 0)).2.1), .int .i64 ((xs.getD k (0, 0, 0)).2.2)] = (List.flatMap (dpL pL pE) (List.eraseIdx (List.take (k + 1) xs) q)) from (by rw [erNext (0, 0, 0) (by omega) (by omega), List.flatMap_append]; rfl)] at H
      replace H : Hs [] w0 v7 [.blk g3 #[.int .i64 ((xs.getD k (0, 0, 0)).1), .int .i64 pL, .int .i64 pE, .int .i64 ((xs.getD k (0, 0, 0)).2.1), .int .i64 ((xs.getD k (0, 0, 0)).2.2)] 206, .row (.slice (some ⟨g4, 0, none⟩) (List.length (List.eraseIdx (List.take (k + 1) xs) q)) c4) 206 5 (List.length (List.eraseIdx (List.take (k + 1) xs) q)) (List.flatMap (dpL pL pE) (List.eraseIdx (List.take (k + 1) xs) q)), .blk g2 #[.slice none 0 0, .slice none 0 0, .int .i64 0, .int .i64 0, .int .i64 0, .int .i64 0, .int .i64 0] 124, .blk g1 #[rv, .slice (some ⟨g, 0, none⟩) (List.length xs) cap, .int .i64 pL, .int .i64 pE, .int .i64 0, .int .i64 0, .int .i64 ((room : Nat) : Int)] 124] := H
      replace H := H.pick [1, 2, 3] [.row (.slice (some ⟨g4, 0, none⟩) (List.length (List.eraseIdx (List.take (k + 1) xs) q)) c4) 206 5 (List.length (List.eraseIdx (List.take (k + 1) xs) q)) (List.flatMap (dpL pL pE) (List.eraseIdx (List.take (k + 1) xs) q)), .blk g2 #[.slice none 0 0, .slice none 0 0, .int .i64 0, .int .i64 0, .int .i64 0, .int .i64 0, .int .i64 0] 124, .blk g1 #[rv, .slice (some ⟨g, 0, none⟩) (List.length xs) cap, .int .i64 pL, .int .i64 pE, .int .i64 0, .int .i64 0, .int .i64 ((room : Nat) : Int)] 124] (by decide) (by kernel_rfl)
      refine x_val (.slice (some ⟨g4, 0, none⟩) (List.length (List.eraseIdx (List.take (k + 1) xs) q)) c4) (by kernel_rfl) rfl (by kernel_rfl) ?_
      refine x_nil ?_
      refine x_blk ?_
      refine x_then ?_
      refine x_region ?_
      refine x_val (.int .i64 ((k : Nat) : Int)) (by kernel_rfl) rfl (by kernel_rfl) ?_
      refine x_ar (((k : Nat) : Int) + 1) ⟨by omega, by omega⟩ (by kernel_rfl) rfl (by kernel_rfl) ?_
      refine x_val (.int .i64 (((k : Nat) : Int) + 1)) (by kernel_rfl) rfl (by kernel_rfl) ?_
      refine x_nil ?_
      refine x_then ?_
      replace H := H.pick [0, 1, 2] [.row (.slice (some ⟨g4, 0, none⟩) (List.length (List.eraseIdx (List.take (k + 1) xs) q)) c4) 206 5 (List.length (List.eraseIdx (List.take (k + 1) xs) q)) (List.flatMap (dpL pL pE) (List.eraseIdx (List.take (k + 1) xs) q)), .blk g2 #[.slice none 0 0, .slice none 0 0, .int .i64 0, .int .i64 0, .int .i64 0, .int .i64 0, .int .i64 0] 124, .blk g1 #[rv, .slice (some ⟨g, 0, none⟩) (List.length xs) cap, .int .i64 pL, .int .i64 pE, .int .i64 0, .int .i64 0, .int .i64 ((room : Nat) : Int)] 124] (by decide) (by kernel_rfl)
      exact ⟨(k + 1, .slice (some ⟨g4, 0, none⟩) (List.length (List.eraseIdx (List.take (k + 1) xs) q)) c4), (by dsimp only; omega), (nthV [.int .i64 ((k : Nat) : Int), .pointer (some ⟨g1, 1, none⟩), .slice (some ⟨g, 0, none⟩) (List.length xs) cap, .int .i64 (((List.length xs) : Nat) : Int), .bool true, .int .i64 ((k : Nat) : Int), .int .i64 (((k : Nat) : Int) + 1), .int .i64 ((k : Nat) : Int), .int .i64 ((q : Nat) : Int), .bool true, ov, .pointer (some ⟨g1, 1, none⟩), .slice (some ⟨g, 0, none⟩) (List.length xs) cap, .int .i64 ((k : Nat) : Int), .pointer (some ⟨g, k * 5, none⟩), .agg #[.int .i64 ((xs.getD k (0, 0, 0)).1), .int .i64 pL, .int .i64 pE, .int .i64 ((xs.getD k (0, 0, 0)).2.1), .int .i64 ((xs.getD k (0, 0, 0)).2.2)], .slice (some ⟨g3, 0, none⟩) 1 1, .slice (some ⟨g4, 0, none⟩) (List.length (List.eraseIdx (List.take (k + 1) xs) q)) c4]), (by kernel_rfl), H, (by omega)⟩
    · skip
      have h5p := of_decide_eq_true h5
      refine x_f (by kernel_rfl) ?_
      refine x_skipc ?_
      refine x_blk ?_
      refine x_then ?_
      refine x_region ?_
      refine x_val (.int .i64 ((k : Nat) : Int)) (by kernel_rfl) rfl (by kernel_rfl) ?_
      refine x_ar (((k : Nat) : Int) + 1) ⟨by omega, by omega⟩ (by kernel_rfl) rfl (by kernel_rfl) ?_
      refine x_val (.int .i64 (((k : Nat) : Int) + 1)) (by kernel_rfl) rfl (by kernel_rfl) ?_
      refine x_nil ?_
      refine x_then ?_
      have hkq : k = q := by omega
      rw [show (List.eraseIdx (List.take k xs) q) = (List.eraseIdx (List.take (k + 1) xs) q) from by rw [hkq]; exact (erSame hq).symm] at H
      exact ⟨(k + 1, ov), (by dsimp only; omega), (nthV [.int .i64 ((k : Nat) : Int), .pointer (some ⟨g1, 1, none⟩), .slice (some ⟨g, 0, none⟩) (List.length xs) cap, .int .i64 (((List.length xs) : Nat) : Int), .bool true, .int .i64 ((k : Nat) : Int), .int .i64 (((k : Nat) : Int) + 1), .int .i64 ((k : Nat) : Int), .int .i64 ((q : Nat) : Int), .bool false, (uf1 10), (uf1 11), (uf1 12), (uf1 13), (uf1 14), (uf1 15), (uf1 16), (uf1 17)]), (by kernel_rfl), H, (by omega)⟩

theorem DDrop {rL rE pL pE : Int} {room : Nat} {rv pv : Value} {rs : List Buk} (xs : List PairB) (q : Nat) (hq : q < xs.length) (hn : xs.length ≤ 4096) (w0 : World) (hR : Ro w0 [.row (rv) 119 4 (List.length rs) (List.flatMap (dbL rL rE) rs), .row (pv) 206 5 (List.length xs) (List.flatMap (dpL pL pE) xs)]) : Calls Try.prog 122 #[.agg #[rv, pv, .int .i64 pL, .int .i64 pE, .int .i64 0, .int .i64 0, .int .i64 ((room : Nat) : Int)], .int .i64 ((q : Nat) : Int)] w0 fun e w' => ∃ u, e = .returned (.agg #[rv, u, .int .i64 pL, .int .i64 pE, .int .i64 0, .int .i64 0, .int .i64 ((room : Nat) : Int)]) ∧ Hs [] w0 w' [.row (u) 206 5 (List.length (xs.eraseIdx q)) (List.flatMap (dpL pL pE) (xs.eraseIdx q))] := by
  rcases rowForm (hR 1 _ rfl : w0.ownsRow 0 _ 5 pv _ _) with ⟨rfl, h0⟩ | ⟨g, cap, rfl, hc, _⟩
  · omega
  · exact DDrop_s xs q hq hn w0 hR

set_option maxRecDepth 100000 in
set_option maxHeartbeats 4000000 in
theorem DPut_set {rL rE pL pE : Int} {room : Nat} {rv : Value} {rs : List Buk} (xs : List PairB) (k : Int) (v : Buk) (hn : xs.length ≤ 4096) {g cap : Nat} (hq : (fkB xs k) < xs.length) (w0 : World) (hR : Ro w0 [.row (rv) 119 4 (List.length rs) (List.flatMap (dbL rL rE) rs), .row (.slice (some ⟨g, 0, none⟩) (List.length xs) cap) 206 5 (List.length xs) (List.flatMap (dpL pL pE) xs)]) :
    Calls Try.prog 159 #[.agg #[rv, .slice (some ⟨g, 0, none⟩) (List.length xs) cap, .int .i64 pL, .int .i64 pE, .int .i64 0, .int .i64 0, .int .i64 ((room : Nat) : Int)], .int .i64 k, .agg #[.int .i64 pL, .int .i64 pE, .int .i64 v.1, .int .i64 v.2]] w0 fun e w' => ∃ u, e = .returned (.agg #[rv, u, .int .i64 pL, .int .i64 pE, .int .i64 0, .int .i64 0, .int .i64 ((room : Nat) : Int)]) ∧ Hs [] w0 w' [.row (u) 206 5 (List.length (xs.set (fkB xs k) ((xs.getD (fkB xs k) (0, 0, 0)).1, v))) (List.flatMap (dpL pL pE) (xs.set (fkB xs k) ((xs.getD (fkB xs k) (0, 0, 0)).1, v)))] := by
  refine x_enter Try.func159 rfl #[.agg #[rv, .slice (some ⟨g, 0, none⟩) (List.length xs) cap, .int .i64 pL, .int .i64 pE, .int .i64 0, .int .i64 0, .int .i64 ((room : Nat) : Int)], .int .i64 k, .agg #[.int .i64 pL, .int .i64 pE, .int .i64 v.1, .int .i64 v.2], undef, undef, undef, undef, undef, undef, undef, undef, undef, undef, undef, undef, undef, undef, undef, undef, undef, undef, undef, undef, undef, undef, undef, undef, undef, undef, undef, undef, undef, undef, undef, undef, undef, undef, undef, undef, undef, undef, undef, undef, undef, undef, undef, undef, undef, undef, undef, undef, undef, undef, undef, undef, undef, undef, undef, undef, undef, undef, undef, undef, undef, undef, undef, undef, undef, undef, undef, undef, undef] (by kernel_rfl) ?_
  have H := Hs.nil w0
  have R0 := hR
  refine x_seq ?_
  refine x_region ?_
  refine x_box H #[rv, .slice (some ⟨g, 0, none⟩) (List.length xs) cap, .int .i64 pL, .int .i64 pE, .int .i64 0, .int .i64 0, .int .i64 ((room : Nat) : Int)] 124 (by kernel_rfl) rfl (by kernel_rfl) ?_
  clear H
  intro v1 g1 H
  refine x_box H #[.int .i64 pL, .int .i64 pE, .int .i64 v.1, .int .i64 v.2] 119 (by kernel_rfl) rfl (by kernel_rfl) ?_
  clear H
  intro v2 g2 H
  refine x_box H #[.slice none 0 0, .slice none 0 0, .int .i64 0, .int .i64 0, .int .i64 0, .int .i64 0, .int .i64 0] 124 (by kernel_rfl) rfl (by kernel_rfl) ?_
  clear H
  intro v3 g3 H
  refine x_nil ?_
  refine x_then ?_
  refine x_seq ?_
  refine x_region ?_
  refine x_loadn (t := 124) H 2 g1 0 _ _ [rv, .slice (some ⟨g, 0, none⟩) (List.length xs) cap, .int .i64 pL, .int .i64 pE, .int .i64 0, .int .i64 0, .int .i64 ((room : Nat) : Int)] rfl (by kernel_rfl) (by kernel_rfl) rfl (by kernel_rfl) (by kernel_rfl) ?_
  refine x_val (.int .i64 k) (by kernel_rfl) rfl (by kernel_rfl) ?_
  refine x_callB (.int .i64 (((fkB xs k) : Nat) : Int)) H (by kernel_rfl) rfl (by kernel_rfl) (by have h := DFind (room := room) (rv := rv) xs k hn _ ((H.ro R0).pick [1] [.row (.slice (some ⟨g, 0, none⟩) (List.length xs) cap) 206 5 (List.length xs) (List.flatMap (dpL pL pE) xs)] (by kernel_rfl)); rw [show findB xs k = (((fkB xs k) : Nat) : Int) by unfold findB; rw [if_pos hq]] at h; exact h) ?_
  clear H
  intro v4 H
  refine x_val (.int .i64 (((fkB xs k) : Nat) : Int)) (by kernel_rfl) rfl (by kernel_rfl) ?_
  refine x_nil ?_
  refine x_then ?_
  refine x_seq ?_
  refine x_region ?_
  refine x_val (.slice none 0 0) (by kernel_rfl) rfl (by kernel_rfl) ?_
  refine x_nil ?_
  refine x_then ?_
  refine x_seq ?_
  refine x_seq ?_
  refine x_region ?_
  refine x_val (.int .i64 (((fkB xs k) : Nat) : Int)) (by kernel_rfl) rfl (by kernel_rfl) ?_
  refine x_val (.bool (decide (0 ≤ (((fkB xs k) : Nat) : Int)))) (by kernel_rfl) rfl (by kernel_rfl) ?_
  refine x_nil ?_
  refine x_then ?_
  cases h1 : decide (0 ≤ (((fkB xs k) : Nat) : Int))
  · skip
    have h1p := of_decide_eq_false h1
    exact absurd h1p (by omega)
  · skip
    have h1p := of_decide_eq_true h1
    refine x_t (by kernel_rfl) ?_
    refine x_seq ?_
    refine x_region ?_
    refine x_val (.slice none 0 0) (by kernel_rfl) rfl (by kernel_rfl) ?_
    refine x_val (.pointer (some ⟨g1, 1, none⟩)) (by kernel_rfl) rfl (by kernel_rfl) ?_
    refine x_load1 H 2 g1 1 _ _ (.slice (some ⟨g, 0, none⟩) (List.length xs) cap) rfl (by kernel_rfl) (by kernel_rfl) rfl (by kernel_rfl) ?_
    replace H := H.nilRow 206 5
    replace H : Hs [] w0 _ [.row (.slice none 0 0) 206 5 0 (List.flatMap (dpL pL pE) ([] : List PairB)), .blk g3 #[.slice none 0 0, .slice none 0 0, .int .i64 0, .int .i64 0, .int .i64 0, .int .i64 0, .int .i64 0] 124, .blk g2 #[.int .i64 pL, .int .i64 pE, .int .i64 v.1, .int .i64 v.2] 119, .blk g1 #[rv, .slice (some ⟨g, 0, none⟩) (List.length xs) cap, .int .i64 pL, .int .i64 pE, .int .i64 0, .int .i64 0, .int .i64 ((room : Nat) : Int)] 124] := H
    refine x_appendSrc H 0 (.slice none 0 0) 122 206 5 40 0 (.agg #[.int .i64 0, .int .i64 0, .int .i64 0, .int .i64 0, .int .i64 0]) (List.flatMap (dpL pL pE) ([] : List PairB)) (.slice (some ⟨g, 0, none⟩) (List.length xs) cap) (List.length xs) (List.flatMap (dpL pL pE) xs) rfl (src_row ((H.ro R0) 1 _ rfl : Go.World.ownsRow _ 0 206 5 _ _ _)) (by kernel_rfl) (by kernel_rfl) (by kernel_rfl) (by decide) (oneCellFlat (dpOne pL pE) _) (by unfold maxLen; omega) (by omega) (by kernel_rfl) rfl (by kernel_rfl) ?_
    clear H
    intro v5 vr19 H
    rw [show (List.flatMap (dpL pL pE) ([] : List PairB)) ++ (List.flatMap (dpL pL pE) xs) = (List.flatMap (dpL pL pE) xs) from (by simp)] at H
    rw [show (0 + (List.length xs) : Nat) = (List.length xs) from (by simp)] at H
    replace H : Hs [] w0 v5 [.row (vr19) 206 5 (List.length xs) (List.flatMap (dpL pL pE) xs), .blk g3 #[.slice none 0 0, .slice none 0 0, .int .i64 0, .int .i64 0, .int .i64 0, .int .i64 0, .int .i64 0] 124, .blk g2 #[.int .i64 pL, .int .i64 pE, .int .i64 v.1, .int .i64 v.2] 119, .blk g1 #[rv, .slice (some ⟨g, 0, none⟩) (List.length xs) cap, .int .i64 pL, .int .i64 pE, .int .i64 0, .int .i64 0, .int .i64 ((room : Nat) : Int)] 124] := H
    rcases H.rowForm 0 rfl with ⟨rfl, h0⟩ | ⟨gr, cr, rfl, hcr, -⟩
    · exfalso; omega
    refine x_val (.slice (some ⟨gr, 0, none⟩) (List.length xs) cr) (by kernel_rfl) rfl (by kernel_rfl) ?_
    refine x_nil ?_
    refine x_then ?_
    refine x_seq ?_
    refine x_region ?_
    refine x_val (.slice (some ⟨gr, 0, none⟩) (List.length xs) cr) (by kernel_rfl) rfl (by kernel_rfl) ?_
    refine x_val (.int .i64 (((fkB xs k) : Nat) : Int)) (by kernel_rfl) rfl (by kernel_rfl) ?_
    refine x_loadn (t := 119) H 2 g2 0 _ _ [.int .i64 pL, .int .i64 pE, .int .i64 v.1, .int .i64 v.2] rfl (by kernel_rfl) (by kernel_rfl) rfl (by kernel_rfl) (by kernel_rfl) ?_
    refine x_ix (t := 122) gr 0 (fkB xs k) (List.length xs) cr 206 5 ((fkB xs k) * 5) (by omega) (by omega) (by kernel_rfl) (by kernel_rfl) (by kernel_rfl) rfl (by kernel_rfl) ?_
    refine x_val (.pointer (some ⟨gr, (fkB xs k) * 5 + 1, none⟩)) (by kernel_rfl) rfl (by kernel_rfl) ?_
    refine x_storeRow (t := 119) (v := .agg #[.int .i64 pL, .int .i64 pE, .int .i64 v.1, .int .i64 v.2]) H 0 gr ((fkB xs k) * 5 + 1) (List.length xs) cr 206 5 (List.flatMap (dpL pL pE) xs) [.int .i64 pL, .int .i64 pE, .int .i64 v.1, .int .i64 v.2] (List.flatMap (dpL pL pE) (xs.set (fkB xs k) ((xs.getD (fkB xs k) (0, 0, 0)).1, v))) [.row (.slice (some ⟨gr, 0, none⟩) (List.length xs) cr) 206 5 (List.length xs) (List.flatMap (dpL pL pE) (xs.set (fkB xs k) ((xs.getD (fkB xs k) (0, 0, 0)).1, v))), .blk g3 #[.slice none 0 0, .slice none 0 0, .int .i64 0, .int .i64 0, .int .i64 0, .int .i64 0, .int .i64 0] 124, .blk g2 #[.int .i64 pL, .int .i64 pE, .int .i64 v.1, .int .i64 v.2] 119, .blk g1 #[rv, .slice (some ⟨g, 0, none⟩) (List.length xs) cap, .int .i64 pL, .int .i64 pE, .int .i64 0, .int .i64 0, .int .i64 ((room : Nat) : Int)] 124] rfl (by simp only [List.length_cons, List.length_nil]; omega) (by kernel_rfl) (flatSetN (dpLen pL pE) (d := (0, 0, 0)) xs (by omega) 1 _ _ rfl (Nat.le_of_ble_eq_true rfl)) rfl (by kernel_rfl) rfl (by kernel_rfl) (by kernel_rfl) (by kernel_rfl) ?_
    clear H
    intro v6 H
    refine x_nil ?_
    refine x_then ?_
    refine x_seq ?_
    refine x_region ?_
    refine x_val (.slice (some ⟨gr, 0, none⟩) (List.length xs) cr) (by kernel_rfl) rfl (by kernel_rfl) ?_
    refine x_val (.pointer (some ⟨g1, 1, none⟩)) (by kernel_rfl) rfl (by kernel_rfl) ?_
    refine x_store (t := 122) (v := .slice (some ⟨gr, 0, none⟩) (List.length xs) cr) H 3 g1 1 _ #[rv, .slice (some ⟨gr, 0, none⟩) (List.length xs) cr, .int .i64 pL, .int .i64 pE, .int .i64 0, .int .i64 0, .int .i64 ((room : Nat) : Int)] 124 [.slice (some ⟨gr, 0, none⟩) (List.length xs) cr] _ rfl rfl (by kernel_rfl) (by kernel_rfl) (by kernel_rfl) rfl (by kernel_rfl) (by kernel_rfl) (by kernel_rfl) (by kernel_rfl) ?_
    clear H
    intro v7 H
    refine x_nil ?_
    refine x_then ?_
    refine x_seq ?_
    refine x_region ?_
    refine x_loadn (t := 124) H 3 g1 0 _ _ [rv, .slice (some ⟨gr, 0, none⟩) (List.length xs) cr, .int .i64 pL, .int .i64 pE, .int .i64 0, .int .i64 0, .int .i64 ((room : Nat) : Int)] rfl (by kernel_rfl) (by kernel_rfl) rfl (by kernel_rfl) (by kernel_rfl) ?_
    have h2o := (H.ro R0).rowOne 0 rfl
    refine x_store (t := 124) (v := .agg #[rv, .slice (some ⟨gr, 0, none⟩) (List.length xs) cr, .int .i64 pL, .int .i64 pE, .int .i64 0, .int .i64 0, .int .i64 ((room : Nat) : Int)]) H 1 g3 0 _ #[rv, .slice (some ⟨gr, 0, none⟩) (List.length xs) cr, .int .i64 pL, .int .i64 pE, .int .i64 0, .int .i64 0, .int .i64 ((room : Nat) : Int)] 124 [rv, .slice (some ⟨gr, 0, none⟩) (List.length xs) cr, .int .i64 pL, .int .i64 pE, .int .i64 0, .int .i64 0, .int .i64 ((room : Nat) : Int)] _ rfl rfl (by kernel_rfl) (by simp only [List.all_cons, List.all_nil, h2o, Bool.and_true, Bool.true_and] <;> rfl) (by kernel_rfl) rfl (by kernel_rfl) (by kernel_rfl) (by kernel_rfl) (by kernel_rfl) ?_
    clear H
    intro v8 H
    refine x_nil ?_
    refine x_then ?_
    refine x_retc ?_
    refine x_then_ret ?_
    refine x_ret (.agg #[rv, .slice (some ⟨gr, 0, none⟩) (List.length xs) cr, .int .i64 pL, .int .i64 pE, .int .i64 0, .int .i64 0, .int .i64 ((room : Nat) : Int)]) (by kernel_rfl) (x_rescell H 1 g3 0 #[rv, .slice (some ⟨gr, 0, none⟩) (List.length xs) cr, .int .i64 pL, .int .i64 pE, .int .i64 0, .int .i64 0, .int .i64 ((room : Nat) : Int)] 124 [rv, .slice (some ⟨gr, 0, none⟩) (List.length xs) cr, .int .i64 pL, .int .i64 pE, .int .i64 0, .int .i64 0, .int .i64 ((room : Nat) : Int)] (fun x => x) (by kernel_rfl) (by kernel_rfl) (by kernel_rfl)) ?_
    have hll : (xs.set (fkB xs k) ((xs.getD (fkB xs k) (0, 0, 0)).1, v)).length = xs.length := List.length_set
    refine ⟨.slice (some ⟨gr, 0, none⟩) (List.length xs) cr, rfl, ?_⟩
    rw [hll]
    exact H.pick [0] _ (by decide) (by kernel_rfl)

set_option maxRecDepth 100000 in
set_option maxHeartbeats 4000000 in
theorem DPut_room_n {rL rE pL pE : Int} {room : Nat} {rv : Value} {rs : List Buk} (xs : List PairB) (k : Int) (v : Buk) (hn : xs.length ≤ 4096) (hq : ¬ (fkB xs k) < xs.length) (hr : xs.length < room) (w0 : World) (hR : Ro w0 [.row (rv) 119 4 (List.length rs) (List.flatMap (dbL rL rE) rs), .row (.slice none 0 0) 206 5 (List.length xs) (List.flatMap (dpL pL pE) xs)]) :
    Calls Try.prog 159 #[.agg #[rv, .slice none 0 0, .int .i64 pL, .int .i64 pE, .int .i64 0, .int .i64 0, .int .i64 ((room : Nat) : Int)], .int .i64 k, .agg #[.int .i64 pL, .int .i64 pE, .int .i64 v.1, .int .i64 v.2]] w0 fun e w' => ∃ u, e = .returned (.agg #[rv, u, .int .i64 pL, .int .i64 pE, .int .i64 0, .int .i64 0, .int .i64 ((room : Nat) : Int)]) ∧ Hs [] w0 w' [.row (u) 206 5 (List.length (xs ++ [(k, v)])) (List.flatMap (dpL pL pE) (xs ++ [(k, v)]))] := by
  refine x_enter Try.func159 rfl #[.agg #[rv, .slice none 0 0, .int .i64 pL, .int .i64 pE, .int .i64 0, .int .i64 0, .int .i64 ((room : Nat) : Int)], .int .i64 k, .agg #[.int .i64 pL, .int .i64 pE, .int .i64 v.1, .int .i64 v.2], undef, undef, undef, undef, undef, undef, undef, undef, undef, undef, undef, undef, undef, undef, undef, undef, undef, undef, undef, undef, undef, undef, undef, undef, undef, undef, undef, undef, undef, undef, undef, undef, undef, undef, undef, undef, undef, undef, undef, undef, undef, undef, undef, undef, undef, undef, undef, undef, undef, undef, undef, undef, undef, undef, undef, undef, undef, undef, undef, undef, undef, undef, undef, undef, undef, undef, undef, undef, undef] (by kernel_rfl) ?_
  have H := Hs.nil w0
  have R0 := hR
  have q1 : decide (0 = ((room : Nat) : Int)) = false := decide_eq_false (by omega)
  refine x_seq ?_
  refine x_region ?_
  refine x_box H #[rv, .slice none 0 0, .int .i64 pL, .int .i64 pE, .int .i64 0, .int .i64 0, .int .i64 ((room : Nat) : Int)] 124 (by kernel_rfl) rfl (by kernel_rfl) ?_
  clear H
  intro v1 g1 H
  refine x_box H #[.int .i64 pL, .int .i64 pE, .int .i64 v.1, .int .i64 v.2] 119 (by kernel_rfl) rfl (by kernel_rfl) ?_
  clear H
  intro v2 g2 H
  refine x_box H #[.slice none 0 0, .slice none 0 0, .int .i64 0, .int .i64 0, .int .i64 0, .int .i64 0, .int .i64 0] 124 (by kernel_rfl) rfl (by kernel_rfl) ?_
  clear H
  intro v3 g3 H
  refine x_nil ?_
  refine x_then ?_
  refine x_seq ?_
  refine x_region ?_
  refine x_loadn (t := 124) H 2 g1 0 _ _ [rv, .slice none 0 0, .int .i64 pL, .int .i64 pE, .int .i64 0, .int .i64 0, .int .i64 ((room : Nat) : Int)] rfl (by kernel_rfl) (by kernel_rfl) rfl (by kernel_rfl) (by kernel_rfl) ?_
  refine x_val (.int .i64 k) (by kernel_rfl) rfl (by kernel_rfl) ?_
  refine x_callB (.int .i64 (-1)) H (by kernel_rfl) rfl (by kernel_rfl) (by have h := DFind (room := room) (rv := rv) xs k hn _ ((H.ro R0).pick [1] [.row (.slice none 0 0) 206 5 (List.length xs) (List.flatMap (dpL pL pE) xs)] (by kernel_rfl)); rw [show findB xs k = -1 by unfold findB; rw [if_neg hq]] at h; exact h) ?_
  clear H
  intro v4 H
  refine x_val (.int .i64 (-1)) (by kernel_rfl) rfl (by kernel_rfl) ?_
  refine x_nil ?_
  refine x_then ?_
  refine x_seq ?_
  refine x_region ?_
  refine x_val (.slice none 0 0) (by kernel_rfl) rfl (by kernel_rfl) ?_
  refine x_nil ?_
  refine x_then ?_
  refine x_seq ?_
  refine x_seq ?_
  refine x_region ?_
  refine x_val (.int .i64 (-1)) (by kernel_rfl) rfl (by kernel_rfl) ?_
  refine x_val (.bool false) (by kernel_rfl) rfl (by kernel_rfl) ?_
  refine x_nil ?_
  refine x_then ?_
  refine x_f (by kernel_rfl) ?_
  refine x_skipc ?_
  refine x_then ?_
  refine x_seq ?_
  refine x_seq ?_
  refine x_region ?_
  refine x_val (.pointer (some ⟨g1, 1, none⟩)) (by kernel_rfl) rfl (by kernel_rfl) ?_
  refine x_load1 H 2 g1 1 _ _ (.slice none 0 0) rfl (by kernel_rfl) (by kernel_rfl) rfl (by kernel_rfl) ?_
  refine x_val (.int .i64 0) (by kernel_rfl) rfl (by kernel_rfl) ?_
  refine x_val (.pointer (some ⟨g1, 6, none⟩)) (by kernel_rfl) rfl (by kernel_rfl) ?_
  refine x_load1 H 2 g1 6 _ _ (.int .i64 ((room : Nat) : Int)) rfl (by kernel_rfl) (by kernel_rfl) rfl (by kernel_rfl) ?_
  refine x_val (.bool (decide (0 = ((room : Nat) : Int)))) (by kernel_rfl) rfl (by kernel_rfl) ?_
  refine x_nil ?_
  refine x_then ?_
  rw [q1]
  refine x_f (by kernel_rfl) ?_
  refine x_skipc ?_
  refine x_then ?_
  refine x_seq ?_
  refine x_region ?_
  refine x_val (.slice none 0 0) (by kernel_rfl) rfl (by kernel_rfl) ?_
  refine x_val (.pointer (some ⟨g1, 1, none⟩)) (by kernel_rfl) rfl (by kernel_rfl) ?_
  refine x_load1 H 2 g1 1 _ _ (.slice none 0 0) rfl (by kernel_rfl) (by kernel_rfl) rfl (by kernel_rfl) ?_
  replace H := H.nilRow 206 5
  replace H : Hs [] w0 _ [.row (.slice none 0 0) 206 5 0 (List.flatMap (dpL pL pE) ([] : List PairB)), .blk g3 #[.slice none 0 0, .slice none 0 0, .int .i64 0, .int .i64 0, .int .i64 0, .int .i64 0, .int .i64 0] 124, .blk g2 #[.int .i64 pL, .int .i64 pE, .int .i64 v.1, .int .i64 v.2] 119, .blk g1 #[rv, .slice none 0 0, .int .i64 pL, .int .i64 pE, .int .i64 0, .int .i64 0, .int .i64 ((room : Nat) : Int)] 124] := H
  refine x_appendSrc H 0 (.slice none 0 0) 122 206 5 40 0 (.agg #[.int .i64 0, .int .i64 0, .int .i64 0, .int .i64 0, .int .i64 0]) (List.flatMap (dpL pL pE) ([] : List PairB)) (.slice none 0 0) (List.length xs) (List.flatMap (dpL pL pE) xs) rfl (src_row ((H.ro R0) 1 _ rfl : Go.World.ownsRow _ 0 206 5 _ _ _)) (by kernel_rfl) (by kernel_rfl) (by kernel_rfl) (by decide) (oneCellFlat (dpOne pL pE) _) (by unfold maxLen; omega) (by omega) (by kernel_rfl) rfl (by kernel_rfl) ?_
  clear H
  intro v5 vr63 H
  rw [show (List.flatMap (dpL pL pE) ([] : List PairB)) ++ (List.flatMap (dpL pL pE) xs) = (List.flatMap (dpL pL pE) xs) from (by simp)] at H
  rw [show (0 + (List.length xs) : Nat) = (List.length xs) from (by simp)] at H
  replace H : Hs [] w0 v5 [.row (vr63) 206 5 (List.length xs) (List.flatMap (dpL pL pE) xs), .blk g3 #[.slice none 0 0, .slice none 0 0, .int .i64 0, .int .i64 0, .int .i64 0, .int .i64 0, .int .i64 0] 124, .blk g2 #[.int .i64 pL, .int .i64 pE, .int .i64 v.1, .int .i64 v.2] 119, .blk g1 #[rv, .slice none 0 0, .int .i64 pL, .int .i64 pE, .int .i64 0, .int .i64 0, .int .i64 ((room : Nat) : Int)] 124] := H
  refine x_val (vr63) (by kernel_rfl) rfl (by kernel_rfl) ?_
  refine x_nil ?_
  refine x_then ?_
  refine x_seq ?_
  refine x_region ?_
  refine x_val (vr63) (by kernel_rfl) rfl (by kernel_rfl) ?_
  refine x_val (.int .i64 k) (by kernel_rfl) rfl (by kernel_rfl) ?_
  refine x_loadn (t := 119) H 2 g2 0 _ _ [.int .i64 pL, .int .i64 pE, .int .i64 v.1, .int .i64 v.2] rfl (by kernel_rfl) (by kernel_rfl) rfl (by kernel_rfl) (by kernel_rfl) ?_
  refine x_val (.agg #[.int .i64 k, .int .i64 pL, .int .i64 pE, .int .i64 v.1, .int .i64 v.2]) (by kernel_rfl) rfl (by kernel_rfl) ?_
  refine x_box' H #[.int .i64 k, .int .i64 pL, .int .i64 pE, .int .i64 v.1, .int .i64 v.2] 206 1 (by kernel_rfl) rfl (by kernel_rfl) ?_
  clear H
  intro v6 g4 H
  refine x_append H 1 (vr63) 122 206 5 40 (List.length xs) (.agg #[.int .i64 0, .int .i64 0, .int .i64 0, .int .i64 0, .int .i64 0]) (List.flatMap (dpL pL pE) xs) ⟨g4, 0, none⟩ 1 1 [.int .i64 k, .int .i64 pL, .int .i64 pE, .int .i64 v.1, .int .i64 v.2] rfl (by kernel_rfl) (by kernel_rfl) rfl (by decide) (by decide) rfl (fun j u hj => by rw [add_none]; exact cellOf (H.blk 0 rfl) (by simpa using hj)) (List.all_eq_true.1 (by kernel_rfl)) (by unfold maxLen; omega) (by omega) (by kernel_rfl) rfl (by kernel_rfl) ?_
  clear H
  intro v7 g5 c5 hc5 H
  rw [show (((List.length xs) + 1) : Nat) = (List.length (xs ++ [(k, v)])) from (by simp)] at H ⊢
  rw [show (List.flatMap (dpL pL pE) xs) ++ [.int .i64 k, .int .i64 pL, .int .i64 pE, .int .i64 v.1, .int .i64 v.2] = (List.flatMap (dpL pL pE) (xs ++ [(k, v)])) from (by rw [List.flatMap_append]; rfl)] at H
  replace H : Hs [] w0 v7 [.blk g4 #[.int .i64 k, .int .i64 pL, .int .i64 pE, .int .i64 v.1, .int .i64 v.2] 206, .row (.slice (some ⟨g5, 0, none⟩) (List.length (xs ++ [(k, v)])) c5) 206 5 (List.length (xs ++ [(k, v)])) (List.flatMap (dpL pL pE) (xs ++ [(k, v)])), .blk g3 #[.slice none 0 0, .slice none 0 0, .int .i64 0, .int .i64 0, .int .i64 0, .int .i64 0, .int .i64 0] 124, .blk g2 #[.int .i64 pL, .int .i64 pE, .int .i64 v.1, .int .i64 v.2] 119, .blk g1 #[rv, .slice none 0 0, .int .i64 pL, .int .i64 pE, .int .i64 0, .int .i64 0, .int .i64 ((room : Nat) : Int)] 124] := H
  replace H := H.pick [1, 2, 3, 4] [.row (.slice (some ⟨g5, 0, none⟩) (List.length (xs ++ [(k, v)])) c5) 206 5 (List.length (xs ++ [(k, v)])) (List.flatMap (dpL pL pE) (xs ++ [(k, v)])), .blk g3 #[.slice none 0 0, .slice none 0 0, .int .i64 0, .int .i64 0, .int .i64 0, .int .i64 0, .int .i64 0] 124, .blk g2 #[.int .i64 pL, .int .i64 pE, .int .i64 v.1, .int .i64 v.2] 119, .blk g1 #[rv, .slice none 0 0, .int .i64 pL, .int .i64 pE, .int .i64 0, .int .i64 0, .int .i64 ((room : Nat) : Int)] 124] (by decide) (by kernel_rfl)
  refine x_val (.pointer (some ⟨g1, 1, none⟩)) (by kernel_rfl) rfl (by kernel_rfl) ?_
  refine x_store (t := 122) (v := .slice (some ⟨g5, 0, none⟩) (List.length (xs ++ [(k, v)])) c5) H 3 g1 1 _ #[rv, .slice (some ⟨g5, 0, none⟩) (List.length (xs ++ [(k, v)])) c5, .int .i64 pL, .int .i64 pE, .int .i64 0, .int .i64 0, .int .i64 ((room : Nat) : Int)] 124 [.slice (some ⟨g5, 0, none⟩) (List.length (xs ++ [(k, v)])) c5] _ rfl rfl (by kernel_rfl) (by kernel_rfl) (by kernel_rfl) rfl (by kernel_rfl) (by kernel_rfl) (by kernel_rfl) (by kernel_rfl) ?_
  clear H
  intro v8 H
  refine x_nil ?_
  refine x_then ?_
  refine x_seq ?_
  refine x_region ?_
  refine x_loadn (t := 124) H 3 g1 0 _ _ [rv, .slice (some ⟨g5, 0, none⟩) (List.length (xs ++ [(k, v)])) c5, .int .i64 pL, .int .i64 pE, .int .i64 0, .int .i64 0, .int .i64 ((room : Nat) : Int)] rfl (by kernel_rfl) (by kernel_rfl) rfl (by kernel_rfl) (by kernel_rfl) ?_
  have h1o := (H.ro R0).rowOne 0 rfl
  refine x_store (t := 124) (v := .agg #[rv, .slice (some ⟨g5, 0, none⟩) (List.length (xs ++ [(k, v)])) c5, .int .i64 pL, .int .i64 pE, .int .i64 0, .int .i64 0, .int .i64 ((room : Nat) : Int)]) H 1 g3 0 _ #[rv, .slice (some ⟨g5, 0, none⟩) (List.length (xs ++ [(k, v)])) c5, .int .i64 pL, .int .i64 pE, .int .i64 0, .int .i64 0, .int .i64 ((room : Nat) : Int)] 124 [rv, .slice (some ⟨g5, 0, none⟩) (List.length (xs ++ [(k, v)])) c5, .int .i64 pL, .int .i64 pE, .int .i64 0, .int .i64 0, .int .i64 ((room : Nat) : Int)] _ rfl rfl (by kernel_rfl) (by simp only [List.all_cons, List.all_nil, h1o, Bool.and_true, Bool.true_and] <;> rfl) (by kernel_rfl) rfl (by kernel_rfl) (by kernel_rfl) (by kernel_rfl) (by kernel_rfl) ?_
  clear H
  intro v9 H
  refine x_nil ?_
  refine x_then ?_
  refine x_retc ?_
  refine x_ret (.agg #[rv, .slice (some ⟨g5, 0, none⟩) (List.length (xs ++ [(k, v)])) c5, .int .i64 pL, .int .i64 pE, .int .i64 0, .int .i64 0, .int .i64 ((room : Nat) : Int)]) (by kernel_rfl) (x_rescell H 1 g3 0 #[rv, .slice (some ⟨g5, 0, none⟩) (List.length (xs ++ [(k, v)])) c5, .int .i64 pL, .int .i64 pE, .int .i64 0, .int .i64 0, .int .i64 ((room : Nat) : Int)] 124 [rv, .slice (some ⟨g5, 0, none⟩) (List.length (xs ++ [(k, v)])) c5, .int .i64 pL, .int .i64 pE, .int .i64 0, .int .i64 0, .int .i64 ((room : Nat) : Int)] (fun x => x) (by kernel_rfl) (by kernel_rfl) (by kernel_rfl)) ?_
  exact ⟨_, rfl, H.pick [0] _ (by decide) (by kernel_rfl)⟩

set_option maxRecDepth 100000 in
set_option maxHeartbeats 4000000 in
theorem DPut_room_s {rL rE pL pE : Int} {room : Nat} {rv : Value} {rs : List Buk} (xs : List PairB) (k : Int) (v : Buk) (hn : xs.length ≤ 4096) {g cap : Nat} (hq : ¬ (fkB xs k) < xs.length) (hr : xs.length < room) (w0 : World) (hR : Ro w0 [.row (rv) 119 4 (List.length rs) (List.flatMap (dbL rL rE) rs), .row (.slice (some ⟨g, 0, none⟩) (List.length xs) cap) 206 5 (List.length xs) (List.flatMap (dpL pL pE) xs)]) :
    Calls Try.prog 159 #[.agg #[rv, .slice (some ⟨g, 0, none⟩) (List.length xs) cap, .int .i64 pL, .int .i64 pE, .int .i64 0, .int .i64 0, .int .i64 ((room : Nat) : Int)], .int .i64 k, .agg #[.int .i64 pL, .int .i64 pE, .int .i64 v.1, .int .i64 v.2]] w0 fun e w' => ∃ u, e = .returned (.agg #[rv, u, .int .i64 pL, .int .i64 pE, .int .i64 0, .int .i64 0, .int .i64 ((room : Nat) : Int)]) ∧ Hs [] w0 w' [.row (u) 206 5 (List.length (xs ++ [(k, v)])) (List.flatMap (dpL pL pE) (xs ++ [(k, v)]))] := by
  refine x_enter Try.func159 rfl #[.agg #[rv, .slice (some ⟨g, 0, none⟩) (List.length xs) cap, .int .i64 pL, .int .i64 pE, .int .i64 0, .int .i64 0, .int .i64 ((room : Nat) : Int)], .int .i64 k, .agg #[.int .i64 pL, .int .i64 pE, .int .i64 v.1, .int .i64 v.2], undef, undef, undef, undef, undef, undef, undef, undef, undef, undef, undef, undef, undef, undef, undef, undef, undef, undef, undef, undef, undef, undef, undef, undef, undef, undef, undef, undef, undef, undef, undef, undef, undef, undef, undef, undef, undef, undef, undef, undef, undef, undef, undef, undef, undef, undef, undef, undef, undef, undef, undef, undef, undef, undef, undef, undef, undef, undef, undef, undef, undef, undef, undef, undef, undef, undef, undef, undef, undef] (by kernel_rfl) ?_
  have H := Hs.nil w0
  have R0 := hR
  have q1 : decide ((((List.length xs) : Nat) : Int) = ((room : Nat) : Int)) = false := decide_eq_false (by omega)
  refine x_seq ?_
  refine x_region ?_
  refine x_box H #[rv, .slice (some ⟨g, 0, none⟩) (List.length xs) cap, .int .i64 pL, .int .i64 pE, .int .i64 0, .int .i64 0, .int .i64 ((room : Nat) : Int)] 124 (by kernel_rfl) rfl (by kernel_rfl) ?_
  clear H
  intro v1 g1 H
  refine x_box H #[.int .i64 pL, .int .i64 pE, .int .i64 v.1, .int .i64 v.2] 119 (by kernel_rfl) rfl (by kernel_rfl) ?_
  clear H
  intro v2 g2 H
  refine x_box H #[.slice none 0 0, .slice none 0 0, .int .i64 0, .int .i64 0, .int .i64 0, .int .i64 0, .int .i64 0] 124 (by kernel_rfl) rfl (by kernel_rfl) ?_
  clear H
  intro v3 g3 H
  refine x_nil ?_
  refine x_then ?_
  refine x_seq ?_
  refine x_region ?_
  refine x_loadn (t := 124) H 2 g1 0 _ _ [rv, .slice (some ⟨g, 0, none⟩) (List.length xs) cap, .int .i64 pL, .int .i64 pE, .int .i64 0, .int .i64 0, .int .i64 ((room : Nat) : Int)] rfl (by kernel_rfl) (by kernel_rfl) rfl (by kernel_rfl) (by kernel_rfl) ?_
  refine x_val (.int .i64 k) (by kernel_rfl) rfl (by kernel_rfl) ?_
  refine x_callB (.int .i64 (-1)) H (by kernel_rfl) rfl (by kernel_rfl) (by have h := DFind (room := room) (rv := rv) xs k hn _ ((H.ro R0).pick [1] [.row (.slice (some ⟨g, 0, none⟩) (List.length xs) cap) 206 5 (List.length xs) (List.flatMap (dpL pL pE) xs)] (by kernel_rfl)); rw [show findB xs k = -1 by unfold findB; rw [if_neg hq]] at h; exact h) ?_
  clear H
  intro v4 H
  refine x_val (.int .i64 (-1)) (by kernel_rfl) rfl (by kernel_rfl) ?_
  refine x_nil ?_
  refine x_then ?_
  refine x_seq ?_
  refine x_region ?_
  refine x_val (.slice none 0 0) (by kernel_rfl) rfl (by kernel_rfl) ?_
  refine x_nil ?_
  refine x_then ?_
  refine x_seq ?_
  refine x_seq ?_
  refine x_region ?_
  refine x_val (.int .i64 (-1)) (by kernel_rfl) rfl (by kernel_rfl) ?_
  refine x_val (.bool false) (by kernel_rfl) rfl (by kernel_rfl) ?_
  refine x_nil ?_
  refine x_then ?_
  refine x_f (by kernel_rfl) ?_
  refine x_skipc ?_
  refine x_then ?_
  refine x_seq ?_
  refine x_seq ?_
  refine x_region ?_
  refine x_val (.pointer (some ⟨g1, 1, none⟩)) (by kernel_rfl) rfl (by kernel_rfl) ?_
  refine x_load1 H 2 g1 1 _ _ (.slice (some ⟨g, 0, none⟩) (List.length xs) cap) rfl (by kernel_rfl) (by kernel_rfl) rfl (by kernel_rfl) ?_
  refine x_val (.int .i64 (((List.length xs) : Nat) : Int)) (by kernel_rfl) rfl (by kernel_rfl) ?_
  refine x_val (.pointer (some ⟨g1, 6, none⟩)) (by kernel_rfl) rfl (by kernel_rfl) ?_
  refine x_load1 H 2 g1 6 _ _ (.int .i64 ((room : Nat) : Int)) rfl (by kernel_rfl) (by kernel_rfl) rfl (by kernel_rfl) ?_
  refine x_val (.bool (decide ((((List.length xs) : Nat) : Int) = ((room : Nat) : Int)))) (by kernel_rfl) rfl (by kernel_rfl) ?_
  refine x_nil ?_
  refine x_then ?_
  rw [q1]
  refine x_f (by kernel_rfl) ?_
  refine x_skipc ?_
  refine x_then ?_
  refine x_seq ?_
  refine x_region ?_
  refine x_val (.slice none 0 0) (by kernel_rfl) rfl (by kernel_rfl) ?_
  refine x_val (.pointer (some ⟨g1, 1, none⟩)) (by kernel_rfl) rfl (by kernel_rfl) ?_
  refine x_load1 H 2 g1 1 _ _ (.slice (some ⟨g, 0, none⟩) (List.length xs) cap) rfl (by kernel_rfl) (by kernel_rfl) rfl (by kernel_rfl) ?_
  replace H := H.nilRow 206 5
  replace H : Hs [] w0 _ [.row (.slice none 0 0) 206 5 0 (List.flatMap (dpL pL pE) ([] : List PairB)), .blk g3 #[.slice none 0 0, .slice none 0 0, .int .i64 0, .int .i64 0, .int .i64 0, .int .i64 0, .int .i64 0] 124, .blk g2 #[.int .i64 pL, .int .i64 pE, .int .i64 v.1, .int .i64 v.2] 119, .blk g1 #[rv, .slice (some ⟨g, 0, none⟩) (List.length xs) cap, .int .i64 pL, .int .i64 pE, .int .i64 0, .int .i64 0, .int .i64 ((room : Nat) : Int)] 124] := H
  refine x_appendSrc H 0 (.slice none 0 0) 122 206 5 40 0 (.agg #[.int .i64 0, .int .i64 0, .int .i64 0, .int .i64 0, .int .i64 0]) (List.flatMap (dpL pL pE) ([] : List PairB)) (.slice (some ⟨g, 0, none⟩) (List.length xs) cap) (List.length xs) (List.flatMap (dpL pL pE) xs) rfl (src_row ((H.ro R0) 1 _ rfl : Go.World.ownsRow _ 0 206 5 _ _ _)) (by kernel_rfl) (by kernel_rfl) (by kernel_rfl) (by decide) (oneCellFlat (dpOne pL pE) _) (by unfold maxLen; omega) (by omega) (by kernel_rfl) rfl (by kernel_rfl) ?_
  clear H
  intro v5 vr63 H
  rw [show (List.flatMap (dpL pL pE) ([] : List PairB)) ++ (List.flatMap (dpL pL pE) xs) = (List.flatMap (dpL pL pE) xs) from (by simp)] at H
  rw [show (0 + (List.length xs) : Nat) = (List.length xs) from (by simp)] at H
  replace H : Hs [] w0 v5 [.row (vr63) 206 5 (List.length xs) (List.flatMap (dpL pL pE) xs), .blk g3 #[.slice none 0 0, .slice none 0 0, .int .i64 0, .int .i64 0, .int .i64 0, .int .i64 0, .int .i64 0] 124, .blk g2 #[.int .i64 pL, .int .i64 pE, .int .i64 v.1, .int .i64 v.2] 119, .blk g1 #[rv, .slice (some ⟨g, 0, none⟩) (List.length xs) cap, .int .i64 pL, .int .i64 pE, .int .i64 0, .int .i64 0, .int .i64 ((room : Nat) : Int)] 124] := H
  refine x_val (vr63) (by kernel_rfl) rfl (by kernel_rfl) ?_
  refine x_nil ?_
  refine x_then ?_
  refine x_seq ?_
  refine x_region ?_
  refine x_val (vr63) (by kernel_rfl) rfl (by kernel_rfl) ?_
  refine x_val (.int .i64 k) (by kernel_rfl) rfl (by kernel_rfl) ?_
  refine x_loadn (t := 119) H 2 g2 0 _ _ [.int .i64 pL, .int .i64 pE, .int .i64 v.1, .int .i64 v.2] rfl (by kernel_rfl) (by kernel_rfl) rfl (by kernel_rfl) (by kernel_rfl) ?_
  refine x_val (.agg #[.int .i64 k, .int .i64 pL, .int .i64 pE, .int .i64 v.1, .int .i64 v.2]) (by kernel_rfl) rfl (by kernel_rfl) ?_
  refine x_box' H #[.int .i64 k, .int .i64 pL, .int .i64 pE, .int .i64 v.1, .int .i64 v.2] 206 1 (by kernel_rfl) rfl (by kernel_rfl) ?_
  clear H
  intro v6 g4 H
  refine x_append H 1 (vr63) 122 206 5 40 (List.length xs) (.agg #[.int .i64 0, .int .i64 0, .int .i64 0, .int .i64 0, .int .i64 0]) (List.flatMap (dpL pL pE) xs) ⟨g4, 0, none⟩ 1 1 [.int .i64 k, .int .i64 pL, .int .i64 pE, .int .i64 v.1, .int .i64 v.2] rfl (by kernel_rfl) (by kernel_rfl) rfl (by decide) (by decide) rfl (fun j u hj => by rw [add_none]; exact cellOf (H.blk 0 rfl) (by simpa using hj)) (List.all_eq_true.1 (by kernel_rfl)) (by unfold maxLen; omega) (by omega) (by kernel_rfl) rfl (by kernel_rfl) ?_
  clear H
  intro v7 g5 c5 hc5 H
  rw [show (((List.length xs) + 1) : Nat) = (List.length (xs ++ [(k, v)])) from (by simp)] at H ⊢
  rw [show (List.flatMap (dpL pL pE) xs) ++ [.int .i64 k, .int .i64 pL, .int .i64 pE, .int .i64 v.1, .int .i64 v.2] = (List.flatMap (dpL pL pE) (xs ++ [(k, v)])) from (by rw [List.flatMap_append]; rfl)] at H
  replace H : Hs [] w0 v7 [.blk g4 #[.int .i64 k, .int .i64 pL, .int .i64 pE, .int .i64 v.1, .int .i64 v.2] 206, .row (.slice (some ⟨g5, 0, none⟩) (List.length (xs ++ [(k, v)])) c5) 206 5 (List.length (xs ++ [(k, v)])) (List.flatMap (dpL pL pE) (xs ++ [(k, v)])), .blk g3 #[.slice none 0 0, .slice none 0 0, .int .i64 0, .int .i64 0, .int .i64 0, .int .i64 0, .int .i64 0] 124, .blk g2 #[.int .i64 pL, .int .i64 pE, .int .i64 v.1, .int .i64 v.2] 119, .blk g1 #[rv, .slice (some ⟨g, 0, none⟩) (List.length xs) cap, .int .i64 pL, .int .i64 pE, .int .i64 0, .int .i64 0, .int .i64 ((room : Nat) : Int)] 124] := H
  replace H := H.pick [1, 2, 3, 4] [.row (.slice (some ⟨g5, 0, none⟩) (List.length (xs ++ [(k, v)])) c5) 206 5 (List.length (xs ++ [(k, v)])) (List.flatMap (dpL pL pE) (xs ++ [(k, v)])), .blk g3 #[.slice none 0 0, .slice none 0 0, .int .i64 0, .int .i64 0, .int .i64 0, .int .i64 0, .int .i64 0] 124, .blk g2 #[.int .i64 pL, .int .i64 pE, .int .i64 v.1, .int .i64 v.2] 119, .blk g1 #[rv, .slice (some ⟨g, 0, none⟩) (List.length xs) cap, .int .i64 pL, .int .i64 pE, .int .i64 0, .int .i64 0, .int .i64 ((room : Nat) : Int)] 124] (by decide) (by kernel_rfl)
  refine x_val (.pointer (some ⟨g1, 1, none⟩)) (by kernel_rfl) rfl (by kernel_rfl) ?_
  refine x_store (t := 122) (v := .slice (some ⟨g5, 0, none⟩) (List.length (xs ++ [(k, v)])) c5) H 3 g1 1 _ #[rv, .slice (some ⟨g5, 0, none⟩) (List.length (xs ++ [(k, v)])) c5, .int .i64 pL, .int .i64 pE, .int .i64 0, .int .i64 0, .int .i64 ((room : Nat) : Int)] 124 [.slice (some ⟨g5, 0, none⟩) (List.length (xs ++ [(k, v)])) c5] _ rfl rfl (by kernel_rfl) (by kernel_rfl) (by kernel_rfl) rfl (by kernel_rfl) (by kernel_rfl) (by kernel_rfl) (by kernel_rfl) ?_
  clear H
  intro v8 H
  refine x_nil ?_
  refine x_then ?_
  refine x_seq ?_
  refine x_region ?_
  refine x_loadn (t := 124) H 3 g1 0 _ _ [rv, .slice (some ⟨g5, 0, none⟩) (List.length (xs ++ [(k, v)])) c5, .int .i64 pL, .int .i64 pE, .int .i64 0, .int .i64 0, .int .i64 ((room : Nat) : Int)] rfl (by kernel_rfl) (by kernel_rfl) rfl (by kernel_rfl) (by kernel_rfl) ?_
  have h1o := (H.ro R0).rowOne 0 rfl
  refine x_store (t := 124) (v := .agg #[rv, .slice (some ⟨g5, 0, none⟩) (List.length (xs ++ [(k, v)])) c5, .int .i64 pL, .int .i64 pE, .int .i64 0, .int .i64 0, .int .i64 ((room : Nat) : Int)]) H 1 g3 0 _ #[rv, .slice (some ⟨g5, 0, none⟩) (List.length (xs ++ [(k, v)])) c5, .int .i64 pL, .int .i64 pE, .int .i64 0, .int .i64 0, .int .i64 ((room : Nat) : Int)] 124 [rv, .slice (some ⟨g5, 0, none⟩) (List.length (xs ++ [(k, v)])) c5, .int .i64 pL, .int .i64 pE, .int .i64 0, .int .i64 0, .int .i64 ((room : Nat) : Int)] _ rfl rfl (by kernel_rfl) (by simp only [List.all_cons, List.all_nil, h1o, Bool.and_true, Bool.true_and] <;> rfl) (by kernel_rfl) rfl (by kernel_rfl) (by kernel_rfl) (by kernel_rfl) (by kernel_rfl) ?_
  clear H
  intro v9 H
  refine x_nil ?_
  refine x_then ?_
  refine x_retc ?_
  refine x_ret (.agg #[rv, .slice (some ⟨g5, 0, none⟩) (List.length (xs ++ [(k, v)])) c5, .int .i64 pL, .int .i64 pE, .int .i64 0, .int .i64 0, .int .i64 ((room : Nat) : Int)]) (by kernel_rfl) (x_rescell H 1 g3 0 #[rv, .slice (some ⟨g5, 0, none⟩) (List.length (xs ++ [(k, v)])) c5, .int .i64 pL, .int .i64 pE, .int .i64 0, .int .i64 0, .int .i64 ((room : Nat) : Int)] 124 [rv, .slice (some ⟨g5, 0, none⟩) (List.length (xs ++ [(k, v)])) c5, .int .i64 pL, .int .i64 pE, .int .i64 0, .int .i64 0, .int .i64 ((room : Nat) : Int)] (fun x => x) (by kernel_rfl) (by kernel_rfl) (by kernel_rfl)) ?_
  exact ⟨_, rfl, H.pick [0] _ (by decide) (by kernel_rfl)⟩

set_option maxRecDepth 100000 in
set_option maxHeartbeats 4000000 in
theorem DPut_evict {rL rE pL pE : Int} {room : Nat} {rv : Value} {rs : List Buk} (xs : List PairB) (k : Int) (v : Buk) (hn : xs.length ≤ 4096) {g cap : Nat} (hq : ¬ (fkB xs k) < xs.length) (hr : xs.length = room) (h1 : 1 ≤ room) (w0 : World) (hR : Ro w0 [.row (rv) 119 4 (List.length rs) (List.flatMap (dbL rL rE) rs), .row (.slice (some ⟨g, 0, none⟩) (List.length xs) cap) 206 5 (List.length xs) (List.flatMap (dpL pL pE) xs)]) :
    Calls Try.prog 159 #[.agg #[rv, .slice (some ⟨g, 0, none⟩) (List.length xs) cap, .int .i64 pL, .int .i64 pE, .int .i64 0, .int .i64 0, .int .i64 ((room : Nat) : Int)], .int .i64 k, .agg #[.int .i64 pL, .int .i64 pE, .int .i64 v.1, .int .i64 v.2]] w0 fun e w' => ∃ u, e = .returned (.agg #[rv, u, .int .i64 pL, .int .i64 pE, .int .i64 0, .int .i64 0, .int .i64 ((room : Nat) : Int)]) ∧ Hs [] w0 w' [.row (u) 206 5 (List.length ((xs.eraseIdx (ltB xs xs.length).1) ++ [(k, v)])) (List.flatMap (dpL pL pE) ((xs.eraseIdx (ltB xs xs.length).1) ++ [(k, v)]))] := by
  refine x_enter Try.func159 rfl #[.agg #[rv, .slice (some ⟨g, 0, none⟩) (List.length xs) cap, .int .i64 pL, .int .i64 pE, .int .i64 0, .int .i64 0, .int .i64 ((room : Nat) : Int)], .int .i64 k, .agg #[.int .i64 pL, .int .i64 pE, .int .i64 v.1, .int .i64 v.2], undef, undef, undef, undef, undef, undef, undef, undef, undef, undef, undef, undef, undef, undef, undef, undef, undef, undef, undef, undef, undef, undef, undef, undef, undef, undef, undef, undef, undef, undef, undef, undef, undef, undef, undef, undef, undef, undef, undef, undef, undef, undef, undef, undef, undef, undef, undef, undef, undef, undef, undef, undef, undef, undef, undef, undef, undef, undef, undef, undef, undef, undef, undef, undef, undef, undef, undef, undef, undef] (by kernel_rfl) ?_
  have H := Hs.nil w0
  have R0 := hR
  have q1 : decide ((((List.length xs) : Nat) : Int) = ((room : Nat) : Int)) = true := decide_eq_true (by omega)
  have hlq : (ltB xs xs.length).1 < xs.length := lt_ltB xs _ (by omega)
  refine x_seq ?_
  refine x_region ?_
  refine x_box H #[rv, .slice (some ⟨g, 0, none⟩) (List.length xs) cap, .int .i64 pL, .int .i64 pE, .int .i64 0, .int .i64 0, .int .i64 ((room : Nat) : Int)] 124 (by kernel_rfl) rfl (by kernel_rfl) ?_
  clear H
  intro v1 g1 H
  refine x_box H #[.int .i64 pL, .int .i64 pE, .int .i64 v.1, .int .i64 v.2] 119 (by kernel_rfl) rfl (by kernel_rfl) ?_
  clear H
  intro v2 g2 H
  refine x_box H #[.slice none 0 0, .slice none 0 0, .int .i64 0, .int .i64 0, .int .i64 0, .int .i64 0, .int .i64 0] 124 (by kernel_rfl) rfl (by kernel_rfl) ?_
  clear H
  intro v3 g3 H
  refine x_nil ?_
  refine x_then ?_
  refine x_seq ?_
  refine x_region ?_
  refine x_loadn (t := 124) H 2 g1 0 _ _ [rv, .slice (some ⟨g, 0, none⟩) (List.length xs) cap, .int .i64 pL, .int .i64 pE, .int .i64 0, .int .i64 0, .int .i64 ((room : Nat) : Int)] rfl (by kernel_rfl) (by kernel_rfl) rfl (by kernel_rfl) (by kernel_rfl) ?_
  refine x_val (.int .i64 k) (by kernel_rfl) rfl (by kernel_rfl) ?_
  refine x_callB (.int .i64 (-1)) H (by kernel_rfl) rfl (by kernel_rfl) (by have h := DFind (room := room) (rv := rv) xs k hn _ ((H.ro R0).pick [1] [.row (.slice (some ⟨g, 0, none⟩) (List.length xs) cap) 206 5 (List.length xs) (List.flatMap (dpL pL pE) xs)] (by kernel_rfl)); rw [show findB xs k = -1 by unfold findB; rw [if_neg hq]] at h; exact h) ?_
  clear H
  intro v4 H
  refine x_val (.int .i64 (-1)) (by kernel_rfl) rfl (by kernel_rfl) ?_
  refine x_nil ?_
  refine x_then ?_
  refine x_seq ?_
  refine x_region ?_
  refine x_val (.slice none 0 0) (by kernel_rfl) rfl (by kernel_rfl) ?_
  refine x_nil ?_
  refine x_then ?_
  refine x_seq ?_
  refine x_seq ?_
  refine x_region ?_
  refine x_val (.int .i64 (-1)) (by kernel_rfl) rfl (by kernel_rfl) ?_
  refine x_val (.bool false) (by kernel_rfl) rfl (by kernel_rfl) ?_
  refine x_nil ?_
  refine x_then ?_
  refine x_f (by kernel_rfl) ?_
  refine x_skipc ?_
  refine x_then ?_
  refine x_seq ?_
  refine x_seq ?_
  refine x_region ?_
  refine x_val (.pointer (some ⟨g1, 1, none⟩)) (by kernel_rfl) rfl (by kernel_rfl) ?_
  refine x_load1 H 2 g1 1 _ _ (.slice (some ⟨g, 0, none⟩) (List.length xs) cap) rfl (by kernel_rfl) (by kernel_rfl) rfl (by kernel_rfl) ?_
  refine x_val (.int .i64 (((List.length xs) : Nat) : Int)) (by kernel_rfl) rfl (by kernel_rfl) ?_
  refine x_val (.pointer (some ⟨g1, 6, none⟩)) (by kernel_rfl) rfl (by kernel_rfl) ?_
  refine x_load1 H 2 g1 6 _ _ (.int .i64 ((room : Nat) : Int)) rfl (by kernel_rfl) (by kernel_rfl) rfl (by kernel_rfl) ?_
  refine x_val (.bool (decide ((((List.length xs) : Nat) : Int) = ((room : Nat) : Int)))) (by kernel_rfl) rfl (by kernel_rfl) ?_
  refine x_nil ?_
  refine x_then ?_
  rw [q1]
  refine x_t (by kernel_rfl) ?_
  refine x_seq ?_
  refine x_region ?_
  refine x_val (.int .i64 0) (by kernel_rfl) rfl (by kernel_rfl) ?_
  refine x_nil ?_
  refine x_then ?_
  refine x_seq ?_
  refine x_seq ?_
  refine x_region ?_
  refine x_val (.int .i64 1) (by kernel_rfl) rfl (by kernel_rfl) ?_
  refine x_nil ?_
  refine x_then ?_
  refine x_block ?_
  refine x_loop (G := Nat × Nat) (fun gh a w' => match gh with | (j, ls) => ∃ uf1 : Nat → Value, a = { tmps := #[.agg #[rv, .slice (some ⟨g, 0, none⟩) (List.length xs) cap, .int .i64 pL, .int .i64 pE, .int .i64 0, .int .i64 0, .int .i64 ((room : Nat) : Int)], .int .i64 k, .agg #[.int .i64 pL, .int .i64 pE, .int .i64 v.1, .int .i64 v.2], .pointer (some ⟨g1, 0, none⟩), undef, .pointer (some ⟨g2, 0, none⟩), .pointer (some ⟨g3, 0, none⟩), .int .i64 (-1), .slice none 0 0, .int .i64 ((ls : Nat) : Int), .int .i64 ((j : Nat) : Int), .agg #[rv, .slice (some ⟨g, 0, none⟩) (List.length xs) cap, .int .i64 pL, .int .i64 pE, .int .i64 0, .int .i64 0, .int .i64 ((room : Nat) : Int)], .int .i64 k, .int .i64 (-1), .int .i64 (-1), .bool false, undef, undef, undef, undef, undef, undef, undef, undef, undef, undef, undef, undef, .pointer (some ⟨g1, 1, none⟩), .slice (some ⟨g, 0, none⟩) (List.length xs) cap, .int .i64 (((List.length xs) : Nat) : Int), .pointer (some ⟨g1, 6, none⟩), .int .i64 ((room : Nat) : Int), .bool true, (uf1 0), (uf1 1), (uf1 2), (uf1 3), (uf1 4), (uf1 5), (uf1 6), (uf1 7), (uf1 8), (uf1 9), (uf1 10), (uf1 11), (uf1 12), (uf1 13), (uf1 14), (uf1 15), (uf1 16), (uf1 17), (uf1 18), (uf1 19), (uf1 20), (uf1 21), (uf1 22), undef, undef, undef, undef, undef, undef, undef, undef, undef, undef, undef, undef, undef, undef, undef], defers := [] } ∧ Hs [] w0 w' [.blk g3 #[.slice none 0 0, .slice none 0 0, .int .i64 0, .int .i64 0, .int .i64 0, .int .i64 0, .int .i64 0] 124, .blk g2 #[.int .i64 pL, .int .i64 pE, .int .i64 v.1, .int .i64 v.2] 119, .blk g1 #[rv, .slice (some ⟨g, 0, none⟩) (List.length xs) cap, .int .i64 pL, .int .i64 pE, .int .i64 0, .int .i64 0, .int .i64 ((room : Nat) : Int)] 124] ∧ (1 ≤ j) ∧ (j ≤ xs.length) ∧ (ls = (ltB xs j).1) ∧ (ls < xs.length)) (fun gh => match gh with | (j, ls) => xs.length - j) (1, 0) ⟨(nthV [undef, undef, undef, undef, undef, undef, undef, undef, undef, undef, undef, undef, undef, undef, undef, undef, undef, undef, undef, undef, undef, undef, undef]), (by kernel_rfl), H, (Nat.le_refl _), (by omega), (by rw [ltB, if_pos (Or.inl rfl)]), (by omega)⟩ ?_
  clear H
  rintro ⟨j, ls⟩ _ v5 ⟨uf1, rfl, H, r1, r2, r3, r4⟩
  refine x_seq ?_
  refine x_seq ?_
  refine x_region ?_
  refine x_val (.int .i64 ((j : Nat) : Int)) (by kernel_rfl) rfl (by kernel_rfl) ?_
  refine x_val (.pointer (some ⟨g1, 1, none⟩)) (by kernel_rfl) rfl (by kernel_rfl) ?_
  refine x_load1 H 2 g1 1 _ _ (.slice (some ⟨g, 0, none⟩) (List.length xs) cap) rfl (by kernel_rfl) (by kernel_rfl) rfl (by kernel_rfl) ?_
  refine x_val (.int .i64 (((List.length xs) : Nat) : Int)) (by kernel_rfl) rfl (by kernel_rfl) ?_
  refine x_val (.bool (decide (((j : Nat) : Int) < (((List.length xs) : Nat) : Int)))) (by kernel_rfl) rfl (by kernel_rfl) ?_
  refine x_nil ?_
  refine x_then ?_
  cases h1 : decide (((j : Nat) : Int) < (((List.length xs) : Nat) : Int))
  · skip
    have h1p := of_decide_eq_false h1
    have hjl : j = xs.length := by omega
    rw [hjl] at r3
    subst r3
    refine x_f (by kernel_rfl) ?_
    refine x_exit ?_
    refine x_then_exit ?_
    refine x_then_exit ?_
    refine x_blk_exit ?_
    refine x_then ?_
    refine x_region ?_
    refine x_loadn (t := 124) H 2 g1 0 _ _ [rv, .slice (some ⟨g, 0, none⟩) (List.length xs) cap, .int .i64 pL, .int .i64 pE, .int .i64 0, .int .i64 0, .int .i64 ((room : Nat) : Int)] rfl (by kernel_rfl) (by kernel_rfl) rfl (by kernel_rfl) (by kernel_rfl) ?_
    refine x_val (.int .i64 ((((ltB xs xs.length).1) : Nat) : Int)) (by kernel_rfl) rfl (by kernel_rfl) ?_
    refine x_call (by kernel_rfl) rfl (by kernel_rfl) (DDrop (room := room) xs ((ltB xs xs.length).1) hlq hn _ (H.ro R0)) ?_
    rintro _ v6 ⟨wv, rfl, hN'⟩
    refine ⟨_, rfl, ?_⟩
    replace H := H.more hN'
    clear hN'
    replace H : Hs [] w0 _ [.row (wv) 206 5 (List.length (xs.eraseIdx (ltB xs xs.length).1)) (List.flatMap (dpL pL pE) (xs.eraseIdx (ltB xs xs.length).1)), .blk g3 #[.slice none 0 0, .slice none 0 0, .int .i64 0, .int .i64 0, .int .i64 0, .int .i64 0, .int .i64 0] 124, .blk g2 #[.int .i64 pL, .int .i64 pE, .int .i64 v.1, .int .i64 v.2] 119, .blk g1 #[rv, .slice (some ⟨g, 0, none⟩) (List.length xs) cap, .int .i64 pL, .int .i64 pE, .int .i64 0, .int .i64 0, .int .i64 ((room : Nat) : Int)] 124] := H
    have h2o := (H.ro R0).rowOne 0 rfl
    have h3o := H.rowOne 0 rfl
    refine x_store (t := 124) (v := .agg #[rv, wv, .int .i64 pL, .int .i64 pE, .int .i64 0, .int .i64 0, .int .i64 ((room : Nat) : Int)]) H 3 g1 0 _ #[rv, wv, .int .i64 pL, .int .i64 pE, .int .i64 0, .int .i64 0, .int .i64 ((room : Nat) : Int)] 124 [rv, wv, .int .i64 pL, .int .i64 pE, .int .i64 0, .int .i64 0, .int .i64 ((room : Nat) : Int)] _ rfl rfl (by kernel_rfl) (by simp only [List.all_cons, List.all_nil, h2o, h3o, Bool.and_true, Bool.true_and] <;> rfl) (by kernel_rfl) rfl (by kernel_rfl) (by kernel_rfl) (by kernel_rfl) (by kernel_rfl) ?_
    clear H
    intro v7 H
    refine x_nil ?_
    refine x_then ?_
    refine x_seq ?_
    refine x_region ?_
    refine x_val (.slice none 0 0) (by kernel_rfl) rfl (by kernel_rfl) ?_
    refine x_val (.pointer (some ⟨g1, 1, none⟩)) (by kernel_rfl) rfl (by kernel_rfl) ?_
    refine x_load1 H 3 g1 1 _ _ (wv) rfl (by kernel_rfl) (by kernel_rfl) rfl (by kernel_rfl) ?_
    replace H := H.nilRow 206 5
    replace H : Hs [] w0 _ [.row (.slice none 0 0) 206 5 0 (List.flatMap (dpL pL pE) ([] : List PairB)), .row (wv) 206 5 (List.length (xs.eraseIdx (ltB xs xs.length).1)) (List.flatMap (dpL pL pE) (xs.eraseIdx (ltB xs xs.length).1)), .blk g3 #[.slice none 0 0, .slice none 0 0, .int .i64 0, .int .i64 0, .int .i64 0, .int .i64 0, .int .i64 0] 124, .blk g2 #[.int .i64 pL, .int .i64 pE, .int .i64 v.1, .int .i64 v.2] 119, .blk g1 #[rv, wv, .int .i64 pL, .int .i64 pE, .int .i64 0, .int .i64 0, .int .i64 ((room : Nat) : Int)] 124] := H
    refine x_appendSrc H 0 (.slice none 0 0) 122 206 5 40 0 (.agg #[.int .i64 0, .int .i64 0, .int .i64 0, .int .i64 0, .int .i64 0]) (List.flatMap (dpL pL pE) ([] : List PairB)) (wv) (List.length (xs.eraseIdx (ltB xs xs.length).1)) (List.flatMap (dpL pL pE) (xs.eraseIdx (ltB xs xs.length).1)) rfl (src_row (H.ok 1 _ rfl : Go.World.ownsRow _ 0 206 5 _ _ _)) (by kernel_rfl) (by kernel_rfl) (by kernel_rfl) (by decide) (oneCellFlat (dpOne pL pE) _) (by rw [List.length_eraseIdx]; unfold maxLen; split <;> omega) (by rw [List.length_eraseIdx]; split <;> omega) (by kernel_rfl) rfl (by kernel_rfl) ?_
    clear H
    intro v8 vr63 H
    rw [show (List.flatMap (dpL pL pE) ([] : List PairB)) ++ (List.flatMap (dpL pL pE) (xs.eraseIdx (ltB xs xs.length).1)) = (List.flatMap (dpL pL pE) (xs.eraseIdx (ltB xs xs.length).1)) from (by simp)] at H
    rw [show (0 + (List.length (xs.eraseIdx (ltB xs xs.length).1)) : Nat) = (List.length (xs.eraseIdx (ltB xs xs.length).1)) from (by simp)] at H
    replace H : Hs [] w0 v8 [.row (vr63) 206 5 (List.length (xs.eraseIdx (ltB xs xs.length).1)) (List.flatMap (dpL pL pE) (xs.eraseIdx (ltB xs xs.length).1)), .row (wv) 206 5 (List.length (xs.eraseIdx (ltB xs xs.length).1)) (List.flatMap (dpL pL pE) (xs.eraseIdx (ltB xs xs.length).1)), .blk g3 #[.slice none 0 0, .slice none 0 0, .int .i64 0, .int .i64 0, .int .i64 0, .int .i64 0, .int .i64 0] 124, .blk g2 #[.int .i64 pL, .int .i64 pE, .int .i64 v.1, .int .i64 v.2] 119, .blk g1 #[rv, wv, .int .i64 pL, .int .i64 pE, .int .i64 0, .int .i64 0, .int .i64 ((room : Nat) : Int)] 124] := H
    refine x_val (vr63) (by kernel_rfl) rfl (by kernel_rfl) ?_
    refine x_nil ?_
    refine x_then ?_
    refine x_seq ?_
    refine x_region ?_
    refine x_val (vr63) (by kernel_rfl) rfl (by kernel_rfl) ?_
    refine x_val (.int .i64 k) (by kernel_rfl) rfl (by kernel_rfl) ?_
    refine x_loadn (t := 119) H 3 g2 0 _ _ [.int .i64 pL, .int .i64 pE, .int .i64 v.1, .int .i64 v.2] rfl (by kernel_rfl) (by kernel_rfl) rfl (by kernel_rfl) (by kernel_rfl) ?_
    refine x_val (.agg #[.int .i64 k, .int .i64 pL, .int .i64 pE, .int .i64 v.1, .int .i64 v.2]) (by kernel_rfl) rfl (by kernel_rfl) ?_
    refine x_box' H #[.int .i64 k, .int .i64 pL, .int .i64 pE, .int .i64 v.1, .int .i64 v.2] 206 1 (by kernel_rfl) rfl (by kernel_rfl) ?_
    clear H
    intro v9 g4 H
    refine x_append H 1 (vr63) 122 206 5 40 (List.length (xs.eraseIdx (ltB xs xs.length).1)) (.agg #[.int .i64 0, .int .i64 0, .int .i64 0, .int .i64 0, .int .i64 0]) (List.flatMap (dpL pL pE) (xs.eraseIdx (ltB xs xs.length).1)) ⟨g4, 0, none⟩ 1 1 [.int .i64 k, .int .i64 pL, .int .i64 pE, .int .i64 v.1, .int .i64 v.2] rfl (by kernel_rfl) (by kernel_rfl) rfl (by decide) (by decide) rfl (fun j u hj => by rw [add_none]; exact cellOf (H.blk 0 rfl) (by simpa using hj)) (List.all_eq_true.1 (by kernel_rfl)) (by rw [List.length_eraseIdx]; unfold maxLen; split <;> omega) (by rw [List.length_eraseIdx]; split <;> omega) (by kernel_rfl) rfl (by kernel_rfl) ?_
    clear H
    intro v10 g5 c5 hc5 H
    rw [show (((List.length (xs.eraseIdx (ltB xs xs.length).1)) + 1) : Nat) = (List.length ((xs.eraseIdx (ltB xs xs.length).1) ++ [(k, v)])) from (by simp)] at H ⊢
    rw [show (List.flatMap (dpL pL pE) (xs.eraseIdx (ltB xs xs.length).1)) ++ [.int .i64 k, .int .i64 pL, .int .i64 pE, .int .i64 v.1, .int .i64 v.2] = (List.flatMap (dpL pL pE) ((xs.eraseIdx (ltB xs xs.length).1) ++ [(k, v)])) from (by rw [List.flatMap_append]; rfl)] at H
    replace H : Hs [] w0 v10 [.blk g4 #[.int .i64 k, .int .i64 pL, .int .i64 pE, .int .i64 v.1, .int .i64 v.2] 206, .row (.slice (some ⟨g5, 0, none⟩) (List.length ((xs.eraseIdx (ltB xs xs.length).1) ++ [(k, v)])) c5) 206 5 (List.length ((xs.eraseIdx (ltB xs xs.length).1) ++ [(k, v)])) (List.flatMap (dpL pL pE) ((xs.eraseIdx (ltB xs xs.length).1) ++ [(k, v)])), .row (wv) 206 5 (List.length (xs.eraseIdx (ltB xs xs.length).1)) (List.flatMap (dpL pL pE) (xs.eraseIdx (ltB xs xs.length).1)), .blk g3 #[.slice none 0 0, .slice none 0 0, .int .i64 0, .int .i64 0, .int .i64 0, .int .i64 0, .int .i64 0] 124, .blk g2 #[.int .i64 pL, .int .i64 pE, .int .i64 v.1, .int .i64 v.2] 119, .blk g1 #[rv, wv, .int .i64 pL, .int .i64 pE, .int .i64 0, .int .i64 0, .int .i64 ((room : Nat) : Int)] 124] := H
    replace H := H.pick [1, 2, 3, 4, 5] [.row (.slice (some ⟨g5, 0, none⟩) (List.length ((xs.eraseIdx (ltB xs xs.length).1) ++ [(k, v)])) c5) 206 5 (List.length ((xs.eraseIdx (ltB xs xs.length).1) ++ [(k, v)])) (List.flatMap (dpL pL pE) ((xs.eraseIdx (ltB xs xs.length).1) ++ [(k, v)])), .row (wv) 206 5 (List.length (xs.eraseIdx (ltB xs xs.length).1)) (List.flatMap (dpL pL pE) (xs.eraseIdx (ltB xs xs.length).1)), .blk g3 #[.slice none 0 0, .slice none 0 0, .int .i64 0, .int .i64 0, .int .i64 0, .int .i64 0, .int .i64 0] 124, .blk g2 #[.int .i64 pL, .int .i64 pE, .int .i64 v.1, .int .i64 v.2] 119, .blk g1 #[rv, wv, .int .i64 pL, .int .i64 pE, .int .i64 0, .int .i64 0, .int .i64 ((room : Nat) : Int)] 124] (by decide) (by kernel_rfl)
    refine x_val (.pointer (some ⟨g1, 1, none⟩)) (by kernel_rfl) rfl (by kernel_rfl) ?_
    refine x_store (t := 122) (v := .slice (some ⟨g5, 0, none⟩) (List.length ((xs.eraseIdx (ltB xs xs.length).1) ++ [(k, v)])) c5) H 4 g1 1 _ #[rv, .slice (some ⟨g5, 0, none⟩) (List.length ((xs.eraseIdx (ltB xs xs.length).1) ++ [(k, v)])) c5, .int .i64 pL, .int .i64 pE, .int .i64 0, .int .i64 0, .int .i64 ((room : Nat) : Int)] 124 [.slice (some ⟨g5, 0, none⟩) (List.length ((xs.eraseIdx (ltB xs xs.length).1) ++ [(k, v)])) c5] _ rfl rfl (by kernel_rfl) (by kernel_rfl) (by kernel_rfl) rfl (by kernel_rfl) (by kernel_rfl) (by kernel_rfl) (by kernel_rfl) ?_
    clear H
    intro v11 H
    refine x_nil ?_
    refine x_then ?_
    refine x_seq ?_
    refine x_region ?_
    refine x_loadn (t := 124) H 4 g1 0 _ _ [rv, .slice (some ⟨g5, 0, none⟩) (List.length ((xs.eraseIdx (ltB xs xs.length).1) ++ [(k, v)])) c5, .int .i64 pL, .int .i64 pE, .int .i64 0, .int .i64 0, .int .i64 ((room : Nat) : Int)] rfl (by kernel_rfl) (by kernel_rfl) rfl (by kernel_rfl) (by kernel_rfl) ?_
    have h4o := (H.ro R0).rowOne 0 rfl
    refine x_store (t := 124) (v := .agg #[rv, .slice (some ⟨g5, 0, none⟩) (List.length ((xs.eraseIdx (ltB xs xs.length).1) ++ [(k, v)])) c5, .int .i64 pL, .int .i64 pE, .int .i64 0, .int .i64 0, .int .i64 ((room : Nat) : Int)]) H 2 g3 0 _ #[rv, .slice (some ⟨g5, 0, none⟩) (List.length ((xs.eraseIdx (ltB xs xs.length).1) ++ [(k, v)])) c5, .int .i64 pL, .int .i64 pE, .int .i64 0, .int .i64 0, .int .i64 ((room : Nat) : Int)] 124 [rv, .slice (some ⟨g5, 0, none⟩) (List.length ((xs.eraseIdx (ltB xs xs.length).1) ++ [(k, v)])) c5, .int .i64 pL, .int .i64 pE, .int .i64 0, .int .i64 0, .int .i64 ((room : Nat) : Int)] _ rfl rfl (by kernel_rfl) (by simp only [List.all_cons, List.all_nil, h4o, Bool.and_true, Bool.true_and] <;> rfl) (by kernel_rfl) rfl (by kernel_rfl) (by kernel_rfl) (by kernel_rfl) (by kernel_rfl) ?_
    clear H
    intro v12 H
    refine x_nil ?_
    refine x_then ?_
    refine x_retc ?_
    refine x_ret (.agg #[rv, .slice (some ⟨g5, 0, none⟩) (List.length ((xs.eraseIdx (ltB xs xs.length).1) ++ [(k, v)])) c5, .int .i64 pL, .int .i64 pE, .int .i64 0, .int .i64 0, .int .i64 ((room : Nat) : Int)]) (by kernel_rfl) (x_rescell H 2 g3 0 #[rv, .slice (some ⟨g5, 0, none⟩) (List.length ((xs.eraseIdx (ltB xs xs.length).1) ++ [(k, v)])) c5, .int .i64 pL, .int .i64 pE, .int .i64 0, .int .i64 0, .int .i64 ((room : Nat) : Int)] 124 [rv, .slice (some ⟨g5, 0, none⟩) (List.length ((xs.eraseIdx (ltB xs xs.length).1) ++ [(k, v)])) c5, .int .i64 pL, .int .i64 pE, .int .i64 0, .int .i64 0, .int .i64 ((room : Nat) : Int)] (fun x => x) (by kernel_rfl) (by kernel_rfl) (by kernel_rfl)) ?_
    exact ⟨_, rfl, H.pick [0] _ (by decide) (by kernel_rfl)⟩
  · skip
    have h1p := of_decide_eq_true h1
    refine x_t (by kernel_rfl) ?_
    refine x_skipc ?_
    refine x_then ?_
    refine x_seq ?_
    refine x_block ?_
    refine x_seq ?_
    refine x_region_whole (fun w' => Hs [] w0 w' [.blk g3 #[.slice none 0 0, .slice none 0 0, .int .i64 0, .int .i64 0, .int .i64 0, .int .i64 0, .int .i64 0] 124, .blk g2 #[.int .i64 pL, .int .i64 pE, .int .i64 v.1, .int .i64 v.2] 119, .blk g1 #[rv, .slice (some ⟨g, 0, none⟩) (List.length xs) cap, .int .i64 pL, .int .i64 pE, .int .i64 0, .int .i64 0, .int .i64 ((room : Nat) : Int)] 124]) (by kernel_rfl) (by kernel_rfl) (by kernel_rfl) H.drew ?_
    refine q_val (.pointer (some ⟨g1, 1, none⟩)) (by kernel_rfl) (fun _ => by kernel_rfl) ?_
    refine q_load1 2 g1 1 #[rv, .slice (some ⟨g, 0, none⟩) (List.length xs) cap, .int .i64 pL, .int .i64 pE, .int .i64 0, .int .i64 0, .int .i64 ((room : Nat) : Int)] 124 (.slice (some ⟨g, 0, none⟩) (List.length xs) cap) (by kernel_rfl) (by kernel_rfl) (by kernel_rfl) (fun _ => by kernel_rfl) ?_
    refine q_val (.int .i64 ((j : Nat) : Int)) (by kernel_rfl) (fun _ => by kernel_rfl) ?_
    refine q_ix (t := 122) g 0 j (List.length xs) cap 206 5 (j * 5) (by omega) (by omega) (by kernel_rfl) (by kernel_rfl) (by kernel_rfl) (fun _ => by kernel_rfl) ?_
    refine q_val (.pointer (some ⟨g, j * 5 + 1, none⟩)) (by kernel_rfl) (fun _ => by kernel_rfl) ?_
    refine q_val (.pointer (some ⟨g, j * 5 + 3, none⟩)) (by kernel_rfl) (fun _ => by kernel_rfl) ?_
    refine q_loadc g (j * 5 + 3) (.int .i64 ((xs.getD j (0, 0, 0)).2.1)) (fun _ H => ((H.ro R0).rowCells 1 rfl (j * 5) (flatAt (dpLen pL pE) (0, 0, 0) _ (by omega))) 3 _ rfl) (by kernel_rfl) (fun _ => by kernel_rfl) ?_
    refine q_val (.pointer (some ⟨g1, 1, none⟩)) (by kernel_rfl) (fun _ => by kernel_rfl) ?_
    refine q_load1 2 g1 1 #[rv, .slice (some ⟨g, 0, none⟩) (List.length xs) cap, .int .i64 pL, .int .i64 pE, .int .i64 0, .int .i64 0, .int .i64 ((room : Nat) : Int)] 124 (.slice (some ⟨g, 0, none⟩) (List.length xs) cap) (by kernel_rfl) (by kernel_rfl) (by kernel_rfl) (fun _ => by kernel_rfl) ?_
    refine q_val (.int .i64 ((ls : Nat) : Int)) (by kernel_rfl) (fun _ => by kernel_rfl) ?_
    refine q_ix (t := 122) g 0 ls (List.length xs) cap 206 5 (ls * 5) (by omega) (by omega) (by kernel_rfl) (by kernel_rfl) (by kernel_rfl) (fun _ => by kernel_rfl) ?_
    refine q_val (.pointer (some ⟨g, ls * 5 + 1, none⟩)) (by kernel_rfl) (fun _ => by kernel_rfl) ?_
    refine q_val (.pointer (some ⟨g, ls * 5 + 3, none⟩)) (by kernel_rfl) (fun _ => by kernel_rfl) ?_
    refine q_loadc g (ls * 5 + 3) (.int .i64 ((xs.getD ls (0, 0, 0)).2.1)) (fun _ H => ((H.ro R0).rowCells 1 rfl (ls * 5) (flatAt (dpLen pL pE) (0, 0, 0) _ (by omega))) 3 _ rfl) (by kernel_rfl) (fun _ => by kernel_rfl) ?_
    refine q_val (.bool (decide (((xs.getD j (0, 0, 0)).2.1) < ((xs.getD ls (0, 0, 0)).2.1)))) (by kernel_rfl) (fun _ => by kernel_rfl) ?_
    refine q_nil ?_
    clear H
    intro v13 H
    refine x_then ?_
    cases h5 : decide (((xs.getD j (0, 0, 0)).2.1) < ((xs.getD ls (0, 0, 0)).2.1))
    · skip
      have h5p := of_decide_eq_false h5
      refine x_f (by kernel_rfl) ?_
      refine x_skipc ?_
      refine x_blk ?_
      refine x_then ?_
      refine x_region ?_
      refine x_val (.int .i64 ((j : Nat) : Int)) (by kernel_rfl) rfl (by kernel_rfl) ?_
      refine x_ar (((j : Nat) : Int) + 1) ⟨by omega, by omega⟩ (by kernel_rfl) rfl (by kernel_rfl) ?_
      refine x_val (.int .i64 (((j : Nat) : Int) + 1)) (by kernel_rfl) rfl (by kernel_rfl) ?_
      refine x_nil ?_
      refine x_then ?_
      replace H := H.pick [0, 1, 2] [.blk g3 #[.slice none 0 0, .slice none 0 0, .int .i64 0, .int .i64 0, .int .i64 0, .int .i64 0, .int .i64 0] 124, .blk g2 #[.int .i64 pL, .int .i64 pE, .int .i64 v.1, .int .i64 v.2] 119, .blk g1 #[rv, .slice (some ⟨g, 0, none⟩) (List.length xs) cap, .int .i64 pL, .int .i64 pE, .int .i64 0, .int .i64 0, .int .i64 ((room : Nat) : Int)] 124] (by decide) (by kernel_rfl)
      have hj := lt_leB xs j (by omega)
      exact ⟨(j + 1, ls), (by dsimp only; omega), (nthV [.int .i64 ((j : Nat) : Int), .pointer (some ⟨g1, 1, none⟩), .slice (some ⟨g, 0, none⟩) (List.length xs) cap, .int .i64 (((List.length xs) : Nat) : Int), .bool true, .int .i64 ((j : Nat) : Int), .int .i64 (((j : Nat) : Int) + 1), .pointer (some ⟨g1, 1, none⟩), .slice (some ⟨g, 0, none⟩) (List.length xs) cap, .int .i64 ((j : Nat) : Int), .pointer (some ⟨g, j * 5, none⟩), .pointer (some ⟨g, j * 5 + 1, none⟩), .pointer (some ⟨g, j * 5 + 3, none⟩), .int .i64 ((xs.getD j (0, 0, 0)).2.1), .pointer (some ⟨g1, 1, none⟩), .slice (some ⟨g, 0, none⟩) (List.length xs) cap, .int .i64 ((ls : Nat) : Int), .pointer (some ⟨g, ls * 5, none⟩), .pointer (some ⟨g, ls * 5 + 1, none⟩), .pointer (some ⟨g, ls * 5 + 3, none⟩), .int .i64 ((xs.getD ls (0, 0, 0)).2.1), .bool false, (uf1 22)]), (by kernel_rfl), H, (by omega), (by omega), (by rw [ltB, if_neg (by rintro (z | z); omega; rw [hj, ← r3] at z; exact h5p z)]; exact r3), (by omega)⟩
    · skip
      have h5p := of_decide_eq_true h5
      refine x_t (by kernel_rfl) ?_
      refine x_region ?_
      refine x_val (.int .i64 ((j : Nat) : Int)) (by kernel_rfl) rfl (by kernel_rfl) ?_
      refine x_val (.int .i64 ((j : Nat) : Int)) (by kernel_rfl) rfl (by kernel_rfl) ?_
      refine x_nil ?_
      refine x_blk ?_
      refine x_then ?_
      refine x_region ?_
      refine x_val (.int .i64 ((j : Nat) : Int)) (by kernel_rfl) rfl (by kernel_rfl) ?_
      refine x_ar (((j : Nat) : Int) + 1) ⟨by omega, by omega⟩ (by kernel_rfl) rfl (by kernel_rfl) ?_
      refine x_val (.int .i64 (((j : Nat) : Int) + 1)) (by kernel_rfl) rfl (by kernel_rfl) ?_
      refine x_nil ?_
      refine x_then ?_
      replace H := H.pick [0, 1, 2] [.blk g3 #[.slice none 0 0, .slice none 0 0, .int .i64 0, .int .i64 0, .int .i64 0, .int .i64 0, .int .i64 0] 124, .blk g2 #[.int .i64 pL, .int .i64 pE, .int .i64 v.1, .int .i64 v.2] 119, .blk g1 #[rv, .slice (some ⟨g, 0, none⟩) (List.length xs) cap, .int .i64 pL, .int .i64 pE, .int .i64 0, .int .i64 0, .int .i64 ((room : Nat) : Int)] 124] (by decide) (by kernel_rfl)
      have hj := lt_leB xs j (by omega)
      exact ⟨(j + 1, j), (by dsimp only; omega), (nthV [.int .i64 ((j : Nat) : Int), .pointer (some ⟨g1, 1, none⟩), .slice (some ⟨g, 0, none⟩) (List.length xs) cap, .int .i64 (((List.length xs) : Nat) : Int), .bool true, .int .i64 ((j : Nat) : Int), .int .i64 (((j : Nat) : Int) + 1), .pointer (some ⟨g1, 1, none⟩), .slice (some ⟨g, 0, none⟩) (List.length xs) cap, .int .i64 ((j : Nat) : Int), .pointer (some ⟨g, j * 5, none⟩), .pointer (some ⟨g, j * 5 + 1, none⟩), .pointer (some ⟨g, j * 5 + 3, none⟩), .int .i64 ((xs.getD j (0, 0, 0)).2.1), .pointer (some ⟨g1, 1, none⟩), .slice (some ⟨g, 0, none⟩) (List.length xs) cap, .int .i64 ((ls : Nat) : Int), .pointer (some ⟨g, ls * 5, none⟩), .pointer (some ⟨g, ls * 5 + 1, none⟩), .pointer (some ⟨g, ls * 5 + 3, none⟩), .int .i64 ((xs.getD ls (0, 0, 0)).2.1), .bool true, .int .i64 ((j : Nat) : Int)]), (by kernel_rfl), H, (by omega), (by omega), (by rw [ltB, if_pos (Or.inr (by rw [hj, ← r3]; exact h5p))]), (by omega)⟩

theorem DPut {rL rE pL pE : Int} {room : Nat} {rv : Value} {rs : List Buk} (xs : List PairB) (k : Int) (v : Buk) (hn : xs.length ≤ 4096) {pv : Value} (hr : xs.length ≤ room) (h1 : 1 ≤ room) (w0 : World) (hR : Ro w0 [.row (rv) 119 4 (List.length rs) (List.flatMap (dbL rL rE) rs), .row (pv) 206 5 (List.length xs) (List.flatMap (dpL pL pE) xs)]) : Calls Try.prog 159 #[.agg #[rv, pv, .int .i64 pL, .int .i64 pE, .int .i64 0, .int .i64 0, .int .i64 ((room : Nat) : Int)], .int .i64 k, .agg #[.int .i64 pL, .int .i64 pE, .int .i64 v.1, .int .i64 v.2]] w0 fun e w' => ∃ u, e = .returned (.agg #[rv, u, .int .i64 pL, .int .i64 pE, .int .i64 0, .int .i64 0, .int .i64 ((room : Nat) : Int)]) ∧ Hs [] w0 w' [.row (u) 206 5 (List.length ((putB room xs k v).1)) (List.flatMap (dpL pL pE) ((putB room xs k v).1))] := by
  rcases rowForm (hR 1 _ rfl : w0.ownsRow 0 _ 5 pv _ _) with ⟨rfl, h0⟩ | ⟨g, cap, rfl, hc, _⟩
  · have e : (putB room xs k v).1 = xs ++ [(k, v)] := by unfold putB; rw [if_neg (by omega), if_pos (by omega)]
    rw [e]; exact DPut_room_n xs k v hn (by omega) (by omega) w0 hR
  · by_cases hq : fkB xs k < xs.length
    · have e : (putB room xs k v).1 = xs.set (fkB xs k) ((xs.getD (fkB xs k) (0, 0, 0)).1, v) := by unfold putB; rw [if_pos hq]
      rw [e]; exact DPut_set xs k v hn hq w0 hR
    · by_cases hlt : xs.length < room
      · have e : (putB room xs k v).1 = xs ++ [(k, v)] := by unfold putB; rw [if_neg hq, if_pos hlt]
        rw [e]; exact DPut_room_s xs k v hn hq hlt w0 hR
      · have e : (putB room xs k v).1 = xs.eraseIdx (ltB xs xs.length).1 ++ [(k, v)] := by unfold putB; rw [if_neg hq, if_neg hlt]
        rw [e]; exact DPut_evict xs k v hn hq (by omega) h1 w0 hR

end Go.Proofs.Ytgpalgbdacoagaa
