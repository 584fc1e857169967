/- The law TrackRestores, walked. -/
import Derived.Test.YtgpalgbdacoagaaTrkR
import Derived.Test.YtgpalgbdacoagaaTrkS
namespace Go.Proofs.Ytgpalgbdacoagaa
open Go Go.RowKit
set_option linter.unusedVariables false
set_option linter.unusedSimpArgs false

set_option maxRecDepth 100000 in
set_option maxHeartbeats 4000000 in
theorem of_ (L E u v : Int) (w0 : World) :
    Calls Try.prog 60 #[.agg #[.int .i64 L, .int .i64 E], .agg #[.int .i64 u, .int .i64 v]] w0 fun e w' => e = .returned (.agg #[.int .i64 L, .int .i64 E, .int .i64 u, .int .i64 v]) ∧ Below w0.heap.size w0 w' := by
  refine x_enter Try.func60 rfl #[.agg #[.int .i64 L, .int .i64 E], .agg #[.int .i64 u, .int .i64 v], undef, undef, undef, undef, undef, undef, undef, undef, undef, undef, undef, undef] (by kernel_rfl) ?_
  have H := Hs.nil w0
  refine x_seq ?_
  refine x_region ?_
  refine x_box H #[.int .i64 L, .int .i64 E] 78 (by kernel_rfl) rfl (by kernel_rfl) ?_
  clear H
  intro v1 g1 H
  refine x_box H #[.int .i64 u, .int .i64 v] 86 (by kernel_rfl) rfl (by kernel_rfl) ?_
  clear H
  intro v2 g2 H
  refine x_box H #[.int .i64 0, .int .i64 0, .int .i64 0, .int .i64 0] 119 (by kernel_rfl) rfl (by kernel_rfl) ?_
  clear H
  intro v3 g3 H
  refine x_nil ?_
  refine x_then ?_
  refine x_seq ?_
  refine x_region ?_
  refine x_val (.pointer (some ⟨g1, 0, none⟩)) (by kernel_rfl) rfl (by kernel_rfl) ?_
  refine x_load1 H 2 g1 0 _ _ (.int .i64 L) rfl (by kernel_rfl) (by kernel_rfl) rfl (by kernel_rfl) ?_
  refine x_val (.pointer (some ⟨g1, 1, none⟩)) (by kernel_rfl) rfl (by kernel_rfl) ?_
  refine x_load1 H 2 g1 1 _ _ (.int .i64 E) rfl (by kernel_rfl) (by kernel_rfl) rfl (by kernel_rfl) ?_
  refine x_val (.pointer (some ⟨g2, 0, none⟩)) (by kernel_rfl) rfl (by kernel_rfl) ?_
  refine x_load1 H 1 g2 0 _ _ (.int .i64 u) rfl (by kernel_rfl) (by kernel_rfl) rfl (by kernel_rfl) ?_
  refine x_val (.pointer (some ⟨g2, 1, none⟩)) (by kernel_rfl) rfl (by kernel_rfl) ?_
  refine x_load1 H 1 g2 1 _ _ (.int .i64 v) rfl (by kernel_rfl) (by kernel_rfl) rfl (by kernel_rfl) ?_
  refine x_val (.agg #[.int .i64 L, .int .i64 E, .int .i64 u, .int .i64 v]) (by kernel_rfl) rfl (by kernel_rfl) ?_
  refine x_store (t := 119) (v := .agg #[.int .i64 L, .int .i64 E, .int .i64 u, .int .i64 v]) H 0 g3 0 _ #[.int .i64 L, .int .i64 E, .int .i64 u, .int .i64 v] 119 [.int .i64 L, .int .i64 E, .int .i64 u, .int .i64 v] _ rfl rfl (by kernel_rfl) (by kernel_rfl) (by kernel_rfl) rfl (by kernel_rfl) (by kernel_rfl) (by kernel_rfl) (by kernel_rfl) ?_
  clear H
  intro v4 H
  refine x_nil ?_
  refine x_then ?_
  refine x_retc ?_
  refine x_ret (.agg #[.int .i64 L, .int .i64 E, .int .i64 u, .int .i64 v]) (by kernel_rfl) (x_rescell H 0 g3 0 #[.int .i64 L, .int .i64 E, .int .i64 u, .int .i64 v] 119 [.int .i64 L, .int .i64 E, .int .i64 u, .int .i64 v] (fun x => x) (by kernel_rfl) (by kernel_rfl) (by kernel_rfl)) ?_
  exact ⟨rfl, H.below⟩

set_option maxRecDepth 100000 in
set_option maxHeartbeats 4000000 in
theorem Right_ (L E u v : Int) (hr : RR L E) (w0 : World) :
    Calls Try.prog 61 #[.agg #[.int .i64 L, .int .i64 E, .int .i64 u, .int .i64 v]] w0 fun e w' => e = .returned (.bool (decide (RB E (u, v)))) ∧ Below w0.heap.size w0 w' := by
  refine x_enter Try.func61 rfl #[.agg #[.int .i64 L, .int .i64 E, .int .i64 u, .int .i64 v], undef, undef, undef, undef, undef, undef, undef, undef, undef, undef, undef, undef, undef, undef, undef, undef, undef, undef, undef, undef, undef, undef, undef, undef, undef, undef, undef, undef, undef, undef, undef, undef, undef, undef, undef, undef, undef, undef, undef, undef, undef, undef] (by kernel_rfl) ?_
  have H := Hs.nil w0
  refine x_seq ?_
  refine x_region ?_
  refine x_box H #[.int .i64 L, .int .i64 E, .int .i64 u, .int .i64 v] 119 (by kernel_rfl) rfl (by kernel_rfl) ?_
  clear H
  intro v1 g1 H
  refine x_val (.bool false) (by kernel_rfl) rfl (by kernel_rfl) ?_
  refine x_nil ?_
  refine x_then ?_
  refine x_seq ?_
  refine x_region ?_
  refine x_val (.pointer (some ⟨g1, 0, none⟩)) (by kernel_rfl) rfl (by kernel_rfl) ?_
  refine x_load1 H 0 g1 0 _ _ (.int .i64 L) rfl (by kernel_rfl) (by kernel_rfl) rfl (by kernel_rfl) ?_
  refine x_val (.bool (decide (1 ≤ L))) (by kernel_rfl) rfl (by kernel_rfl) ?_
  refine x_val (.bool (decide (1 ≤ L))) (by kernel_rfl) rfl (by kernel_rfl) ?_
  cases h1 : decide (1 ≤ L)
  · skip
    have h1p := of_decide_eq_false h1
    refine x_skip (by kernel_rfl) ?_
    refine x_skip (by kernel_rfl) ?_
    refine x_skip (by kernel_rfl) ?_
    refine x_val (.bool false) (by kernel_rfl) rfl (by kernel_rfl) ?_
    refine x_val (.bool false) (by kernel_rfl) rfl (by kernel_rfl) ?_
    refine x_skip (by kernel_rfl) ?_
    refine x_skip (by kernel_rfl) ?_
    refine x_skip (by kernel_rfl) ?_
    refine x_val (.bool false) (by kernel_rfl) rfl (by kernel_rfl) ?_
    refine x_val (.bool false) (by kernel_rfl) rfl (by kernel_rfl) ?_
    refine x_skip (by kernel_rfl) ?_
    refine x_skip (by kernel_rfl) ?_
    refine x_skip (by kernel_rfl) ?_
    refine x_val (.bool false) (by kernel_rfl) rfl (by kernel_rfl) ?_
    refine x_val (.bool false) (by kernel_rfl) rfl (by kernel_rfl) ?_
    refine x_skip (by kernel_rfl) ?_
    refine x_skip (by kernel_rfl) ?_
    refine x_skip (by kernel_rfl) ?_
    refine x_val (.bool false) (by kernel_rfl) rfl (by kernel_rfl) ?_
    refine x_val (.bool false) (by kernel_rfl) rfl (by kernel_rfl) ?_
    refine x_skip (by kernel_rfl) ?_
    refine x_skip (by kernel_rfl) ?_
    refine x_skip (by kernel_rfl) ?_
    refine x_val (.bool false) (by kernel_rfl) rfl (by kernel_rfl) ?_
    refine x_val (.bool false) (by kernel_rfl) rfl (by kernel_rfl) ?_
    refine x_skip (by kernel_rfl) ?_
    refine x_skip (by kernel_rfl) ?_
    refine x_skip (by kernel_rfl) ?_
    refine x_val (.bool false) (by kernel_rfl) rfl (by kernel_rfl) ?_
    refine x_val (.bool false) (by kernel_rfl) rfl (by kernel_rfl) ?_
    refine x_skip (by kernel_rfl) ?_
    refine x_skip (by kernel_rfl) ?_
    refine x_skip (by kernel_rfl) ?_
    refine x_skip (by kernel_rfl) ?_
    refine x_skip (by kernel_rfl) ?_
    refine x_val (.bool false) (by kernel_rfl) rfl (by kernel_rfl) ?_
    refine x_val (.bool false) (by kernel_rfl) rfl (by kernel_rfl) ?_
    refine x_nil ?_
    refine x_then ?_
    refine x_retc ?_
    refine x_ret (.bool false) (by kernel_rfl) (by kernel_rfl) ?_
    exact ⟨by rw [decide_eq_false (by unfold RR RB at *; dsimp only at *; omega)], H.below⟩
  · skip
    have h1p := of_decide_eq_true h1
    refine x_val (.pointer (some ⟨g1, 0, none⟩)) (by kernel_rfl) rfl (by kernel_rfl) ?_
    refine x_load1 H 0 g1 0 _ _ (.int .i64 L) rfl (by kernel_rfl) (by kernel_rfl) rfl (by kernel_rfl) ?_
    refine x_val (.bool (decide (L ≤ 65536))) (by kernel_rfl) rfl (by kernel_rfl) ?_
    refine x_val (.bool (decide (L ≤ 65536))) (by kernel_rfl) rfl (by kernel_rfl) ?_
    refine x_val (.bool (decide (L ≤ 65536))) (by kernel_rfl) rfl (by kernel_rfl) ?_
    cases h2 : decide (L ≤ 65536)
    · skip
      have h2p := of_decide_eq_false h2
      refine x_skip (by kernel_rfl) ?_
      refine x_skip (by kernel_rfl) ?_
      refine x_skip (by kernel_rfl) ?_
      refine x_val (.bool false) (by kernel_rfl) rfl (by kernel_rfl) ?_
      refine x_val (.bool false) (by kernel_rfl) rfl (by kernel_rfl) ?_
      refine x_skip (by kernel_rfl) ?_
      refine x_skip (by kernel_rfl) ?_
      refine x_skip (by kernel_rfl) ?_
      refine x_val (.bool false) (by kernel_rfl) rfl (by kernel_rfl) ?_
      refine x_val (.bool false) (by kernel_rfl) rfl (by kernel_rfl) ?_
      refine x_skip (by kernel_rfl) ?_
      refine x_skip (by kernel_rfl) ?_
      refine x_skip (by kernel_rfl) ?_
      refine x_val (.bool false) (by kernel_rfl) rfl (by kernel_rfl) ?_
      refine x_val (.bool false) (by kernel_rfl) rfl (by kernel_rfl) ?_
      refine x_skip (by kernel_rfl) ?_
      refine x_skip (by kernel_rfl) ?_
      refine x_skip (by kernel_rfl) ?_
      refine x_val (.bool false) (by kernel_rfl) rfl (by kernel_rfl) ?_
      refine x_val (.bool false) (by kernel_rfl) rfl (by kernel_rfl) ?_
      refine x_skip (by kernel_rfl) ?_
      refine x_skip (by kernel_rfl) ?_
      refine x_skip (by kernel_rfl) ?_
      refine x_val (.bool false) (by kernel_rfl) rfl (by kernel_rfl) ?_
      refine x_val (.bool false) (by kernel_rfl) rfl (by kernel_rfl) ?_
      refine x_skip (by kernel_rfl) ?_
      refine x_skip (by kernel_rfl) ?_
      refine x_skip (by kernel_rfl) ?_
      refine x_skip (by kernel_rfl) ?_
      refine x_skip (by kernel_rfl) ?_
      refine x_val (.bool false) (by kernel_rfl) rfl (by kernel_rfl) ?_
      refine x_val (.bool false) (by kernel_rfl) rfl (by kernel_rfl) ?_
      refine x_nil ?_
      refine x_then ?_
      refine x_retc ?_
      refine x_ret (.bool false) (by kernel_rfl) (by kernel_rfl) ?_
      exact ⟨by rw [decide_eq_false (by unfold RR RB at *; dsimp only at *; omega)], H.below⟩
    · skip
      have h2p := of_decide_eq_true h2
      refine x_val (.pointer (some ⟨g1, 1, none⟩)) (by kernel_rfl) rfl (by kernel_rfl) ?_
      refine x_load1 H 0 g1 1 _ _ (.int .i64 E) rfl (by kernel_rfl) (by kernel_rfl) rfl (by kernel_rfl) ?_
      refine x_val (.bool (decide (1 ≤ E))) (by kernel_rfl) rfl (by kernel_rfl) ?_
      refine x_val (.bool (decide (1 ≤ E))) (by kernel_rfl) rfl (by kernel_rfl) ?_
      refine x_val (.bool (decide (1 ≤ E))) (by kernel_rfl) rfl (by kernel_rfl) ?_
      cases h3 : decide (1 ≤ E)
      · skip
        have h3p := of_decide_eq_false h3
        refine x_skip (by kernel_rfl) ?_
        refine x_skip (by kernel_rfl) ?_
        refine x_skip (by kernel_rfl) ?_
        refine x_val (.bool false) (by kernel_rfl) rfl (by kernel_rfl) ?_
        refine x_val (.bool false) (by kernel_rfl) rfl (by kernel_rfl) ?_
        refine x_skip (by kernel_rfl) ?_
        refine x_skip (by kernel_rfl) ?_
        refine x_skip (by kernel_rfl) ?_
        refine x_val (.bool false) (by kernel_rfl) rfl (by kernel_rfl) ?_
        refine x_val (.bool false) (by kernel_rfl) rfl (by kernel_rfl) ?_
        refine x_skip (by kernel_rfl) ?_
        refine x_skip (by kernel_rfl) ?_
        refine x_skip (by kernel_rfl) ?_
        refine x_val (.bool false) (by kernel_rfl) rfl (by kernel_rfl) ?_
        refine x_val (.bool false) (by kernel_rfl) rfl (by kernel_rfl) ?_
        refine x_skip (by kernel_rfl) ?_
        refine x_skip (by kernel_rfl) ?_
        refine x_skip (by kernel_rfl) ?_
        refine x_val (.bool false) (by kernel_rfl) rfl (by kernel_rfl) ?_
        refine x_val (.bool false) (by kernel_rfl) rfl (by kernel_rfl) ?_
        refine x_skip (by kernel_rfl) ?_
        refine x_skip (by kernel_rfl) ?_
        refine x_skip (by kernel_rfl) ?_
        refine x_skip (by kernel_rfl) ?_
        refine x_skip (by kernel_rfl) ?_
        refine x_val (.bool false) (by kernel_rfl) rfl (by kernel_rfl) ?_
        refine x_val (.bool false) (by kernel_rfl) rfl (by kernel_rfl) ?_
        refine x_nil ?_
        refine x_then ?_
        refine x_retc ?_
        refine x_ret (.bool false) (by kernel_rfl) (by kernel_rfl) ?_
        exact ⟨by rw [decide_eq_false (by unfold RR RB at *; dsimp only at *; omega)], H.below⟩
      · skip
        have h3p := of_decide_eq_true h3
        refine x_val (.pointer (some ⟨g1, 1, none⟩)) (by kernel_rfl) rfl (by kernel_rfl) ?_
        refine x_load1 H 0 g1 1 _ _ (.int .i64 E) rfl (by kernel_rfl) (by kernel_rfl) rfl (by kernel_rfl) ?_
        refine x_val (.bool (decide (E ≤ 65536))) (by kernel_rfl) rfl (by kernel_rfl) ?_
        refine x_val (.bool (decide (E ≤ 65536))) (by kernel_rfl) rfl (by kernel_rfl) ?_
        refine x_val (.bool (decide (E ≤ 65536))) (by kernel_rfl) rfl (by kernel_rfl) ?_
        cases h4 : decide (E ≤ 65536)
        · skip
          have h4p := of_decide_eq_false h4
          refine x_skip (by kernel_rfl) ?_
          refine x_skip (by kernel_rfl) ?_
          refine x_skip (by kernel_rfl) ?_
          refine x_val (.bool false) (by kernel_rfl) rfl (by kernel_rfl) ?_
          refine x_val (.bool false) (by kernel_rfl) rfl (by kernel_rfl) ?_
          refine x_skip (by kernel_rfl) ?_
          refine x_skip (by kernel_rfl) ?_
          refine x_skip (by kernel_rfl) ?_
          refine x_val (.bool false) (by kernel_rfl) rfl (by kernel_rfl) ?_
          refine x_val (.bool false) (by kernel_rfl) rfl (by kernel_rfl) ?_
          refine x_skip (by kernel_rfl) ?_
          refine x_skip (by kernel_rfl) ?_
          refine x_skip (by kernel_rfl) ?_
          refine x_val (.bool false) (by kernel_rfl) rfl (by kernel_rfl) ?_
          refine x_val (.bool false) (by kernel_rfl) rfl (by kernel_rfl) ?_
          refine x_skip (by kernel_rfl) ?_
          refine x_skip (by kernel_rfl) ?_
          refine x_skip (by kernel_rfl) ?_
          refine x_skip (by kernel_rfl) ?_
          refine x_skip (by kernel_rfl) ?_
          refine x_val (.bool false) (by kernel_rfl) rfl (by kernel_rfl) ?_
          refine x_val (.bool false) (by kernel_rfl) rfl (by kernel_rfl) ?_
          refine x_nil ?_
          refine x_then ?_
          refine x_retc ?_
          refine x_ret (.bool false) (by kernel_rfl) (by kernel_rfl) ?_
          exact ⟨by rw [decide_eq_false (by unfold RR RB at *; dsimp only at *; omega)], H.below⟩
        · skip
          have h4p := of_decide_eq_true h4
          refine x_val (.pointer (some ⟨g1, 2, none⟩)) (by kernel_rfl) rfl (by kernel_rfl) ?_
          refine x_load1 H 0 g1 2 _ _ (.int .i64 u) rfl (by kernel_rfl) (by kernel_rfl) rfl (by kernel_rfl) ?_
          refine x_val (.bool (decide (0 ≤ u))) (by kernel_rfl) rfl (by kernel_rfl) ?_
          refine x_val (.bool (decide (0 ≤ u))) (by kernel_rfl) rfl (by kernel_rfl) ?_
          refine x_val (.bool (decide (0 ≤ u))) (by kernel_rfl) rfl (by kernel_rfl) ?_
          cases h5 : decide (0 ≤ u)
          · skip
            have h5p := of_decide_eq_false h5
            refine x_skip (by kernel_rfl) ?_
            refine x_skip (by kernel_rfl) ?_
            refine x_skip (by kernel_rfl) ?_
            refine x_val (.bool false) (by kernel_rfl) rfl (by kernel_rfl) ?_
            refine x_val (.bool false) (by kernel_rfl) rfl (by kernel_rfl) ?_
            refine x_skip (by kernel_rfl) ?_
            refine x_skip (by kernel_rfl) ?_
            refine x_skip (by kernel_rfl) ?_
            refine x_val (.bool false) (by kernel_rfl) rfl (by kernel_rfl) ?_
            refine x_val (.bool false) (by kernel_rfl) rfl (by kernel_rfl) ?_
            refine x_skip (by kernel_rfl) ?_
            refine x_skip (by kernel_rfl) ?_
            refine x_skip (by kernel_rfl) ?_
            refine x_skip (by kernel_rfl) ?_
            refine x_skip (by kernel_rfl) ?_
            refine x_val (.bool false) (by kernel_rfl) rfl (by kernel_rfl) ?_
            refine x_val (.bool false) (by kernel_rfl) rfl (by kernel_rfl) ?_
            refine x_nil ?_
            refine x_then ?_
            refine x_retc ?_
            refine x_ret (.bool false) (by kernel_rfl) (by kernel_rfl) ?_
            exact ⟨by rw [decide_eq_false (by unfold RR RB at *; dsimp only at *; omega)], H.below⟩
          · skip
            have h5p := of_decide_eq_true h5
            refine x_val (.pointer (some ⟨g1, 2, none⟩)) (by kernel_rfl) rfl (by kernel_rfl) ?_
            refine x_load1 H 0 g1 2 _ _ (.int .i64 u) rfl (by kernel_rfl) (by kernel_rfl) rfl (by kernel_rfl) ?_
            refine x_val (.bool (decide (u ≤ 65536))) (by kernel_rfl) rfl (by kernel_rfl) ?_
            refine x_val (.bool (decide (u ≤ 65536))) (by kernel_rfl) rfl (by kernel_rfl) ?_
            refine x_val (.bool (decide (u ≤ 65536))) (by kernel_rfl) rfl (by kernel_rfl) ?_
            cases h6 : decide (u ≤ 65536)
            · skip
              have h6p := of_decide_eq_false h6
              refine x_skip (by kernel_rfl) ?_
              refine x_skip (by kernel_rfl) ?_
              refine x_skip (by kernel_rfl) ?_
              refine x_val (.bool false) (by kernel_rfl) rfl (by kernel_rfl) ?_
              refine x_val (.bool false) (by kernel_rfl) rfl (by kernel_rfl) ?_
              refine x_skip (by kernel_rfl) ?_
              refine x_skip (by kernel_rfl) ?_
              refine x_skip (by kernel_rfl) ?_
              refine x_skip (by kernel_rfl) ?_
              refine x_skip (by kernel_rfl) ?_
              refine x_val (.bool false) (by kernel_rfl) rfl (by kernel_rfl) ?_
              refine x_val (.bool false) (by kernel_rfl) rfl (by kernel_rfl) ?_
              refine x_nil ?_
              refine x_then ?_
              refine x_retc ?_
              refine x_ret (.bool false) (by kernel_rfl) (by kernel_rfl) ?_
              exact ⟨by rw [decide_eq_false (by unfold RR RB at *; dsimp only at *; omega)], H.below⟩
            · skip
              have h6p := of_decide_eq_true h6
              refine x_val (.pointer (some ⟨g1, 3, none⟩)) (by kernel_rfl) rfl (by kernel_rfl) ?_
              refine x_load1 H 0 g1 3 _ _ (.int .i64 v) rfl (by kernel_rfl) (by kernel_rfl) rfl (by kernel_rfl) ?_
              refine x_val (.bool (decide (0 ≤ v))) (by kernel_rfl) rfl (by kernel_rfl) ?_
              refine x_val (.bool (decide (0 ≤ v))) (by kernel_rfl) rfl (by kernel_rfl) ?_
              refine x_val (.bool (decide (0 ≤ v))) (by kernel_rfl) rfl (by kernel_rfl) ?_
              cases h7 : decide (0 ≤ v)
              · skip
                have h7p := of_decide_eq_false h7
                refine x_skip (by kernel_rfl) ?_
                refine x_skip (by kernel_rfl) ?_
                refine x_skip (by kernel_rfl) ?_
                refine x_skip (by kernel_rfl) ?_
                refine x_skip (by kernel_rfl) ?_
                refine x_val (.bool false) (by kernel_rfl) rfl (by kernel_rfl) ?_
                refine x_val (.bool false) (by kernel_rfl) rfl (by kernel_rfl) ?_
                refine x_nil ?_
                refine x_then ?_
                refine x_retc ?_
                refine x_ret (.bool false) (by kernel_rfl) (by kernel_rfl) ?_
                exact ⟨by rw [decide_eq_false (by unfold RR RB at *; dsimp only at *; omega)], H.below⟩
              · skip
                have h7p := of_decide_eq_true h7
                refine x_val (.pointer (some ⟨g1, 3, none⟩)) (by kernel_rfl) rfl (by kernel_rfl) ?_
                refine x_load1 H 0 g1 3 _ _ (.int .i64 v) rfl (by kernel_rfl) (by kernel_rfl) rfl (by kernel_rfl) ?_
                refine x_val (.pointer (some ⟨g1, 1, none⟩)) (by kernel_rfl) rfl (by kernel_rfl) ?_
                refine x_load1 H 0 g1 1 _ _ (.int .i64 E) rfl (by kernel_rfl) (by kernel_rfl) rfl (by kernel_rfl) ?_
                refine x_val (.bool (decide (v < E))) (by kernel_rfl) rfl (by kernel_rfl) ?_
                refine x_val (.bool (decide (v < E))) (by kernel_rfl) rfl (by kernel_rfl) ?_
                refine x_val (.bool (decide (v < E))) (by kernel_rfl) rfl (by kernel_rfl) ?_
                refine x_nil ?_
                refine x_then ?_
                refine x_retc ?_
                refine x_ret (.bool (decide (v < E))) (by kernel_rfl) (by kernel_rfl) ?_
                have e : ((decide (v < E))) = decide (RB E (u, v)) := by rw [decide_eq_decide]; unfold RR RB at *; dsimp only at *; omega
                exact ⟨by rw [e], H.below⟩

theorem len_fst (xs : List PairB) : (xs.map Prod.fst).length = xs.length := List.length_map _
theorem len_snd (xs : List PairB) : (xs.map Prod.snd).length = xs.length := List.length_map _
theorem own_int {w : World} {ty : TypeId} {n : Nat} {v : Value} {l : List Int} (h : w.ownsRow 0 ty 1 v n (List.map (Value.int .i64) l)) : w.ownsRow 0 ty 1 v n (List.flatMap intL l) := by
  rw [map_flat1] at h; exact h
theorem zipT_self : ∀ xs : List PairB, zipT (xs.map Prod.fst) (xs.map Prod.snd) xs.length = xs := fun xs => by
  have key : ∀ k, k ≤ xs.length → zipT (xs.map Prod.fst) (xs.map Prod.snd) k = xs.take k := fun k => by
    induction k with
    | zero => intro _; rfl
    | succ k ih =>
      intro h
      rw [zipT, ih (by omega), takeNext (0, 0, 0) xs k (by omega)]
      congr 1
      simp [List.getD, show k < xs.length by omega]
  rw [key _ (Nat.le_refl _), List.take_length]
theorem fit_state {ranks room : Nat} {rL rE pL pE : Int} {rs : List Buk} {xs : List PairB} (hk : TOk ranks room rE pE rs xs) (hP : TP ranks room rL rE pL pE) (hu : UnlB xs) : FitT room rE pE rs (xs.map Prod.fst) (xs.map Prod.snd) ranks xs.length xs.length := by
  refine ⟨⟨hP.one.2, hP.m.2⟩, rfl, hk.m, fun i hi => getD_all hk.b (by rw [hk.n]; exact hi) _, fun i hi => ?_, fun j hj i hi e => ?_⟩
  · have q := getD_all (P := fun x : PairB => RB pE x.2) hk.c hi (0, 0, 0)
    simpa [List.getD, hi] using q
  · have e1 : (xs.map Prod.fst).getD i 0 = (xs.map Prod.fst)[i]'(by simp; omega) := by simp [List.getD, show i < xs.length by omega]
    have e2 : (xs.map Prod.fst).getD j 0 = (xs.map Prod.fst)[j]'(by simp; omega) := by simp [List.getD, hj]
    rw [e1, e2] at e
    have := (List.getElem_inj hu).1 e
    omega
theorem AllB.next {E : Int} {l : List Buk} {k : Nat} : AllB E l (k + 1) ↔ AllB E l k ∧ RB E (l.getD k (0, 0)) := by
  unfold AllB
  constructor
  · intro h; exact ⟨fun i hi => h i (by omega), h k (by omega)⟩
  · rintro ⟨h1, h2⟩ i hi
    by_cases e : i = k
    · subst e; exact h2
    · exact h1 i (by omega)
theorem AllB.zero {E : Int} {l : List Buk} : AllB E l 0 := fun i hi => absurd hi (Nat.not_lt_zero _)
/-- No page of the first so many comes twice. -/
def Dif (l : List Int) (n : Nat) : Prop := ∀ j, j < n → ∀ i, i < j → l.getD i 0 ≠ l.getD j 0
def Dif1 (l : List Int) (k n : Nat) : Prop := ∀ i, i < n → l.getD i 0 ≠ l.getD k 0
theorem Dif.zero {l : List Int} : Dif l 0 := fun j hj => absurd hj (Nat.not_lt_zero _)
theorem Dif1.zero {l : List Int} {k : Nat} : Dif1 l k 0 := fun j hj => absurd hj (Nat.not_lt_zero _)
theorem Dif.next {l : List Int} {k : Nat} : Dif l (k + 1) ↔ Dif l k ∧ Dif1 l k k := by
  unfold Dif Dif1
  constructor
  · intro h; exact ⟨fun j hj => h j (by omega), fun i hi => h k (by omega) i hi⟩
  · rintro ⟨h1, h2⟩ j hj i hi
    by_cases e : j = k
    · subst e; exact h2 i hi
    · exact h1 j (by omega) i hi
theorem Dif1.next {l : List Int} {k n : Nat} : Dif1 l k (n + 1) ↔ Dif1 l k n ∧ l.getD n 0 ≠ l.getD k 0 := by
  unfold Dif1
  constructor
  · intro h; exact ⟨fun i hi => h i (by omega), h n (by omega)⟩
  · rintro ⟨h1, h2⟩ i hi
    by_cases e : i = n
    · subst e; exact h2
    · exact h1 i (by omega)
theorem iff_step {fb : Bool} {A B C D : Prop} (h : fb = true ↔ A ∧ B) (hn : C ↔ B ∧ D) {fb2 : Bool} (h2 : fb2 = true ↔ fb = true ∧ D) : fb2 = true ↔ A ∧ C := by
  rw [h2, h, hn, and_assoc]
theorem TRes_bad (rL rE pL pE hv : Int) (room : Nat) (aR aP aB : Option Addr) (nR nP nB cR cP cB : Nat) (lR : List Buk) (lP : List Int) (lB : List Buk) (hlR : lR.length = nR) (hb : Rul rL rE pL pE ((room : Nat) : Int) hv) (hnP : nP ≤ 4096) (hnB : nB ≤ 4096) (hf : ¬ FitT room rE pE lR lP lB nR nP nB) (w0 : World) (hAR : RAt bukL 2 (0, 0) w0 aR nR lR) (hAP : RAt intL 1 0 w0 aP nP lP) (hAB : RAt bukL 2 (0, 0) w0 aB nB lB) :
    Calls Try.prog 77 #[.agg #[.int .i64 rL, .int .i64 rE, .int .i64 pL, .int .i64 pE, .int .i64 ((room : Nat) : Int), .int .i64 hv], .agg #[.slice aR nR cR, .slice aP nP cP, .slice aB nB cB]] w0 fun e w' => e = .returned (.tuple #[.pointer none, .int .i64 10]) ∧ Below w0.heap.size w0 w' := by
  by_cases h : 1 ≤ nR ∧ nR ≤ 8
  · exact TRes_no rL rE pL pE hv room aR aP aB nR nP nB cR cP cB lR lP lB hlR hb h.1 h.2 hnP hnB hf w0 hAR hAP hAB
  · exact TRes_rng rL rE pL pE hv room aR aP aB nR nP nB cR cP cB hb (by omega) w0

set_option maxRecDepth 100000 in
set_option maxHeartbeats 4000000 in
theorem rest_long (rL rE pL pE hv room rk : Int) (aO aM aR aP aB : Option Addr) (nO nM nR nP nB cO cM cR cP cB : Nat) (hlen : 30 < nO ∨ 30 < nM ∨ 20 < nR ∨ 300 < nP ∨ 300 < nB) (w0 : World) :
    Calls Try.prog 13 #[.agg #[.int .i64 rL, .int .i64 rE, .int .i64 pL, .int .i64 pE, .int .i64 room, .int .i64 hv], .int .i64 rk, .slice aO nO cO, .slice aM nM cM, .agg #[.slice aR nR cR, .slice aP nP cP, .slice aB nB cB]] w0 fun e w' => e = .returned (.bool true) ∧ Below w0.heap.size w0 w' := by
  refine x_enter Try.func13 rfl #[.agg #[.int .i64 rL, .int .i64 rE, .int .i64 pL, .int .i64 pE, .int .i64 room, .int .i64 hv], .int .i64 rk, .slice aO nO cO, .slice aM nM cM, .agg #[.slice aR nR cR, .slice aP nP cP, .slice aB nB cB], undef, undef, undef, undef, undef, undef, undef, undef, undef, undef, undef, undef, undef, undef, undef, undef, undef, undef, undef, undef, undef, undef, undef, undef, undef, undef, undef, undef, undef, undef, undef, undef, undef, undef, undef, undef, undef, undef, undef, undef, undef, undef, undef, undef, undef, undef, undef, undef, undef, undef, undef, undef, undef, undef, undef, undef, undef, undef, undef, undef, undef, undef, undef, undef, undef, undef, undef, undef, undef, undef, undef, undef, undef, undef, undef, undef, undef, undef, undef, undef, undef, undef, undef, undef, undef, undef, undef, undef, undef, undef, undef, undef, undef, undef, undef, undef, undef, undef, undef, undef, undef, undef, undef, undef, undef, undef, undef, undef, undef, undef, undef, undef, undef, undef, undef, undef, undef, undef, undef, undef, undef, undef, undef, undef, undef, undef, undef, undef, undef, undef, undef, undef, undef, undef, undef, undef, undef, undef, undef, undef, undef, undef, undef, undef, undef, undef, undef, undef, undef, undef, undef, undef, undef, undef, undef, undef, undef, undef, undef, undef, undef, undef, undef, undef, undef, undef, undef, undef, undef, undef, undef, undef, undef, undef, undef, undef, undef, undef, undef, undef, undef, undef, undef, undef, undef, undef, undef, undef, undef, undef, undef, undef, undef, undef, undef, undef, undef, undef, undef] (by kernel_rfl) ?_
  have H := Hs.nil w0
  refine x_seq ?_
  refine x_region ?_
  refine x_box H #[.int .i64 rL, .int .i64 rE, .int .i64 pL, .int .i64 pE, .int .i64 room, .int .i64 hv] 80 (by kernel_rfl) rfl (by kernel_rfl) ?_
  clear H
  intro v1 g1 H
  refine x_box H #[.slice aR nR cR, .slice aP nP cP, .slice aB nB cB] 147 (by kernel_rfl) rfl (by kernel_rfl) ?_
  clear H
  intro v2 g2 H
  refine x_val (.bool false) (by kernel_rfl) rfl (by kernel_rfl) ?_
  refine x_nil ?_
  refine x_then ?_
  refine x_seq ?_
  refine x_seq ?_
  refine x_region ?_
  refine x_callB (.bool true) H (by kernel_rfl) rfl (by kernel_rfl) (anchor18 _) ?_
  clear H
  intro v3 H
  refine x_val (.bool false) (by kernel_rfl) rfl (by kernel_rfl) ?_
  refine x_nil ?_
  refine x_then ?_
  refine x_f (by kernel_rfl) ?_
  refine x_skipc ?_
  refine x_then ?_
  refine x_seq ?_
  refine x_seq ?_
  refine x_region ?_
  refine x_val (.slice aO nO cO) (by kernel_rfl) rfl (by kernel_rfl) ?_
  refine x_val (.int .i64 ((nO : Nat) : Int)) (by kernel_rfl) rfl (by kernel_rfl) ?_
  refine x_val (.bool (decide (30 < ((nO : Nat) : Int)))) (by kernel_rfl) rfl (by kernel_rfl) ?_
  refine x_val (.bool (decide (30 < ((nO : Nat) : Int)))) (by kernel_rfl) rfl (by kernel_rfl) ?_
  cases h1 : decide (30 < ((nO : Nat) : Int))
  · skip
    have h1p := of_decide_eq_false h1
    refine x_val (.slice aM nM cM) (by kernel_rfl) rfl (by kernel_rfl) ?_
    refine x_val (.int .i64 ((nM : Nat) : Int)) (by kernel_rfl) rfl (by kernel_rfl) ?_
    refine x_val (.bool (decide (30 < ((nM : Nat) : Int)))) (by kernel_rfl) rfl (by kernel_rfl) ?_
    refine x_val (.bool (decide (30 < ((nM : Nat) : Int)))) (by kernel_rfl) rfl (by kernel_rfl) ?_
    refine x_val (.bool (decide (30 < ((nM : Nat) : Int)))) (by kernel_rfl) rfl (by kernel_rfl) ?_
    cases h2 : decide (30 < ((nM : Nat) : Int))
    · skip
      have h2p := of_decide_eq_false h2
      refine x_val (.pointer (some ⟨g2, 0, none⟩)) (by kernel_rfl) rfl (by kernel_rfl) ?_
      refine x_load1 H 0 g2 0 _ _ (.slice aR nR cR) rfl (by kernel_rfl) (by kernel_rfl) rfl (by kernel_rfl) ?_
      refine x_val (.int .i64 ((nR : Nat) : Int)) (by kernel_rfl) rfl (by kernel_rfl) ?_
      refine x_val (.bool (decide (20 < ((nR : Nat) : Int)))) (by kernel_rfl) rfl (by kernel_rfl) ?_
      refine x_val (.bool (decide (20 < ((nR : Nat) : Int)))) (by kernel_rfl) rfl (by kernel_rfl) ?_
      refine x_val (.bool (decide (20 < ((nR : Nat) : Int)))) (by kernel_rfl) rfl (by kernel_rfl) ?_
      cases h3 : decide (20 < ((nR : Nat) : Int))
      · skip
        have h3p := of_decide_eq_false h3
        refine x_val (.pointer (some ⟨g2, 1, none⟩)) (by kernel_rfl) rfl (by kernel_rfl) ?_
        refine x_load1 H 0 g2 1 _ _ (.slice aP nP cP) rfl (by kernel_rfl) (by kernel_rfl) rfl (by kernel_rfl) ?_
        refine x_val (.int .i64 ((nP : Nat) : Int)) (by kernel_rfl) rfl (by kernel_rfl) ?_
        refine x_val (.bool (decide (300 < ((nP : Nat) : Int)))) (by kernel_rfl) rfl (by kernel_rfl) ?_
        refine x_val (.bool (decide (300 < ((nP : Nat) : Int)))) (by kernel_rfl) rfl (by kernel_rfl) ?_
        refine x_val (.bool (decide (300 < ((nP : Nat) : Int)))) (by kernel_rfl) rfl (by kernel_rfl) ?_
        cases h4 : decide (300 < ((nP : Nat) : Int))
        · skip
          have h4p := of_decide_eq_false h4
          refine x_val (.pointer (some ⟨g2, 2, none⟩)) (by kernel_rfl) rfl (by kernel_rfl) ?_
          refine x_load1 H 0 g2 2 _ _ (.slice aB nB cB) rfl (by kernel_rfl) (by kernel_rfl) rfl (by kernel_rfl) ?_
          refine x_val (.int .i64 ((nB : Nat) : Int)) (by kernel_rfl) rfl (by kernel_rfl) ?_
          refine x_val (.bool (decide (300 < ((nB : Nat) : Int)))) (by kernel_rfl) rfl (by kernel_rfl) ?_
          refine x_val (.bool (decide (300 < ((nB : Nat) : Int)))) (by kernel_rfl) rfl (by kernel_rfl) ?_
          refine x_nil ?_
          refine x_then ?_
          cases h5 : decide (300 < ((nB : Nat) : Int))
          · skip
            have h5p := of_decide_eq_false h5
            exfalso; omega
          · skip
            have h5p := of_decide_eq_true h5
            refine x_t (by kernel_rfl) ?_
            refine x_seq ?_
            refine x_region ?_
            refine x_val (.bool true) (by kernel_rfl) rfl (by kernel_rfl) ?_
            refine x_nil ?_
            refine x_then ?_
            refine x_retc ?_
            refine x_then_ret ?_
            refine x_ret (.bool true) (by kernel_rfl) (by kernel_rfl) ?_
            exact ⟨rfl, H.below⟩
        · skip
          have h4p := of_decide_eq_true h4
          refine x_skip (by kernel_rfl) ?_
          refine x_skip (by kernel_rfl) ?_
          refine x_skip (by kernel_rfl) ?_
          refine x_skip (by kernel_rfl) ?_
          refine x_val (.bool true) (by kernel_rfl) rfl (by kernel_rfl) ?_
          refine x_nil ?_
          refine x_then ?_
          refine x_t (by kernel_rfl) ?_
          refine x_seq ?_
          refine x_region ?_
          refine x_val (.bool true) (by kernel_rfl) rfl (by kernel_rfl) ?_
          refine x_nil ?_
          refine x_then ?_
          refine x_retc ?_
          refine x_then_ret ?_
          refine x_ret (.bool true) (by kernel_rfl) (by kernel_rfl) ?_
          exact ⟨rfl, H.below⟩
      · skip
        have h3p := of_decide_eq_true h3
        refine x_skip (by kernel_rfl) ?_
        refine x_skip (by kernel_rfl) ?_
        refine x_skip (by kernel_rfl) ?_
        refine x_skip (by kernel_rfl) ?_
        refine x_val (.bool true) (by kernel_rfl) rfl (by kernel_rfl) ?_
        refine x_val (.bool true) (by kernel_rfl) rfl (by kernel_rfl) ?_
        refine x_skip (by kernel_rfl) ?_
        refine x_skip (by kernel_rfl) ?_
        refine x_skip (by kernel_rfl) ?_
        refine x_skip (by kernel_rfl) ?_
        refine x_val (.bool true) (by kernel_rfl) rfl (by kernel_rfl) ?_
        refine x_nil ?_
        refine x_then ?_
        refine x_t (by kernel_rfl) ?_
        refine x_seq ?_
        refine x_region ?_
        refine x_val (.bool true) (by kernel_rfl) rfl (by kernel_rfl) ?_
        refine x_nil ?_
        refine x_then ?_
        refine x_retc ?_
        refine x_then_ret ?_
        refine x_ret (.bool true) (by kernel_rfl) (by kernel_rfl) ?_
        exact ⟨rfl, H.below⟩
    · skip
      have h2p := of_decide_eq_true h2
      refine x_skip (by kernel_rfl) ?_
      refine x_skip (by kernel_rfl) ?_
      refine x_skip (by kernel_rfl) ?_
      refine x_skip (by kernel_rfl) ?_
      refine x_val (.bool true) (by kernel_rfl) rfl (by kernel_rfl) ?_
      refine x_val (.bool true) (by kernel_rfl) rfl (by kernel_rfl) ?_
      refine x_skip (by kernel_rfl) ?_
      refine x_skip (by kernel_rfl) ?_
      refine x_skip (by kernel_rfl) ?_
      refine x_skip (by kernel_rfl) ?_
      refine x_val (.bool true) (by kernel_rfl) rfl (by kernel_rfl) ?_
      refine x_val (.bool true) (by kernel_rfl) rfl (by kernel_rfl) ?_
      refine x_skip (by kernel_rfl) ?_
      refine x_skip (by kernel_rfl) ?_
      refine x_skip (by kernel_rfl) ?_
      refine x_skip (by kernel_rfl) ?_
      refine x_val (.bool true) (by kernel_rfl) rfl (by kernel_rfl) ?_
      refine x_nil ?_
      refine x_then ?_
      refine x_t (by kernel_rfl) ?_
      refine x_seq ?_
      refine x_region ?_
      refine x_val (.bool true) (by kernel_rfl) rfl (by kernel_rfl) ?_
      refine x_nil ?_
      refine x_then ?_
      refine x_retc ?_
      refine x_then_ret ?_
      refine x_ret (.bool true) (by kernel_rfl) (by kernel_rfl) ?_
      exact ⟨rfl, H.below⟩
  · skip
    have h1p := of_decide_eq_true h1
    refine x_skip (by kernel_rfl) ?_
    refine x_skip (by kernel_rfl) ?_
    refine x_skip (by kernel_rfl) ?_
    refine x_val (.bool true) (by kernel_rfl) rfl (by kernel_rfl) ?_
    refine x_val (.bool true) (by kernel_rfl) rfl (by kernel_rfl) ?_
    refine x_skip (by kernel_rfl) ?_
    refine x_skip (by kernel_rfl) ?_
    refine x_skip (by kernel_rfl) ?_
    refine x_skip (by kernel_rfl) ?_
    refine x_val (.bool true) (by kernel_rfl) rfl (by kernel_rfl) ?_
    refine x_val (.bool true) (by kernel_rfl) rfl (by kernel_rfl) ?_
    refine x_skip (by kernel_rfl) ?_
    refine x_skip (by kernel_rfl) ?_
    refine x_skip (by kernel_rfl) ?_
    refine x_skip (by kernel_rfl) ?_
    refine x_val (.bool true) (by kernel_rfl) rfl (by kernel_rfl) ?_
    refine x_val (.bool true) (by kernel_rfl) rfl (by kernel_rfl) ?_
    refine x_skip (by kernel_rfl) ?_
    refine x_skip (by kernel_rfl) ?_
    refine x_skip (by kernel_rfl) ?_
    refine x_skip (by kernel_rfl) ?_
    refine x_val (.bool true) (by kernel_rfl) rfl (by kernel_rfl) ?_
    refine x_nil ?_
    refine x_then ?_
    refine x_t (by kernel_rfl) ?_
    refine x_seq ?_
    refine x_region ?_
    refine x_val (.bool true) (by kernel_rfl) rfl (by kernel_rfl) ?_
    refine x_nil ?_
    refine x_then ?_
    refine x_retc ?_
    refine x_then_ret ?_
    refine x_ret (.bool true) (by kernel_rfl) (by kernel_rfl) ?_
    exact ⟨rfl, H.below⟩

set_option maxRecDepth 100000 in
set_option maxHeartbeats 4000000 in
theorem rest_rules (rL rE pL pE hv room rk : Int) (aO aM aR aP aB : Option Addr) (nO nM nR nP nB cO cM cR cP cB : Nat) (hl1 : nO ≤ 30) (hl2 : nM ≤ 30) (hl3 : nR ≤ 20) (hl4 : nP ≤ 300) (hl5 : nB ≤ 300) (hb : ¬ Rul rL rE pL pE room hv) (w0 : World) :
    Calls Try.prog 13 #[.agg #[.int .i64 rL, .int .i64 rE, .int .i64 pL, .int .i64 pE, .int .i64 room, .int .i64 hv], .int .i64 rk, .slice aO nO cO, .slice aM nM cM, .agg #[.slice aR nR cR, .slice aP nP cP, .slice aB nB cB]] w0 fun e w' => e = .returned (.bool true) ∧ Below w0.heap.size w0 w' := by
  refine x_enter Try.func13 rfl #[.agg #[.int .i64 rL, .int .i64 rE, .int .i64 pL, .int .i64 pE, .int .i64 room, .int .i64 hv], .int .i64 rk, .slice aO nO cO, .slice aM nM cM, .agg #[.slice aR nR cR, .slice aP nP cP, .slice aB nB cB], undef, undef, undef, undef, undef, undef, undef, undef, undef, undef, undef, undef, undef, undef, undef, undef, undef, undef, undef, undef, undef, undef, undef, undef, undef, undef, undef, undef, undef, undef, undef, undef, undef, undef, undef, undef, undef, undef, undef, undef, undef, undef, undef, undef, undef, undef, undef, undef, undef, undef, undef, undef, undef, undef, undef, undef, undef, undef, undef, undef, undef, undef, undef, undef, undef, undef, undef, undef, undef, undef, undef, undef, undef, undef, undef, undef, undef, undef, undef, undef, undef, undef, undef, undef, undef, undef, undef, undef, undef, undef, undef, undef, undef, undef, undef, undef, undef, undef, undef, undef, undef, undef, undef, undef, undef, undef, undef, undef, undef, undef, undef, undef, undef, undef, undef, undef, undef, undef, undef, undef, undef, undef, undef, undef, undef, undef, undef, undef, undef, undef, undef, undef, undef, undef, undef, undef, undef, undef, undef, undef, undef, undef, undef, undef, undef, undef, undef, undef, undef, undef, undef, undef, undef, undef, undef, undef, undef, undef, undef, undef, undef, undef, undef, undef, undef, undef, undef, undef, undef, undef, undef, undef, undef, undef, undef, undef, undef, undef, undef, undef, undef, undef, undef, undef, undef, undef, undef, undef, undef, undef, undef, undef, undef, undef, undef, undef, undef, undef, undef] (by kernel_rfl) ?_
  have H := Hs.nil w0
  have ql0 : decide (30 < ((nO : Nat) : Int)) = false := decide_eq_false (by omega)
  have ql1 : decide (30 < ((nM : Nat) : Int)) = false := decide_eq_false (by omega)
  have ql2 : decide (20 < ((nR : Nat) : Int)) = false := decide_eq_false (by omega)
  have ql3 : decide (300 < ((nP : Nat) : Int)) = false := decide_eq_false (by omega)
  have ql4 : decide (300 < ((nB : Nat) : Int)) = false := decide_eq_false (by omega)
  refine x_seq ?_
  refine x_region ?_
  refine x_box H #[.int .i64 rL, .int .i64 rE, .int .i64 pL, .int .i64 pE, .int .i64 room, .int .i64 hv] 80 (by kernel_rfl) rfl (by kernel_rfl) ?_
  clear H
  intro v1 g1 H
  refine x_box H #[.slice aR nR cR, .slice aP nP cP, .slice aB nB cB] 147 (by kernel_rfl) rfl (by kernel_rfl) ?_
  clear H
  intro v2 g2 H
  refine x_val (.bool false) (by kernel_rfl) rfl (by kernel_rfl) ?_
  refine x_nil ?_
  refine x_then ?_
  refine x_seq ?_
  refine x_seq ?_
  refine x_region ?_
  refine x_callB (.bool true) H (by kernel_rfl) rfl (by kernel_rfl) (anchor18 _) ?_
  clear H
  intro v3 H
  refine x_val (.bool false) (by kernel_rfl) rfl (by kernel_rfl) ?_
  refine x_nil ?_
  refine x_then ?_
  refine x_f (by kernel_rfl) ?_
  refine x_skipc ?_
  refine x_then ?_
  refine x_seq ?_
  refine x_seq ?_
  refine x_region ?_
  refine x_val (.slice aO nO cO) (by kernel_rfl) rfl (by kernel_rfl) ?_
  refine x_val (.int .i64 ((nO : Nat) : Int)) (by kernel_rfl) rfl (by kernel_rfl) ?_
  refine x_val (.bool (decide (30 < ((nO : Nat) : Int)))) (by kernel_rfl) rfl (by kernel_rfl) ?_
  refine x_val (.bool (decide (30 < ((nO : Nat) : Int)))) (by kernel_rfl) rfl (by kernel_rfl) ?_
  rw [ql0]
  refine x_val (.slice aM nM cM) (by kernel_rfl) rfl (by kernel_rfl) ?_
  refine x_val (.int .i64 ((nM : Nat) : Int)) (by kernel_rfl) rfl (by kernel_rfl) ?_
  refine x_val (.bool (decide (30 < ((nM : Nat) : Int)))) (by kernel_rfl) rfl (by kernel_rfl) ?_
  refine x_val (.bool (decide (30 < ((nM : Nat) : Int)))) (by kernel_rfl) rfl (by kernel_rfl) ?_
  refine x_val (.bool (decide (30 < ((nM : Nat) : Int)))) (by kernel_rfl) rfl (by kernel_rfl) ?_
  rw [ql1]
  refine x_val (.pointer (some ⟨g2, 0, none⟩)) (by kernel_rfl) rfl (by kernel_rfl) ?_
  refine x_load1 H 0 g2 0 _ _ (.slice aR nR cR) rfl (by kernel_rfl) (by kernel_rfl) rfl (by kernel_rfl) ?_
  refine x_val (.int .i64 ((nR : Nat) : Int)) (by kernel_rfl) rfl (by kernel_rfl) ?_
  refine x_val (.bool (decide (20 < ((nR : Nat) : Int)))) (by kernel_rfl) rfl (by kernel_rfl) ?_
  refine x_val (.bool (decide (20 < ((nR : Nat) : Int)))) (by kernel_rfl) rfl (by kernel_rfl) ?_
  refine x_val (.bool (decide (20 < ((nR : Nat) : Int)))) (by kernel_rfl) rfl (by kernel_rfl) ?_
  rw [ql2]
  refine x_val (.pointer (some ⟨g2, 1, none⟩)) (by kernel_rfl) rfl (by kernel_rfl) ?_
  refine x_load1 H 0 g2 1 _ _ (.slice aP nP cP) rfl (by kernel_rfl) (by kernel_rfl) rfl (by kernel_rfl) ?_
  refine x_val (.int .i64 ((nP : Nat) : Int)) (by kernel_rfl) rfl (by kernel_rfl) ?_
  refine x_val (.bool (decide (300 < ((nP : Nat) : Int)))) (by kernel_rfl) rfl (by kernel_rfl) ?_
  refine x_val (.bool (decide (300 < ((nP : Nat) : Int)))) (by kernel_rfl) rfl (by kernel_rfl) ?_
  refine x_val (.bool (decide (300 < ((nP : Nat) : Int)))) (by kernel_rfl) rfl (by kernel_rfl) ?_
  rw [ql3]
  refine x_val (.pointer (some ⟨g2, 2, none⟩)) (by kernel_rfl) rfl (by kernel_rfl) ?_
  refine x_load1 H 0 g2 2 _ _ (.slice aB nB cB) rfl (by kernel_rfl) (by kernel_rfl) rfl (by kernel_rfl) ?_
  refine x_val (.int .i64 ((nB : Nat) : Int)) (by kernel_rfl) rfl (by kernel_rfl) ?_
  refine x_val (.bool (decide (300 < ((nB : Nat) : Int)))) (by kernel_rfl) rfl (by kernel_rfl) ?_
  refine x_val (.bool (decide (300 < ((nB : Nat) : Int)))) (by kernel_rfl) rfl (by kernel_rfl) ?_
  refine x_nil ?_
  refine x_then ?_
  rw [ql4]
  refine x_f (by kernel_rfl) ?_
  refine x_skipc ?_
  refine x_then ?_
  refine x_seq ?_
  refine x_region ?_
  refine x_loadn (t := 80) H 1 g1 0 _ _ [.int .i64 rL, .int .i64 rE, .int .i64 pL, .int .i64 pE, .int .i64 room, .int .i64 hv] rfl (by kernel_rfl) (by kernel_rfl) rfl (by kernel_rfl) (by kernel_rfl) ?_
  refine x_loadn (t := 147) H 0 g2 0 _ _ [.slice aR nR cR, .slice aP nP cP, .slice aB nB cB] rfl (by kernel_rfl) (by kernel_rfl) rfl (by kernel_rfl) (by kernel_rfl) ?_
  refine x_callB (.tuple #[.pointer none, .int .i64 22]) H (by kernel_rfl) rfl (by kernel_rfl) (TRes_rules rL rE pL pE hv room aR aP aB nR nP nB cR cP cB hb _) ?_
  clear H
  intro v4 H
  refine x_val (.tuple #[.pointer none, .int .i64 22]) (by kernel_rfl) rfl (by kernel_rfl) ?_
  refine x_val (.pointer none) (by kernel_rfl) rfl (by kernel_rfl) ?_
  refine x_val (.int .i64 22) (by kernel_rfl) rfl (by kernel_rfl) ?_
  refine x_val (.pointer none) (by kernel_rfl) rfl (by kernel_rfl) ?_
  refine x_val (.int .i64 22) (by kernel_rfl) rfl (by kernel_rfl) ?_
  refine x_nil ?_
  refine x_then ?_
  refine x_seq ?_
  refine x_seq ?_
  refine x_region ?_
  refine x_loadn (t := 80) H 1 g1 0 _ _ [.int .i64 rL, .int .i64 rE, .int .i64 pL, .int .i64 pE, .int .i64 room, .int .i64 hv] rfl (by kernel_rfl) (by kernel_rfl) rfl (by kernel_rfl) (by kernel_rfl) ?_
  refine x_callB (.bool false) H (by kernel_rfl) rfl (by kernel_rfl) (RulRight_no rL rE pL pE hv room hb _) ?_
  clear H
  intro v5 H
  refine x_val (.bool true) (by kernel_rfl) rfl (by kernel_rfl) ?_
  refine x_nil ?_
  refine x_then ?_
  refine x_t (by kernel_rfl) ?_
  refine x_seq ?_
  refine x_region ?_
  refine x_val (.int .i64 22) (by kernel_rfl) rfl (by kernel_rfl) ?_
  refine x_val (.bool true) (by kernel_rfl) rfl (by kernel_rfl) ?_
  refine x_val (.bool true) (by kernel_rfl) rfl (by kernel_rfl) ?_
  refine x_val (.pointer none) (by kernel_rfl) rfl (by kernel_rfl) ?_
  refine x_val (.bool true) (by kernel_rfl) rfl (by kernel_rfl) ?_
  refine x_val (.bool true) (by kernel_rfl) rfl (by kernel_rfl) ?_
  refine x_val (.bool true) (by kernel_rfl) rfl (by kernel_rfl) ?_
  refine x_nil ?_
  refine x_then ?_
  refine x_retc ?_
  refine x_then_ret ?_
  refine x_ret (.bool true) (by kernel_rfl) (by kernel_rfl) ?_
  exact ⟨rfl, H.below⟩

set_option maxRecDepth 100000 in
set_option maxHeartbeats 4000000 in
theorem rest_in (rL rE pL pE hv rk : Int) (room : Nat) (aO aM aR aP aB : Option Addr) (nO nM nR nP nB cO cM cR cP cB : Nat) (hl1 : nO ≤ 30) (hl2 : nM ≤ 30) (hl3 : nR ≤ 20) (hl4 : nP ≤ 300) (hl5 : nB ≤ 300) (lR : List Buk) (lP : List Int) (lB : List Buk) (lO lM : List Int4) (hlR : lR.length = nR) (hcP : nP ≤ cP) (fit : Bool) (hfit : fit = true ↔ FitT room rE pE lR lP lB nR nP nB) (hb : Rul rL rE pL pE ((room : Nat) : Int) hv) (w0 : World) (hO : RAt int4L 4 (0, 0, 0, 0) w0 aO nO lO) (hM : RAt int4L 4 (0, 0, 0, 0) w0 aM nM lM) (hAR : RAt bukL 2 (0, 0) w0 aR nR lR) (hAP : RAt intL 1 0 w0 aP nP lP) (hAB : RAt bukL 2 (0, 0) w0 aB nB lB) :
    Calls Try.prog 13 #[.agg #[.int .i64 rL, .int .i64 rE, .int .i64 pL, .int .i64 pE, .int .i64 ((room : Nat) : Int), .int .i64 hv], .int .i64 rk, .slice aO nO cO, .slice aM nM cM, .agg #[.slice aR nR cR, .slice aP nP cP, .slice aB nB cB]] w0 fun e w' => e = .returned (.bool true) ∧ Below w0.heap.size w0 w' := by
  refine x_enter Try.func13 rfl #[.agg #[.int .i64 rL, .int .i64 rE, .int .i64 pL, .int .i64 pE, .int .i64 ((room : Nat) : Int), .int .i64 hv], .int .i64 rk, .slice aO nO cO, .slice aM nM cM, .agg #[.slice aR nR cR, .slice aP nP cP, .slice aB nB cB], undef, undef, undef, undef, undef, undef, undef, undef, undef, undef, undef, undef, undef, undef, undef, undef, undef, undef, undef, undef, undef, undef, undef, undef, undef, undef, undef, undef, undef, undef, undef, undef, undef, undef, undef, undef, undef, undef, undef, undef, undef, undef, undef, undef, undef, undef, undef, undef, undef, undef, undef, undef, undef, undef, undef, undef, undef, undef, undef, undef, undef, undef, undef, undef, undef, undef, undef, undef, undef, undef, undef, undef, undef, undef, undef, undef, undef, undef, undef, undef, undef, undef, undef, undef, undef, undef, undef, undef, undef, undef, undef, undef, undef, undef, undef, undef, undef, undef, undef, undef, undef, undef, undef, undef, undef, undef, undef, undef, undef, undef, undef, undef, undef, undef, undef, undef, undef, undef, undef, undef, undef, undef, undef, undef, undef, undef, undef, undef, undef, undef, undef, undef, undef, undef, undef, undef, undef, undef, undef, undef, undef, undef, undef, undef, undef, undef, undef, undef, undef, undef, undef, undef, undef, undef, undef, undef, undef, undef, undef, undef, undef, undef, undef, undef, undef, undef, undef, undef, undef, undef, undef, undef, undef, undef, undef, undef, undef, undef, undef, undef, undef, undef, undef, undef, undef, undef, undef, undef, undef, undef, undef, undef, undef, undef, undef, undef, undef, undef, undef] (by kernel_rfl) ?_
  have H := Hs.nil w0
  have ql0 : decide (30 < ((nO : Nat) : Int)) = false := decide_eq_false (by omega)
  have ql1 : decide (30 < ((nM : Nat) : Int)) = false := decide_eq_false (by omega)
  have ql2 : decide (20 < ((nR : Nat) : Int)) = false := decide_eq_false (by omega)
  have ql3 : decide (300 < ((nP : Nat) : Int)) = false := decide_eq_false (by omega)
  have ql4 : decide (300 < ((nB : Nat) : Int)) = false := decide_eq_false (by omega)
  refine x_seq ?_
  refine x_region ?_
  refine x_box H #[.int .i64 rL, .int .i64 rE, .int .i64 pL, .int .i64 pE, .int .i64 ((room : Nat) : Int), .int .i64 hv] 80 (by kernel_rfl) rfl (by kernel_rfl) ?_
  clear H
  intro v1 g1 H
  refine x_box H #[.slice aR nR cR, .slice aP nP cP, .slice aB nB cB] 147 (by kernel_rfl) rfl (by kernel_rfl) ?_
  clear H
  intro v2 g2 H
  refine x_val (.bool false) (by kernel_rfl) rfl (by kernel_rfl) ?_
  refine x_nil ?_
  refine x_then ?_
  refine x_seq ?_
  refine x_seq ?_
  refine x_region ?_
  refine x_callB (.bool true) H (by kernel_rfl) rfl (by kernel_rfl) (anchor18 _) ?_
  clear H
  intro v3 H
  refine x_val (.bool false) (by kernel_rfl) rfl (by kernel_rfl) ?_
  refine x_nil ?_
  refine x_then ?_
  refine x_f (by kernel_rfl) ?_
  refine x_skipc ?_
  refine x_then ?_
  refine x_seq ?_
  refine x_seq ?_
  refine x_region ?_
  refine x_val (.slice aO nO cO) (by kernel_rfl) rfl (by kernel_rfl) ?_
  refine x_val (.int .i64 ((nO : Nat) : Int)) (by kernel_rfl) rfl (by kernel_rfl) ?_
  refine x_val (.bool (decide (30 < ((nO : Nat) : Int)))) (by kernel_rfl) rfl (by kernel_rfl) ?_
  refine x_val (.bool (decide (30 < ((nO : Nat) : Int)))) (by kernel_rfl) rfl (by kernel_rfl) ?_
  rw [ql0]
  refine x_val (.slice aM nM cM) (by kernel_rfl) rfl (by kernel_rfl) ?_
  refine x_val (.int .i64 ((nM : Nat) : Int)) (by kernel_rfl) rfl (by kernel_rfl) ?_
  refine x_val (.bool (decide (30 < ((nM : Nat) : Int)))) (by kernel_rfl) rfl (by kernel_rfl) ?_
  refine x_val (.bool (decide (30 < ((nM : Nat) : Int)))) (by kernel_rfl) rfl (by kernel_rfl) ?_
  refine x_val (.bool (decide (30 < ((nM : Nat) : Int)))) (by kernel_rfl) rfl (by kernel_rfl) ?_
  rw [ql1]
  refine x_val (.pointer (some ⟨g2, 0, none⟩)) (by kernel_rfl) rfl (by kernel_rfl) ?_
  refine x_load1 H 0 g2 0 _ _ (.slice aR nR cR) rfl (by kernel_rfl) (by kernel_rfl) rfl (by kernel_rfl) ?_
  refine x_val (.int .i64 ((nR : Nat) : Int)) (by kernel_rfl) rfl (by kernel_rfl) ?_
  refine x_val (.bool (decide (20 < ((nR : Nat) : Int)))) (by kernel_rfl) rfl (by kernel_rfl) ?_
  refine x_val (.bool (decide (20 < ((nR : Nat) : Int)))) (by kernel_rfl) rfl (by kernel_rfl) ?_
  refine x_val (.bool (decide (20 < ((nR : Nat) : Int)))) (by kernel_rfl) rfl (by kernel_rfl) ?_
  rw [ql2]
  refine x_val (.pointer (some ⟨g2, 1, none⟩)) (by kernel_rfl) rfl (by kernel_rfl) ?_
  refine x_load1 H 0 g2 1 _ _ (.slice aP nP cP) rfl (by kernel_rfl) (by kernel_rfl) rfl (by kernel_rfl) ?_
  refine x_val (.int .i64 ((nP : Nat) : Int)) (by kernel_rfl) rfl (by kernel_rfl) ?_
  refine x_val (.bool (decide (300 < ((nP : Nat) : Int)))) (by kernel_rfl) rfl (by kernel_rfl) ?_
  refine x_val (.bool (decide (300 < ((nP : Nat) : Int)))) (by kernel_rfl) rfl (by kernel_rfl) ?_
  refine x_val (.bool (decide (300 < ((nP : Nat) : Int)))) (by kernel_rfl) rfl (by kernel_rfl) ?_
  rw [ql3]
  refine x_val (.pointer (some ⟨g2, 2, none⟩)) (by kernel_rfl) rfl (by kernel_rfl) ?_
  refine x_load1 H 0 g2 2 _ _ (.slice aB nB cB) rfl (by kernel_rfl) (by kernel_rfl) rfl (by kernel_rfl) ?_
  refine x_val (.int .i64 ((nB : Nat) : Int)) (by kernel_rfl) rfl (by kernel_rfl) ?_
  refine x_val (.bool (decide (300 < ((nB : Nat) : Int)))) (by kernel_rfl) rfl (by kernel_rfl) ?_
  refine x_val (.bool (decide (300 < ((nB : Nat) : Int)))) (by kernel_rfl) rfl (by kernel_rfl) ?_
  refine x_nil ?_
  refine x_then ?_
  rw [ql4]
  refine x_f (by kernel_rfl) ?_
  refine x_skipc ?_
  refine x_then ?_
  refine x_span7 (fun a w' => ∃ uf1 : Nat → Value, a = { tmps := #[.agg #[.int .i64 rL, .int .i64 rE, .int .i64 pL, .int .i64 pE, .int .i64 ((room : Nat) : Int), .int .i64 hv], .int .i64 rk, .slice aO nO cO, .slice aM nM cM, .agg #[.slice aR nR cR, .slice aP nP cP, .slice aB nB cB], .pointer (some ⟨g1, 0, none⟩), undef, undef, undef, .pointer (some ⟨g2, 0, none⟩), (uf1 0), (uf1 1), (uf1 2), (uf1 3), undef, (uf1 4), undef, (uf1 5), (uf1 6), (uf1 7), undef, (uf1 8), undef, undef, undef, undef, .bool true, .bool false, .slice aO nO cO, .int .i64 ((nO : Nat) : Int), .bool false, .bool false, .slice aM nM cM, .int .i64 ((nM : Nat) : Int), .bool false, .bool false, .bool false, .pointer (some ⟨g2, 0, none⟩), .slice aR nR cR, .int .i64 ((nR : Nat) : Int), .bool false, .bool false, .bool false, .pointer (some ⟨g2, 1, none⟩), .slice aP nP cP, .int .i64 ((nP : Nat) : Int), .bool false, .bool false, .bool false, .pointer (some ⟨g2, 2, none⟩), .slice aB nB cB, .int .i64 ((nB : Nat) : Int), .bool false, .bool false, (uf1 9), (uf1 10), (uf1 11), (uf1 12), (uf1 13), (uf1 14), (uf1 15), (uf1 16), (uf1 17), (uf1 18), (uf1 19), (uf1 20), (uf1 21), (uf1 22), (uf1 23), (uf1 24), (uf1 25), (uf1 26), (uf1 27), (uf1 28), (uf1 29), (uf1 30), (uf1 31), (uf1 32), (uf1 33), (uf1 34), (uf1 35), (uf1 36), (uf1 37), (uf1 38), (uf1 39), (uf1 40), (uf1 41), (uf1 42), (uf1 43), (uf1 44), (uf1 45), (uf1 46), (uf1 47), (uf1 48), (uf1 49), (uf1 50), (uf1 51), (uf1 52), (uf1 53), (uf1 54), (uf1 55), (uf1 56), (uf1 57), (uf1 58), (uf1 59), (uf1 60), (uf1 61), (uf1 62), (uf1 63), (uf1 64), (uf1 65), (uf1 66), (uf1 67), (uf1 68), (uf1 69), (uf1 70), (uf1 71), (uf1 72), (uf1 73), (uf1 74), (uf1 75), (uf1 76), (uf1 77), (uf1 78), (uf1 79), (uf1 80), (uf1 81), (uf1 82), (uf1 83), (uf1 84), (uf1 85), (uf1 86), (uf1 87), (uf1 88), (uf1 89), (uf1 90), (uf1 91), (uf1 92), (uf1 93), (uf1 94), (uf1 95), (uf1 96), (uf1 97), (uf1 98), (uf1 99), (uf1 100), (uf1 101), (uf1 102), (uf1 103), (uf1 104), (uf1 105), (uf1 106), (uf1 107), (uf1 108), (uf1 109), (uf1 110), (uf1 111), (uf1 112), (uf1 113), (uf1 114), (uf1 115), (uf1 116), (uf1 117), (uf1 118), (uf1 119), (uf1 120), (uf1 121), (uf1 122), (uf1 123), undef, undef, undef, undef, undef, undef, undef, undef, undef, undef, undef, undef, undef, undef, undef, undef, undef, undef, undef, undef, undef, undef, undef, undef, undef, undef, undef, undef, undef, undef, undef, undef, undef, undef, undef], defers := [] } ∧ Hs [] w0 w' [.blk g1 #[.int .i64 rL, .int .i64 rE, .int .i64 pL, .int .i64 pE, .int .i64 ((room : Nat) : Int), .int .i64 hv] 80, .blk g2 #[.slice aR nR cR, .slice aP nP cP, .slice aB nB cB] 147]) ?_ (fun hSp1 => ?_)
  · skip
    clear H
    rintro _ v4 ⟨uf1, rfl, H⟩
    refine x_seq ?_
    refine x_region ?_
    refine x_loadn (t := 80) H 0 g1 0 _ _ [.int .i64 rL, .int .i64 rE, .int .i64 pL, .int .i64 pE, .int .i64 ((room : Nat) : Int), .int .i64 hv] rfl (by kernel_rfl) (by kernel_rfl) rfl (by kernel_rfl) (by kernel_rfl) ?_
    refine x_val (.int .i64 rk) (by kernel_rfl) rfl (by kernel_rfl) ?_
    cases h1 : decide (1 ≤ rk ∧ rk ≤ 8)
    · skip
      have h1p := of_decide_eq_false h1
      refine x_callB (.tuple #[.pointer none, .int .i64 12]) H (by kernel_rfl) rfl (by kernel_rfl) (TkNew_rng rL rE pL pE ((room : Nat) : Int) hv rk hb (by omega) _) ?_
      clear H
      intro v5 H
      refine x_val (.tuple #[.pointer none, .int .i64 12]) (by kernel_rfl) rfl (by kernel_rfl) ?_
      refine x_val (.pointer none) (by kernel_rfl) rfl (by kernel_rfl) ?_
      refine x_val (.int .i64 12) (by kernel_rfl) rfl (by kernel_rfl) ?_
      refine x_val (.pointer none) (by kernel_rfl) rfl (by kernel_rfl) ?_
      refine x_val (.int .i64 12) (by kernel_rfl) rfl (by kernel_rfl) ?_
      refine x_nil ?_
      refine x_then ?_
      refine x_seq ?_
      refine x_seq ?_
      refine x_region ?_
      refine x_val (.int .i64 12) (by kernel_rfl) rfl (by kernel_rfl) ?_
      refine x_val (.bool true) (by kernel_rfl) rfl (by kernel_rfl) ?_
      refine x_nil ?_
      refine x_then ?_
      refine x_t (by kernel_rfl) ?_
      refine x_seq ?_
      refine x_region ?_
      refine x_val (.bool true) (by kernel_rfl) rfl (by kernel_rfl) ?_
      refine x_nil ?_
      refine x_then ?_
      refine x_retc ?_
      refine x_then_ret ?_
      refine x_ret (.bool true) (by kernel_rfl) (by kernel_rfl) ?_
      exact ⟨rfl, H.below⟩
    · skip
      have h1p := of_decide_eq_true h1
      obtain ⟨ranks, rfl⟩ := Int.eq_ofNat_of_zero_le (show 0 ≤ rk by omega)
      refine x_call (by kernel_rfl) rfl (by kernel_rfl) (TkNew_yes rL rE pL pE hv room ranks hb (by omega) (by omega) _) ?_
      rintro _ v6 ⟨p, gr, t, rfl, hN'⟩
      refine ⟨_, rfl, ?_⟩
      replace H := H.more hN'
      clear hN'
      replace H : Hs [] w0 _ [.blk p #[.int .i64 rL, .int .i64 rE, .int .i64 pL, .int .i64 pE, .int .i64 ((room : Nat) : Int), .int .i64 hv, .slice (some ⟨gr, 0, none⟩) ranks ranks, .pointer (some ⟨t, 0, none⟩)] 187, .row (.slice (some ⟨gr, 0, none⟩) ranks ranks) 86 2 ranks (List.flatMap bukL (List.replicate ranks (0, 0))), .blk t #[.slice none 0 0, .int .i64 ((room : Nat) : Int), .func (.func 103) #[] #[]] 228, .row (.slice none 0 0) 230 3 (List.length ([] : List PairB)) (List.flatMap pairLB ([] : List PairB)), .blk g1 #[.int .i64 rL, .int .i64 rE, .int .i64 pL, .int .i64 pE, .int .i64 ((room : Nat) : Int), .int .i64 hv] 80, .blk g2 #[.slice aR nR cR, .slice aP nP cP, .slice aB nB cB] 147] := H
      have hP : TP ranks room rL rE pL pE := ⟨hb.1, hb.2.1, ⟨by have := hb.2.2.1; omega, by omega⟩, ⟨by have := hb.2.2.1; omega, by omega⟩⟩
      have hm := hP.m
      have hk0 := TOk.new hP
      have hk1 := hk0.play hP lO nO
      have hu1 := UnlB.nil.play (ranks := ranks) (room := room) (rE := rE) (pE := pE) (rs := List.replicate ranks (0, 0)) lO nO
      have hk2 := hk1.play hP lM nM
      have hm1 := hk1.m
      have hm2 := hk2.m
      refine x_val (.tuple #[.pointer (some ⟨p, 0, none⟩), .int .i64 0]) (by kernel_rfl) rfl (by kernel_rfl) ?_
      refine x_val (.pointer (some ⟨p, 0, none⟩)) (by kernel_rfl) rfl (by kernel_rfl) ?_
      refine x_val (.int .i64 0) (by kernel_rfl) rfl (by kernel_rfl) ?_
      refine x_val (.pointer (some ⟨p, 0, none⟩)) (by kernel_rfl) rfl (by kernel_rfl) ?_
      refine x_val (.int .i64 0) (by kernel_rfl) rfl (by kernel_rfl) ?_
      refine x_nil ?_
      refine x_then ?_
      refine x_seq ?_
      refine x_seq ?_
      refine x_region ?_
      refine x_val (.int .i64 0) (by kernel_rfl) rfl (by kernel_rfl) ?_
      refine x_val (.bool false) (by kernel_rfl) rfl (by kernel_rfl) ?_
      refine x_nil ?_
      refine x_then ?_
      refine x_f (by kernel_rfl) ?_
      refine x_skipc ?_
      refine x_then ?_
      refine x_seq ?_
      refine x_region ?_
      refine x_val (.pointer (some ⟨p, 0, none⟩)) (by kernel_rfl) rfl (by kernel_rfl) ?_
      refine x_val (.slice aO nO cO) (by kernel_rfl) rfl (by kernel_rfl) ?_
      refine x_call (by kernel_rfl) rfl (by kernel_rfl) (Hs.useE (A := [.blk p #[.int .i64 rL, .int .i64 rE, .int .i64 pL, .int .i64 pE, .int .i64 ((room : Nat) : Int), .int .i64 hv, .slice (some ⟨gr, 0, none⟩) ranks ranks, .pointer (some ⟨t, 0, none⟩)] 187, .row (.slice (some ⟨gr, 0, none⟩) ranks ranks) 86 2 ranks (List.flatMap bukL (List.replicate ranks (0, 0))), .blk t #[.slice none 0 0, .int .i64 ((room : Nat) : Int), .func (.func 103) #[] #[]] 228, .row (.slice none 0 0) 230 3 (List.length ([] : List PairB)) (List.flatMap pairLB ([] : List PairB))]) (R := [.blk g1 #[.int .i64 rL, .int .i64 rE, .int .i64 pL, .int .i64 pE, .int .i64 ((room : Nat) : Int), .int .i64 hv] 80, .blk g2 #[.slice aR nR cR, .slice aP nP cP, .slice aB nB cB] 147]) (fun svu1 => [.blk p #[.int .i64 rL, .int .i64 rE, .int .i64 pL, .int .i64 pE, .int .i64 ((room : Nat) : Int), .int .i64 hv, .slice (some ⟨gr, 0, none⟩) ranks ranks, .pointer (some ⟨t, 0, none⟩)] 187, .row (.slice (some ⟨gr, 0, none⟩) ranks ranks) 86 2 ranks (List.flatMap bukL ((playT ranks room rE pE lO (List.replicate ranks (0, 0), []) nO).1)), .blk t #[svu1, .int .i64 ((room : Nat) : Int), .func (.func 103) #[] #[]] 228, .row (svu1) 230 3 (List.length ((playT ranks room rE pE lO (List.replicate ranks (0, 0), []) nO).2)) (List.flatMap pairLB ((playT ranks room rE pE lO (List.replicate ranks (0, 0), []) nO).2))]) (fun _ => .tuple #[]) (H.pick [0, 1, 2, 3, 4, 5] _ (by decide) (by kernel_rfl)) (fun h => Turn_of aO nO cO lO (by omega) hk0 hP _ ((hO.held (fun x => show 0 < (int4L x).length from Nat.zero_lt_succ _) H [0, 1, 2, 3] [.blk p #[.int .i64 rL, .int .i64 rE, .int .i64 pL, .int .i64 pE, .int .i64 ((room : Nat) : Int), .int .i64 hv, .slice (some ⟨gr, 0, none⟩) ranks ranks, .pointer (some ⟨t, 0, none⟩)] 187, .row (.slice (some ⟨gr, 0, none⟩) ranks ranks) 86 2 ranks (List.flatMap bukL (List.replicate ranks (0, 0))), .blk t #[.slice none 0 0, .int .i64 ((room : Nat) : Int), .func (.func 103) #[] #[]] 228, .row (.slice none 0 0) 230 3 (List.length ([] : List PairB)) (List.flatMap pairLB ([] : List PairB))] (by kernel_rfl))) h)) ?_
      rintro _ v7 ⟨svu1, rfl, H'⟩
      refine ⟨_, rfl, ?_⟩
      clear H
      have H : Hs [] w0 _ [.blk p #[.int .i64 rL, .int .i64 rE, .int .i64 pL, .int .i64 pE, .int .i64 ((room : Nat) : Int), .int .i64 hv, .slice (some ⟨gr, 0, none⟩) ranks ranks, .pointer (some ⟨t, 0, none⟩)] 187, .row (.slice (some ⟨gr, 0, none⟩) ranks ranks) 86 2 ranks (List.flatMap bukL ((playT ranks room rE pE lO (List.replicate ranks (0, 0), []) nO).1)), .blk t #[svu1, .int .i64 ((room : Nat) : Int), .func (.func 103) #[] #[]] 228, .row (svu1) 230 3 (List.length ((playT ranks room rE pE lO (List.replicate ranks (0, 0), []) nO).2)) (List.flatMap pairLB ((playT ranks room rE pE lO (List.replicate ranks (0, 0), []) nO).2)), .blk g1 #[.int .i64 rL, .int .i64 rE, .int .i64 pL, .int .i64 pE, .int .i64 ((room : Nat) : Int), .int .i64 hv] 80, .blk g2 #[.slice aR nR cR, .slice aP nP cP, .slice aB nB cB] 147] := H'
      clear H'
      refine x_nil ?_
      refine x_then ?_
      refine x_seq ?_
      refine x_region_s 9 (fun w' => Hs [] w0 w' [.blk p #[.int .i64 rL, .int .i64 rE, .int .i64 pL, .int .i64 pE, .int .i64 ((room : Nat) : Int), .int .i64 hv, .slice (some ⟨gr, 0, none⟩) ranks ranks, .pointer (some ⟨t, 0, none⟩)] 187, .row (.slice (some ⟨gr, 0, none⟩) ranks ranks) 86 2 ranks (List.flatMap bukL ((playT ranks room rE pE lO (List.replicate ranks (0, 0), []) nO).1)), .blk t #[svu1, .int .i64 ((room : Nat) : Int), .func (.func 103) #[] #[]] 228, .row (svu1) 230 3 (List.length ((playT ranks room rE pE lO (List.replicate ranks (0, 0), []) nO).2)) (List.flatMap pairLB ((playT ranks room rE pE lO (List.replicate ranks (0, 0), []) nO).2)), .blk g1 #[.int .i64 rL, .int .i64 rE, .int .i64 pL, .int .i64 pE, .int .i64 ((room : Nat) : Int), .int .i64 hv] 80, .blk g2 #[.slice aR nR cR, .slice aP nP cP, .slice aB nB cB] 147]) (fun w' => Hs [] w0 w' [.blk p #[.int .i64 rL, .int .i64 rE, .int .i64 pL, .int .i64 pE, .int .i64 ((room : Nat) : Int), .int .i64 hv, .slice (some ⟨gr, 0, none⟩) ranks ranks, .pointer (some ⟨t, 0, none⟩)] 187, .row (.slice (some ⟨gr, 0, none⟩) ranks ranks) 86 2 ranks (List.flatMap bukL ((playT ranks room rE pE lO (List.replicate ranks (0, 0), []) nO).1)), .blk t #[svu1, .int .i64 ((room : Nat) : Int), .func (.func 103) #[] #[]] 228, .row (svu1) 230 3 (List.length ((playT ranks room rE pE lO (List.replicate ranks (0, 0), []) nO).2)) (List.flatMap pairLB ((playT ranks room rE pE lO (List.replicate ranks (0, 0), []) nO).2)), .blk g1 #[.int .i64 rL, .int .i64 rE, .int .i64 pL, .int .i64 pE, .int .i64 ((room : Nat) : Int), .int .i64 hv] 80, .blk g2 #[.slice aR nR cR, .slice aP nP cP, .slice aB nB cB] 147]) (by kernel_rfl) (by kernel_rfl) (by kernel_rfl) hsShut (fun _ h => h.pick [0, 1, 2, 3, 4, 5] _ (by decide) (by kernel_rfl)) H.drew ?_
      refine s_quiet 0 rfl (by kernel_rfl) (y_loadn (t := 80) 4 g1 0 #[.int .i64 rL, .int .i64 rE, .int .i64 pL, .int .i64 pE, .int .i64 ((room : Nat) : Int), .int .i64 hv] 80 [.int .i64 rL, .int .i64 rE, .int .i64 pL, .int .i64 pE, .int .i64 ((room : Nat) : Int), .int .i64 hv] (by kernel_rfl) (by kernel_rfl) (by kernel_rfl) (by kernel_rfl) (by kernel_rfl)) ?_
      refine s_quiet 1 rfl (by kernel_rfl) (y_val (.pointer (some ⟨p, 0, none⟩)) (by kernel_rfl) (fun _ => by kernel_rfl)) ?_
      refine s_one 2 rfl (by kernel_rfl) rfl ?_
      clear H
      intro v8 H
      refine x_call (by kernel_rfl) rfl (by kernel_rfl) (Hs.useE (S := Value × Value × Value) (A := [.blk p #[.int .i64 rL, .int .i64 rE, .int .i64 pL, .int .i64 pE, .int .i64 ((room : Nat) : Int), .int .i64 hv, .slice (some ⟨gr, 0, none⟩) ranks ranks, .pointer (some ⟨t, 0, none⟩)] 187, .row (.slice (some ⟨gr, 0, none⟩) ranks ranks) 86 2 ranks (List.flatMap bukL ((playT ranks room rE pE lO (List.replicate ranks (0, 0), []) nO).1)), .blk t #[svu1, .int .i64 ((room : Nat) : Int), .func (.func 103) #[] #[]] 228, .row (svu1) 230 3 (List.length ((playT ranks room rE pE lO (List.replicate ranks (0, 0), []) nO).2)) (List.flatMap pairLB ((playT ranks room rE pE lO (List.replicate ranks (0, 0), []) nO).2))]) (R := [.blk g1 #[.int .i64 rL, .int .i64 rE, .int .i64 pL, .int .i64 pE, .int .i64 ((room : Nat) : Int), .int .i64 hv] 80, .blk g2 #[.slice aR nR cR, .slice aP nP cP, .slice aB nB cB] 147]) (fun z => [.blk p #[.int .i64 rL, .int .i64 rE, .int .i64 pL, .int .i64 pE, .int .i64 ((room : Nat) : Int), .int .i64 hv, .slice (some ⟨gr, 0, none⟩) ranks ranks, .pointer (some ⟨t, 0, none⟩)] 187, .row (.slice (some ⟨gr, 0, none⟩) ranks ranks) 86 2 ranks (List.flatMap bukL ((playT ranks room rE pE lO (List.replicate ranks (0, 0), []) nO).1)), .blk t #[svu1, .int .i64 ((room : Nat) : Int), .func (.func 103) #[] #[]] 228, .row (svu1) 230 3 (List.length ((playT ranks room rE pE lO (List.replicate ranks (0, 0), []) nO).2)) (List.flatMap pairLB ((playT ranks room rE pE lO (List.replicate ranks (0, 0), []) nO).2)), .row (z.1) 86 2 ranks (List.flatMap bukL ((playT ranks room rE pE lO (List.replicate ranks (0, 0), []) nO).1)), .row (z.2.1) 3 1 (List.length ((playT ranks room rE pE lO (List.replicate ranks (0, 0), []) nO).2)) (List.map (Value.int .i64) (List.map Prod.fst ((playT ranks room rE pE lO (List.replicate ranks (0, 0), []) nO).2))), .row (z.2.2) 86 2 (List.length ((playT ranks room rE pE lO (List.replicate ranks (0, 0), []) nO).2)) (List.flatMap bukL (List.map Prod.snd ((playT ranks room rE pE lO (List.replicate ranks (0, 0), []) nO).2)))]) (fun z => .agg #[z.1, z.2.1, z.2.2]) (H.pick [0, 1, 2, 3, 4, 5] _ (by decide) (by kernel_rfl)) (fun h => TState_of (by omega) (by omega) (by omega) _ h)) ?_
      rintro _ v9 ⟨⟨y1a, y1b, y1c⟩, rfl, H'⟩
      refine ⟨_, rfl, ?_⟩
      clear H
      have H : Hs [] w0 _ [.blk p #[.int .i64 rL, .int .i64 rE, .int .i64 pL, .int .i64 pE, .int .i64 ((room : Nat) : Int), .int .i64 hv, .slice (some ⟨gr, 0, none⟩) ranks ranks, .pointer (some ⟨t, 0, none⟩)] 187, .row (.slice (some ⟨gr, 0, none⟩) ranks ranks) 86 2 ranks (List.flatMap bukL ((playT ranks room rE pE lO (List.replicate ranks (0, 0), []) nO).1)), .blk t #[svu1, .int .i64 ((room : Nat) : Int), .func (.func 103) #[] #[]] 228, .row (svu1) 230 3 (List.length ((playT ranks room rE pE lO (List.replicate ranks (0, 0), []) nO).2)) (List.flatMap pairLB ((playT ranks room rE pE lO (List.replicate ranks (0, 0), []) nO).2)), .row (y1a) 86 2 ranks (List.flatMap bukL ((playT ranks room rE pE lO (List.replicate ranks (0, 0), []) nO).1)), .row (y1b) 3 1 (List.length ((playT ranks room rE pE lO (List.replicate ranks (0, 0), []) nO).2)) (List.map (Value.int .i64) (List.map Prod.fst ((playT ranks room rE pE lO (List.replicate ranks (0, 0), []) nO).2))), .row (y1c) 86 2 (List.length ((playT ranks room rE pE lO (List.replicate ranks (0, 0), []) nO).2)) (List.flatMap bukL (List.map Prod.snd ((playT ranks room rE pE lO (List.replicate ranks (0, 0), []) nO).2))), .blk g1 #[.int .i64 rL, .int .i64 rE, .int .i64 pL, .int .i64 pE, .int .i64 ((room : Nat) : Int), .int .i64 hv] 80, .blk g2 #[.slice aR nR cR, .slice aP nP cP, .slice aB nB cB] 147] := H'
      clear H'
      refine x_nil ?_
      refine x_then ?_
      refine ⟨fun w' => Hs [] w0 w' [.blk p #[.int .i64 rL, .int .i64 rE, .int .i64 pL, .int .i64 pE, .int .i64 ((room : Nat) : Int), .int .i64 hv, .slice (some ⟨gr, 0, none⟩) ranks ranks, .pointer (some ⟨t, 0, none⟩)] 187, .row (.slice (some ⟨gr, 0, none⟩) ranks ranks) 86 2 ranks (List.flatMap bukL ((playT ranks room rE pE lO (List.replicate ranks (0, 0), []) nO).1)), .blk t #[svu1, .int .i64 ((room : Nat) : Int), .func (.func 103) #[] #[]] 228, .row (svu1) 230 3 (List.length ((playT ranks room rE pE lO (List.replicate ranks (0, 0), []) nO).2)) (List.flatMap pairLB ((playT ranks room rE pE lO (List.replicate ranks (0, 0), []) nO).2)), .blk g1 #[.int .i64 rL, .int .i64 rE, .int .i64 pL, .int .i64 pE, .int .i64 ((room : Nat) : Int), .int .i64 hv] 80, .blk g2 #[.slice aR nR cR, .slice aP nP cP, .slice aB nB cB] 147], fun w' => Hs [] w0 w' [.blk p #[.int .i64 rL, .int .i64 rE, .int .i64 pL, .int .i64 pE, .int .i64 ((room : Nat) : Int), .int .i64 hv, .slice (some ⟨gr, 0, none⟩) ranks ranks, .pointer (some ⟨t, 0, none⟩)] 187, .row (.slice (some ⟨gr, 0, none⟩) ranks ranks) 86 2 ranks (List.flatMap bukL ((playT ranks room rE pE lO (List.replicate ranks (0, 0), []) nO).1)), .blk t #[svu1, .int .i64 ((room : Nat) : Int), .func (.func 103) #[] #[]] 228, .row (svu1) 230 3 (List.length ((playT ranks room rE pE lO (List.replicate ranks (0, 0), []) nO).2)) (List.flatMap pairLB ((playT ranks room rE pE lO (List.replicate ranks (0, 0), []) nO).2)), .row (y1a) 86 2 ranks (List.flatMap bukL ((playT ranks room rE pE lO (List.replicate ranks (0, 0), []) nO).1)), .row (y1b) 3 1 (List.length ((playT ranks room rE pE lO (List.replicate ranks (0, 0), []) nO).2)) (List.map (Value.int .i64) (List.map Prod.fst ((playT ranks room rE pE lO (List.replicate ranks (0, 0), []) nO).2))), .row (y1c) 86 2 (List.length ((playT ranks room rE pE lO (List.replicate ranks (0, 0), []) nO).2)) (List.flatMap bukL (List.map Prod.snd ((playT ranks room rE pE lO (List.replicate ranks (0, 0), []) nO).2))), .blk g1 #[.int .i64 rL, .int .i64 rE, .int .i64 pL, .int .i64 pE, .int .i64 ((room : Nat) : Int), .int .i64 hv] 80, .blk g2 #[.slice aR nR cR, .slice aP nP cP, .slice aB nB cB] 147], H, hsShut, fun _ h => h.pick [0, 1, 2, 3, 7, 8] _ (by decide) (by kernel_rfl), fun _ h => h.pick [0, 1, 2, 3, 4, 5] _ (by decide) (by kernel_rfl), ?_⟩
      refine s_one 3 rfl (by kernel_rfl) rfl ?_
      clear H
      intro v10 H
      obtain ⟨ad0, cd0, e0, hS0⟩ := RAt.ofRow (f := bukL) (d := (0, 0)) bukLen (H.ok 4 _ rfl : Go.World.ownsRow _ 0 86 2 _ _ _) hk1.n
      subst e0
      obtain ⟨ad1, cd1, e1, hS1⟩ := RAt.ofRow (f := intL) (d := (0 : Int)) (fun _ => rfl) (own_int (H.ok 5 _ rfl : Go.World.ownsRow _ 0 3 1 _ _ _)) (len_fst _)
      subst e1
      obtain ⟨ad2, cd2, e2, hS2⟩ := RAt.ofRow (f := bukL) (d := (0, 0)) bukLen (H.ok 6 _ rfl : Go.World.ownsRow _ 0 86 2 _ _ _) (len_snd _)
      subst e2
      refine x_call (by kernel_rfl) rfl (by kernel_rfl) (by have q := TRes_yes rL rE pL pE hv room ad0 ad1 ad2 ranks (List.length ((playT ranks room rE pE lO (List.replicate ranks (0, 0), []) nO).2)) (List.length ((playT ranks room rE pE lO (List.replicate ranks (0, 0), []) nO).2)) cd0 cd1 cd2 ((playT ranks room rE pE lO (List.replicate ranks (0, 0), []) nO).1) (List.map Prod.fst ((playT ranks room rE pE lO (List.replicate ranks (0, 0), []) nO).2)) (List.map Prod.snd ((playT ranks room rE pE lO (List.replicate ranks (0, 0), []) nO).2)) hk1.n hb (by omega) (by omega) (by omega) (by omega) (fit_state hk1 hP hu1) _ hS0 hS1 hS2; rw [zipT_self] at q; exact q) ?_
      rintro _ v11 ⟨p2, gr2, t2, sv2, rfl, hN'⟩
      refine ⟨_, rfl, ?_⟩
      replace H := H.more hN'
      clear hN'
      replace H : Hs [] w0 _ [.blk p2 #[.int .i64 rL, .int .i64 rE, .int .i64 pL, .int .i64 pE, .int .i64 ((room : Nat) : Int), .int .i64 hv, .slice (some ⟨gr2, 0, none⟩) ranks ranks, .pointer (some ⟨t2, 0, none⟩)] 187, .row (.slice (some ⟨gr2, 0, none⟩) ranks ranks) 86 2 ranks (List.flatMap bukL ((playT ranks room rE pE lO (List.replicate ranks (0, 0), []) nO).1)), .blk t2 #[sv2, .int .i64 ((room : Nat) : Int), .func (.func 103) #[] #[]] 228, .row (sv2) 230 3 (List.length ((playT ranks room rE pE lO (List.replicate ranks (0, 0), []) nO).2)) (List.flatMap pairLB ((playT ranks room rE pE lO (List.replicate ranks (0, 0), []) nO).2)), .blk p #[.int .i64 rL, .int .i64 rE, .int .i64 pL, .int .i64 pE, .int .i64 ((room : Nat) : Int), .int .i64 hv, .slice (some ⟨gr, 0, none⟩) ranks ranks, .pointer (some ⟨t, 0, none⟩)] 187, .row (.slice (some ⟨gr, 0, none⟩) ranks ranks) 86 2 ranks (List.flatMap bukL ((playT ranks room rE pE lO (List.replicate ranks (0, 0), []) nO).1)), .blk t #[svu1, .int .i64 ((room : Nat) : Int), .func (.func 103) #[] #[]] 228, .row (svu1) 230 3 (List.length ((playT ranks room rE pE lO (List.replicate ranks (0, 0), []) nO).2)) (List.flatMap pairLB ((playT ranks room rE pE lO (List.replicate ranks (0, 0), []) nO).2)), .row (.slice ad0 ranks cd0) 86 2 ranks (List.flatMap bukL ((playT ranks room rE pE lO (List.replicate ranks (0, 0), []) nO).1)), .row (.slice ad1 (List.length ((playT ranks room rE pE lO (List.replicate ranks (0, 0), []) nO).2)) cd1) 3 1 (List.length ((playT ranks room rE pE lO (List.replicate ranks (0, 0), []) nO).2)) (List.map (Value.int .i64) (List.map Prod.fst ((playT ranks room rE pE lO (List.replicate ranks (0, 0), []) nO).2))), .row (.slice ad2 (List.length ((playT ranks room rE pE lO (List.replicate ranks (0, 0), []) nO).2)) cd2) 86 2 (List.length ((playT ranks room rE pE lO (List.replicate ranks (0, 0), []) nO).2)) (List.flatMap bukL (List.map Prod.snd ((playT ranks room rE pE lO (List.replicate ranks (0, 0), []) nO).2))), .blk g1 #[.int .i64 rL, .int .i64 rE, .int .i64 pL, .int .i64 pE, .int .i64 ((room : Nat) : Int), .int .i64 hv] 80, .blk g2 #[.slice aR nR cR, .slice aP nP cP, .slice aB nB cB] 147] := H
      refine x_nil ?_
      refine x_then ?_
      refine ⟨fun w' => Hs [] w0 w' [.blk p2 #[.int .i64 rL, .int .i64 rE, .int .i64 pL, .int .i64 pE, .int .i64 ((room : Nat) : Int), .int .i64 hv, .slice (some ⟨gr2, 0, none⟩) ranks ranks, .pointer (some ⟨t2, 0, none⟩)] 187, .row (.slice (some ⟨gr2, 0, none⟩) ranks ranks) 86 2 ranks (List.flatMap bukL ((playT ranks room rE pE lO (List.replicate ranks (0, 0), []) nO).1)), .blk t2 #[sv2, .int .i64 ((room : Nat) : Int), .func (.func 103) #[] #[]] 228, .row (sv2) 230 3 (List.length ((playT ranks room rE pE lO (List.replicate ranks (0, 0), []) nO).2)) (List.flatMap pairLB ((playT ranks room rE pE lO (List.replicate ranks (0, 0), []) nO).2)), .blk p #[.int .i64 rL, .int .i64 rE, .int .i64 pL, .int .i64 pE, .int .i64 ((room : Nat) : Int), .int .i64 hv, .slice (some ⟨gr, 0, none⟩) ranks ranks, .pointer (some ⟨t, 0, none⟩)] 187, .row (.slice (some ⟨gr, 0, none⟩) ranks ranks) 86 2 ranks (List.flatMap bukL ((playT ranks room rE pE lO (List.replicate ranks (0, 0), []) nO).1)), .blk t #[svu1, .int .i64 ((room : Nat) : Int), .func (.func 103) #[] #[]] 228, .row (svu1) 230 3 (List.length ((playT ranks room rE pE lO (List.replicate ranks (0, 0), []) nO).2)) (List.flatMap pairLB ((playT ranks room rE pE lO (List.replicate ranks (0, 0), []) nO).2)), .row (.slice ad0 ranks cd0) 86 2 ranks (List.flatMap bukL ((playT ranks room rE pE lO (List.replicate ranks (0, 0), []) nO).1)), .row (.slice ad1 (List.length ((playT ranks room rE pE lO (List.replicate ranks (0, 0), []) nO).2)) cd1) 3 1 (List.length ((playT ranks room rE pE lO (List.replicate ranks (0, 0), []) nO).2)) (List.map (Value.int .i64) (List.map Prod.fst ((playT ranks room rE pE lO (List.replicate ranks (0, 0), []) nO).2))), .row (.slice ad2 (List.length ((playT ranks room rE pE lO (List.replicate ranks (0, 0), []) nO).2)) cd2) 86 2 (List.length ((playT ranks room rE pE lO (List.replicate ranks (0, 0), []) nO).2)) (List.flatMap bukL (List.map Prod.snd ((playT ranks room rE pE lO (List.replicate ranks (0, 0), []) nO).2))), .blk g1 #[.int .i64 rL, .int .i64 rE, .int .i64 pL, .int .i64 pE, .int .i64 ((room : Nat) : Int), .int .i64 hv] 80, .blk g2 #[.slice aR nR cR, .slice aP nP cP, .slice aB nB cB] 147], fun w' => Hs [] w0 w' [.blk p2 #[.int .i64 rL, .int .i64 rE, .int .i64 pL, .int .i64 pE, .int .i64 ((room : Nat) : Int), .int .i64 hv, .slice (some ⟨gr2, 0, none⟩) ranks ranks, .pointer (some ⟨t2, 0, none⟩)] 187, .row (.slice (some ⟨gr2, 0, none⟩) ranks ranks) 86 2 ranks (List.flatMap bukL ((playT ranks room rE pE lO (List.replicate ranks (0, 0), []) nO).1)), .blk t2 #[sv2, .int .i64 ((room : Nat) : Int), .func (.func 103) #[] #[]] 228, .row (sv2) 230 3 (List.length ((playT ranks room rE pE lO (List.replicate ranks (0, 0), []) nO).2)) (List.flatMap pairLB ((playT ranks room rE pE lO (List.replicate ranks (0, 0), []) nO).2)), .blk p #[.int .i64 rL, .int .i64 rE, .int .i64 pL, .int .i64 pE, .int .i64 ((room : Nat) : Int), .int .i64 hv, .slice (some ⟨gr, 0, none⟩) ranks ranks, .pointer (some ⟨t, 0, none⟩)] 187, .row (.slice (some ⟨gr, 0, none⟩) ranks ranks) 86 2 ranks (List.flatMap bukL ((playT ranks room rE pE lO (List.replicate ranks (0, 0), []) nO).1)), .blk t #[svu1, .int .i64 ((room : Nat) : Int), .func (.func 103) #[] #[]] 228, .row (svu1) 230 3 (List.length ((playT ranks room rE pE lO (List.replicate ranks (0, 0), []) nO).2)) (List.flatMap pairLB ((playT ranks room rE pE lO (List.replicate ranks (0, 0), []) nO).2)), .row (.slice ad0 ranks cd0) 86 2 ranks (List.flatMap bukL ((playT ranks room rE pE lO (List.replicate ranks (0, 0), []) nO).1)), .row (.slice ad1 (List.length ((playT ranks room rE pE lO (List.replicate ranks (0, 0), []) nO).2)) cd1) 3 1 (List.length ((playT ranks room rE pE lO (List.replicate ranks (0, 0), []) nO).2)) (List.map (Value.int .i64) (List.map Prod.fst ((playT ranks room rE pE lO (List.replicate ranks (0, 0), []) nO).2))), .row (.slice ad2 (List.length ((playT ranks room rE pE lO (List.replicate ranks (0, 0), []) nO).2)) cd2) 86 2 (List.length ((playT ranks room rE pE lO (List.replicate ranks (0, 0), []) nO).2)) (List.flatMap bukL (List.map Prod.snd ((playT ranks room rE pE lO (List.replicate ranks (0, 0), []) nO).2))), .blk g1 #[.int .i64 rL, .int .i64 rE, .int .i64 pL, .int .i64 pE, .int .i64 ((room : Nat) : Int), .int .i64 hv] 80, .blk g2 #[.slice aR nR cR, .slice aP nP cP, .slice aB nB cB] 147], H, hsShut, fun _ h => h.pick [0, 1, 2, 3, 4, 5, 6, 7, 8, 9, 10, 11, 12] _ (by decide) (by kernel_rfl), fun _ h => h.pick [4, 5, 6, 7, 11, 12] _ (by decide) (by kernel_rfl), ?_⟩
      refine s_quiet 4 rfl (by kernel_rfl) (y_val (.tuple #[.pointer (some ⟨p2, 0, none⟩), .int .i64 0]) (by kernel_rfl) (fun _ => by kernel_rfl)) ?_
      refine s_quiet 5 rfl (by kernel_rfl) (y_val (.pointer (some ⟨p2, 0, none⟩)) (by kernel_rfl) (fun _ => by kernel_rfl)) ?_
      refine s_quiet 6 rfl (by kernel_rfl) (y_val (.int .i64 0) (by kernel_rfl) (fun _ => by kernel_rfl)) ?_
      refine s_quiet 7 rfl (by kernel_rfl) (y_val (.pointer (some ⟨p2, 0, none⟩)) (by kernel_rfl) (fun _ => by kernel_rfl)) ?_
      refine s_quiet 8 rfl (by kernel_rfl) (y_val (.int .i64 0) (by kernel_rfl) (fun _ => by kernel_rfl)) ?_
      refine s_done (by kernel_rfl) ?_
      clear H
      intro v12 H
      refine x_then ?_
      refine x_seq ?_
      refine x_seq ?_
      refine x_region ?_
      refine x_val (.int .i64 0) (by kernel_rfl) rfl (by kernel_rfl) ?_
      refine x_val (.bool false) (by kernel_rfl) rfl (by kernel_rfl) ?_
      refine x_val (.bool false) (by kernel_rfl) rfl (by kernel_rfl) ?_
      refine x_val (.pointer (some ⟨p2, 0, none⟩)) (by kernel_rfl) rfl (by kernel_rfl) ?_
      refine x_val (.bool false) (by kernel_rfl) rfl (by kernel_rfl) ?_
      refine x_val (.bool false) (by kernel_rfl) rfl (by kernel_rfl) ?_
      refine x_nil ?_
      refine x_then ?_
      refine x_f (by kernel_rfl) ?_
      refine x_skipc ?_
      refine x_then ?_
      refine x_seq ?_
      refine x_region ?_
      refine x_val (.pointer (some ⟨p, 0, none⟩)) (by kernel_rfl) rfl (by kernel_rfl) ?_
      refine x_val (.slice aM nM cM) (by kernel_rfl) rfl (by kernel_rfl) ?_
      refine x_call (by kernel_rfl) rfl (by kernel_rfl) (Hs.useE (A := [.blk p #[.int .i64 rL, .int .i64 rE, .int .i64 pL, .int .i64 pE, .int .i64 ((room : Nat) : Int), .int .i64 hv, .slice (some ⟨gr, 0, none⟩) ranks ranks, .pointer (some ⟨t, 0, none⟩)] 187, .row (.slice (some ⟨gr, 0, none⟩) ranks ranks) 86 2 ranks (List.flatMap bukL ((playT ranks room rE pE lO (List.replicate ranks (0, 0), []) nO).1)), .blk t #[svu1, .int .i64 ((room : Nat) : Int), .func (.func 103) #[] #[]] 228, .row (svu1) 230 3 (List.length ((playT ranks room rE pE lO (List.replicate ranks (0, 0), []) nO).2)) (List.flatMap pairLB ((playT ranks room rE pE lO (List.replicate ranks (0, 0), []) nO).2))]) (R := [.blk p2 #[.int .i64 rL, .int .i64 rE, .int .i64 pL, .int .i64 pE, .int .i64 ((room : Nat) : Int), .int .i64 hv, .slice (some ⟨gr2, 0, none⟩) ranks ranks, .pointer (some ⟨t2, 0, none⟩)] 187, .row (.slice (some ⟨gr2, 0, none⟩) ranks ranks) 86 2 ranks (List.flatMap bukL ((playT ranks room rE pE lO (List.replicate ranks (0, 0), []) nO).1)), .blk t2 #[sv2, .int .i64 ((room : Nat) : Int), .func (.func 103) #[] #[]] 228, .row (sv2) 230 3 (List.length ((playT ranks room rE pE lO (List.replicate ranks (0, 0), []) nO).2)) (List.flatMap pairLB ((playT ranks room rE pE lO (List.replicate ranks (0, 0), []) nO).2)), .row (.slice ad0 ranks cd0) 86 2 ranks (List.flatMap bukL ((playT ranks room rE pE lO (List.replicate ranks (0, 0), []) nO).1)), .row (.slice ad1 (List.length ((playT ranks room rE pE lO (List.replicate ranks (0, 0), []) nO).2)) cd1) 3 1 (List.length ((playT ranks room rE pE lO (List.replicate ranks (0, 0), []) nO).2)) (List.map (Value.int .i64) (List.map Prod.fst ((playT ranks room rE pE lO (List.replicate ranks (0, 0), []) nO).2))), .row (.slice ad2 (List.length ((playT ranks room rE pE lO (List.replicate ranks (0, 0), []) nO).2)) cd2) 86 2 (List.length ((playT ranks room rE pE lO (List.replicate ranks (0, 0), []) nO).2)) (List.flatMap bukL (List.map Prod.snd ((playT ranks room rE pE lO (List.replicate ranks (0, 0), []) nO).2))), .blk g1 #[.int .i64 rL, .int .i64 rE, .int .i64 pL, .int .i64 pE, .int .i64 ((room : Nat) : Int), .int .i64 hv] 80, .blk g2 #[.slice aR nR cR, .slice aP nP cP, .slice aB nB cB] 147]) (fun svu2 => [.blk p #[.int .i64 rL, .int .i64 rE, .int .i64 pL, .int .i64 pE, .int .i64 ((room : Nat) : Int), .int .i64 hv, .slice (some ⟨gr, 0, none⟩) ranks ranks, .pointer (some ⟨t, 0, none⟩)] 187, .row (.slice (some ⟨gr, 0, none⟩) ranks ranks) 86 2 ranks (List.flatMap bukL ((playT ranks room rE pE lM ((playT ranks room rE pE lO (List.replicate ranks (0, 0), []) nO).1, (playT ranks room rE pE lO (List.replicate ranks (0, 0), []) nO).2) nM).1)), .blk t #[svu2, .int .i64 ((room : Nat) : Int), .func (.func 103) #[] #[]] 228, .row (svu2) 230 3 (List.length ((playT ranks room rE pE lM ((playT ranks room rE pE lO (List.replicate ranks (0, 0), []) nO).1, (playT ranks room rE pE lO (List.replicate ranks (0, 0), []) nO).2) nM).2)) (List.flatMap pairLB ((playT ranks room rE pE lM ((playT ranks room rE pE lO (List.replicate ranks (0, 0), []) nO).1, (playT ranks room rE pE lO (List.replicate ranks (0, 0), []) nO).2) nM).2))]) (fun _ => .tuple #[]) (H.pick [4, 5, 6, 7, 0, 1, 2, 3, 8, 9, 10, 11, 12] _ (by decide) (by kernel_rfl)) (fun h => Turn_of aM nM cM lM (by omega) hk1 hP _ ((hM.held (fun x => show 0 < (int4L x).length from Nat.zero_lt_succ _) H [4, 5, 6, 7] [.blk p #[.int .i64 rL, .int .i64 rE, .int .i64 pL, .int .i64 pE, .int .i64 ((room : Nat) : Int), .int .i64 hv, .slice (some ⟨gr, 0, none⟩) ranks ranks, .pointer (some ⟨t, 0, none⟩)] 187, .row (.slice (some ⟨gr, 0, none⟩) ranks ranks) 86 2 ranks (List.flatMap bukL ((playT ranks room rE pE lO (List.replicate ranks (0, 0), []) nO).1)), .blk t #[svu1, .int .i64 ((room : Nat) : Int), .func (.func 103) #[] #[]] 228, .row (svu1) 230 3 (List.length ((playT ranks room rE pE lO (List.replicate ranks (0, 0), []) nO).2)) (List.flatMap pairLB ((playT ranks room rE pE lO (List.replicate ranks (0, 0), []) nO).2))] (by kernel_rfl))) h)) ?_
      rintro _ v13 ⟨svu2, rfl, H'⟩
      refine ⟨_, rfl, ?_⟩
      clear H
      have H : Hs [] w0 _ [.blk p #[.int .i64 rL, .int .i64 rE, .int .i64 pL, .int .i64 pE, .int .i64 ((room : Nat) : Int), .int .i64 hv, .slice (some ⟨gr, 0, none⟩) ranks ranks, .pointer (some ⟨t, 0, none⟩)] 187, .row (.slice (some ⟨gr, 0, none⟩) ranks ranks) 86 2 ranks (List.flatMap bukL ((playT ranks room rE pE lM ((playT ranks room rE pE lO (List.replicate ranks (0, 0), []) nO).1, (playT ranks room rE pE lO (List.replicate ranks (0, 0), []) nO).2) nM).1)), .blk t #[svu2, .int .i64 ((room : Nat) : Int), .func (.func 103) #[] #[]] 228, .row (svu2) 230 3 (List.length ((playT ranks room rE pE lM ((playT ranks room rE pE lO (List.replicate ranks (0, 0), []) nO).1, (playT ranks room rE pE lO (List.replicate ranks (0, 0), []) nO).2) nM).2)) (List.flatMap pairLB ((playT ranks room rE pE lM ((playT ranks room rE pE lO (List.replicate ranks (0, 0), []) nO).1, (playT ranks room rE pE lO (List.replicate ranks (0, 0), []) nO).2) nM).2)), .blk p2 #[.int .i64 rL, .int .i64 rE, .int .i64 pL, .int .i64 pE, .int .i64 ((room : Nat) : Int), .int .i64 hv, .slice (some ⟨gr2, 0, none⟩) ranks ranks, .pointer (some ⟨t2, 0, none⟩)] 187, .row (.slice (some ⟨gr2, 0, none⟩) ranks ranks) 86 2 ranks (List.flatMap bukL ((playT ranks room rE pE lO (List.replicate ranks (0, 0), []) nO).1)), .blk t2 #[sv2, .int .i64 ((room : Nat) : Int), .func (.func 103) #[] #[]] 228, .row (sv2) 230 3 (List.length ((playT ranks room rE pE lO (List.replicate ranks (0, 0), []) nO).2)) (List.flatMap pairLB ((playT ranks room rE pE lO (List.replicate ranks (0, 0), []) nO).2)), .row (.slice ad0 ranks cd0) 86 2 ranks (List.flatMap bukL ((playT ranks room rE pE lO (List.replicate ranks (0, 0), []) nO).1)), .row (.slice ad1 (List.length ((playT ranks room rE pE lO (List.replicate ranks (0, 0), []) nO).2)) cd1) 3 1 (List.length ((playT ranks room rE pE lO (List.replicate ranks (0, 0), []) nO).2)) (List.map (Value.int .i64) (List.map Prod.fst ((playT ranks room rE pE lO (List.replicate ranks (0, 0), []) nO).2))), .row (.slice ad2 (List.length ((playT ranks room rE pE lO (List.replicate ranks (0, 0), []) nO).2)) cd2) 86 2 (List.length ((playT ranks room rE pE lO (List.replicate ranks (0, 0), []) nO).2)) (List.flatMap bukL (List.map Prod.snd ((playT ranks room rE pE lO (List.replicate ranks (0, 0), []) nO).2))), .blk g1 #[.int .i64 rL, .int .i64 rE, .int .i64 pL, .int .i64 pE, .int .i64 ((room : Nat) : Int), .int .i64 hv] 80, .blk g2 #[.slice aR nR cR, .slice aP nP cP, .slice aB nB cB] 147] := H'
      clear H'
      refine x_nil ?_
      refine x_then ?_
      refine x_seq ?_
      refine x_region ?_
      refine x_val (.pointer (some ⟨p2, 0, none⟩)) (by kernel_rfl) rfl (by kernel_rfl) ?_
      refine x_val (.slice aM nM cM) (by kernel_rfl) rfl (by kernel_rfl) ?_
      refine x_call (by kernel_rfl) rfl (by kernel_rfl) (Hs.useE (A := [.blk p2 #[.int .i64 rL, .int .i64 rE, .int .i64 pL, .int .i64 pE, .int .i64 ((room : Nat) : Int), .int .i64 hv, .slice (some ⟨gr2, 0, none⟩) ranks ranks, .pointer (some ⟨t2, 0, none⟩)] 187, .row (.slice (some ⟨gr2, 0, none⟩) ranks ranks) 86 2 ranks (List.flatMap bukL ((playT ranks room rE pE lO (List.replicate ranks (0, 0), []) nO).1)), .blk t2 #[sv2, .int .i64 ((room : Nat) : Int), .func (.func 103) #[] #[]] 228, .row (sv2) 230 3 (List.length ((playT ranks room rE pE lO (List.replicate ranks (0, 0), []) nO).2)) (List.flatMap pairLB ((playT ranks room rE pE lO (List.replicate ranks (0, 0), []) nO).2))]) (R := [.blk p #[.int .i64 rL, .int .i64 rE, .int .i64 pL, .int .i64 pE, .int .i64 ((room : Nat) : Int), .int .i64 hv, .slice (some ⟨gr, 0, none⟩) ranks ranks, .pointer (some ⟨t, 0, none⟩)] 187, .row (.slice (some ⟨gr, 0, none⟩) ranks ranks) 86 2 ranks (List.flatMap bukL ((playT ranks room rE pE lM ((playT ranks room rE pE lO (List.replicate ranks (0, 0), []) nO).1, (playT ranks room rE pE lO (List.replicate ranks (0, 0), []) nO).2) nM).1)), .blk t #[svu2, .int .i64 ((room : Nat) : Int), .func (.func 103) #[] #[]] 228, .row (svu2) 230 3 (List.length ((playT ranks room rE pE lM ((playT ranks room rE pE lO (List.replicate ranks (0, 0), []) nO).1, (playT ranks room rE pE lO (List.replicate ranks (0, 0), []) nO).2) nM).2)) (List.flatMap pairLB ((playT ranks room rE pE lM ((playT ranks room rE pE lO (List.replicate ranks (0, 0), []) nO).1, (playT ranks room rE pE lO (List.replicate ranks (0, 0), []) nO).2) nM).2)), .row (.slice ad0 ranks cd0) 86 2 ranks (List.flatMap bukL ((playT ranks room rE pE lO (List.replicate ranks (0, 0), []) nO).1)), .row (.slice ad1 (List.length ((playT ranks room rE pE lO (List.replicate ranks (0, 0), []) nO).2)) cd1) 3 1 (List.length ((playT ranks room rE pE lO (List.replicate ranks (0, 0), []) nO).2)) (List.map (Value.int .i64) (List.map Prod.fst ((playT ranks room rE pE lO (List.replicate ranks (0, 0), []) nO).2))), .row (.slice ad2 (List.length ((playT ranks room rE pE lO (List.replicate ranks (0, 0), []) nO).2)) cd2) 86 2 (List.length ((playT ranks room rE pE lO (List.replicate ranks (0, 0), []) nO).2)) (List.flatMap bukL (List.map Prod.snd ((playT ranks room rE pE lO (List.replicate ranks (0, 0), []) nO).2))), .blk g1 #[.int .i64 rL, .int .i64 rE, .int .i64 pL, .int .i64 pE, .int .i64 ((room : Nat) : Int), .int .i64 hv] 80, .blk g2 #[.slice aR nR cR, .slice aP nP cP, .slice aB nB cB] 147]) (fun svu3 => [.blk p2 #[.int .i64 rL, .int .i64 rE, .int .i64 pL, .int .i64 pE, .int .i64 ((room : Nat) : Int), .int .i64 hv, .slice (some ⟨gr2, 0, none⟩) ranks ranks, .pointer (some ⟨t2, 0, none⟩)] 187, .row (.slice (some ⟨gr2, 0, none⟩) ranks ranks) 86 2 ranks (List.flatMap bukL ((playT ranks room rE pE lM ((playT ranks room rE pE lO (List.replicate ranks (0, 0), []) nO).1, (playT ranks room rE pE lO (List.replicate ranks (0, 0), []) nO).2) nM).1)), .blk t2 #[svu3, .int .i64 ((room : Nat) : Int), .func (.func 103) #[] #[]] 228, .row (svu3) 230 3 (List.length ((playT ranks room rE pE lM ((playT ranks room rE pE lO (List.replicate ranks (0, 0), []) nO).1, (playT ranks room rE pE lO (List.replicate ranks (0, 0), []) nO).2) nM).2)) (List.flatMap pairLB ((playT ranks room rE pE lM ((playT ranks room rE pE lO (List.replicate ranks (0, 0), []) nO).1, (playT ranks room rE pE lO (List.replicate ranks (0, 0), []) nO).2) nM).2))]) (fun _ => .tuple #[]) (H.pick [4, 5, 6, 7, 0, 1, 2, 3, 8, 9, 10, 11, 12] _ (by decide) (by kernel_rfl)) (fun h => Turn_of aM nM cM lM (by omega) hk1 hP _ ((hM.held (fun x => show 0 < (int4L x).length from Nat.zero_lt_succ _) H [4, 5, 6, 7] [.blk p2 #[.int .i64 rL, .int .i64 rE, .int .i64 pL, .int .i64 pE, .int .i64 ((room : Nat) : Int), .int .i64 hv, .slice (some ⟨gr2, 0, none⟩) ranks ranks, .pointer (some ⟨t2, 0, none⟩)] 187, .row (.slice (some ⟨gr2, 0, none⟩) ranks ranks) 86 2 ranks (List.flatMap bukL ((playT ranks room rE pE lO (List.replicate ranks (0, 0), []) nO).1)), .blk t2 #[sv2, .int .i64 ((room : Nat) : Int), .func (.func 103) #[] #[]] 228, .row (sv2) 230 3 (List.length ((playT ranks room rE pE lO (List.replicate ranks (0, 0), []) nO).2)) (List.flatMap pairLB ((playT ranks room rE pE lO (List.replicate ranks (0, 0), []) nO).2))] (by kernel_rfl))) h)) ?_
      rintro _ v14 ⟨svu3, rfl, H'⟩
      refine ⟨_, rfl, ?_⟩
      clear H
      have H : Hs [] w0 _ [.blk p2 #[.int .i64 rL, .int .i64 rE, .int .i64 pL, .int .i64 pE, .int .i64 ((room : Nat) : Int), .int .i64 hv, .slice (some ⟨gr2, 0, none⟩) ranks ranks, .pointer (some ⟨t2, 0, none⟩)] 187, .row (.slice (some ⟨gr2, 0, none⟩) ranks ranks) 86 2 ranks (List.flatMap bukL ((playT ranks room rE pE lM ((playT ranks room rE pE lO (List.replicate ranks (0, 0), []) nO).1, (playT ranks room rE pE lO (List.replicate ranks (0, 0), []) nO).2) nM).1)), .blk t2 #[svu3, .int .i64 ((room : Nat) : Int), .func (.func 103) #[] #[]] 228, .row (svu3) 230 3 (List.length ((playT ranks room rE pE lM ((playT ranks room rE pE lO (List.replicate ranks (0, 0), []) nO).1, (playT ranks room rE pE lO (List.replicate ranks (0, 0), []) nO).2) nM).2)) (List.flatMap pairLB ((playT ranks room rE pE lM ((playT ranks room rE pE lO (List.replicate ranks (0, 0), []) nO).1, (playT ranks room rE pE lO (List.replicate ranks (0, 0), []) nO).2) nM).2)), .blk p #[.int .i64 rL, .int .i64 rE, .int .i64 pL, .int .i64 pE, .int .i64 ((room : Nat) : Int), .int .i64 hv, .slice (some ⟨gr, 0, none⟩) ranks ranks, .pointer (some ⟨t, 0, none⟩)] 187, .row (.slice (some ⟨gr, 0, none⟩) ranks ranks) 86 2 ranks (List.flatMap bukL ((playT ranks room rE pE lM ((playT ranks room rE pE lO (List.replicate ranks (0, 0), []) nO).1, (playT ranks room rE pE lO (List.replicate ranks (0, 0), []) nO).2) nM).1)), .blk t #[svu2, .int .i64 ((room : Nat) : Int), .func (.func 103) #[] #[]] 228, .row (svu2) 230 3 (List.length ((playT ranks room rE pE lM ((playT ranks room rE pE lO (List.replicate ranks (0, 0), []) nO).1, (playT ranks room rE pE lO (List.replicate ranks (0, 0), []) nO).2) nM).2)) (List.flatMap pairLB ((playT ranks room rE pE lM ((playT ranks room rE pE lO (List.replicate ranks (0, 0), []) nO).1, (playT ranks room rE pE lO (List.replicate ranks (0, 0), []) nO).2) nM).2)), .row (.slice ad0 ranks cd0) 86 2 ranks (List.flatMap bukL ((playT ranks room rE pE lO (List.replicate ranks (0, 0), []) nO).1)), .row (.slice ad1 (List.length ((playT ranks room rE pE lO (List.replicate ranks (0, 0), []) nO).2)) cd1) 3 1 (List.length ((playT ranks room rE pE lO (List.replicate ranks (0, 0), []) nO).2)) (List.map (Value.int .i64) (List.map Prod.fst ((playT ranks room rE pE lO (List.replicate ranks (0, 0), []) nO).2))), .row (.slice ad2 (List.length ((playT ranks room rE pE lO (List.replicate ranks (0, 0), []) nO).2)) cd2) 86 2 (List.length ((playT ranks room rE pE lO (List.replicate ranks (0, 0), []) nO).2)) (List.flatMap bukL (List.map Prod.snd ((playT ranks room rE pE lO (List.replicate ranks (0, 0), []) nO).2))), .blk g1 #[.int .i64 rL, .int .i64 rE, .int .i64 pL, .int .i64 pE, .int .i64 ((room : Nat) : Int), .int .i64 hv] 80, .blk g2 #[.slice aR nR cR, .slice aP nP cP, .slice aB nB cB] 147] := H'
      clear H'
      refine x_nil ?_
      refine x_then ?_
      refine x_seq ?_
      refine x_region ?_
      refine x_val (.pointer (some ⟨p, 0, none⟩)) (by kernel_rfl) rfl (by kernel_rfl) ?_
      refine x_call (by kernel_rfl) rfl (by kernel_rfl) (Hs.useE (S := Value × Value × Value) (A := [.blk p #[.int .i64 rL, .int .i64 rE, .int .i64 pL, .int .i64 pE, .int .i64 ((room : Nat) : Int), .int .i64 hv, .slice (some ⟨gr, 0, none⟩) ranks ranks, .pointer (some ⟨t, 0, none⟩)] 187, .row (.slice (some ⟨gr, 0, none⟩) ranks ranks) 86 2 ranks (List.flatMap bukL ((playT ranks room rE pE lM ((playT ranks room rE pE lO (List.replicate ranks (0, 0), []) nO).1, (playT ranks room rE pE lO (List.replicate ranks (0, 0), []) nO).2) nM).1)), .blk t #[svu2, .int .i64 ((room : Nat) : Int), .func (.func 103) #[] #[]] 228, .row (svu2) 230 3 (List.length ((playT ranks room rE pE lM ((playT ranks room rE pE lO (List.replicate ranks (0, 0), []) nO).1, (playT ranks room rE pE lO (List.replicate ranks (0, 0), []) nO).2) nM).2)) (List.flatMap pairLB ((playT ranks room rE pE lM ((playT ranks room rE pE lO (List.replicate ranks (0, 0), []) nO).1, (playT ranks room rE pE lO (List.replicate ranks (0, 0), []) nO).2) nM).2))]) (R := [.blk p2 #[.int .i64 rL, .int .i64 rE, .int .i64 pL, .int .i64 pE, .int .i64 ((room : Nat) : Int), .int .i64 hv, .slice (some ⟨gr2, 0, none⟩) ranks ranks, .pointer (some ⟨t2, 0, none⟩)] 187, .row (.slice (some ⟨gr2, 0, none⟩) ranks ranks) 86 2 ranks (List.flatMap bukL ((playT ranks room rE pE lM ((playT ranks room rE pE lO (List.replicate ranks (0, 0), []) nO).1, (playT ranks room rE pE lO (List.replicate ranks (0, 0), []) nO).2) nM).1)), .blk t2 #[svu3, .int .i64 ((room : Nat) : Int), .func (.func 103) #[] #[]] 228, .row (svu3) 230 3 (List.length ((playT ranks room rE pE lM ((playT ranks room rE pE lO (List.replicate ranks (0, 0), []) nO).1, (playT ranks room rE pE lO (List.replicate ranks (0, 0), []) nO).2) nM).2)) (List.flatMap pairLB ((playT ranks room rE pE lM ((playT ranks room rE pE lO (List.replicate ranks (0, 0), []) nO).1, (playT ranks room rE pE lO (List.replicate ranks (0, 0), []) nO).2) nM).2)), .row (.slice ad0 ranks cd0) 86 2 ranks (List.flatMap bukL ((playT ranks room rE pE lO (List.replicate ranks (0, 0), []) nO).1)), .row (.slice ad1 (List.length ((playT ranks room rE pE lO (List.replicate ranks (0, 0), []) nO).2)) cd1) 3 1 (List.length ((playT ranks room rE pE lO (List.replicate ranks (0, 0), []) nO).2)) (List.map (Value.int .i64) (List.map Prod.fst ((playT ranks room rE pE lO (List.replicate ranks (0, 0), []) nO).2))), .row (.slice ad2 (List.length ((playT ranks room rE pE lO (List.replicate ranks (0, 0), []) nO).2)) cd2) 86 2 (List.length ((playT ranks room rE pE lO (List.replicate ranks (0, 0), []) nO).2)) (List.flatMap bukL (List.map Prod.snd ((playT ranks room rE pE lO (List.replicate ranks (0, 0), []) nO).2))), .blk g1 #[.int .i64 rL, .int .i64 rE, .int .i64 pL, .int .i64 pE, .int .i64 ((room : Nat) : Int), .int .i64 hv] 80, .blk g2 #[.slice aR nR cR, .slice aP nP cP, .slice aB nB cB] 147]) (fun z => [.blk p #[.int .i64 rL, .int .i64 rE, .int .i64 pL, .int .i64 pE, .int .i64 ((room : Nat) : Int), .int .i64 hv, .slice (some ⟨gr, 0, none⟩) ranks ranks, .pointer (some ⟨t, 0, none⟩)] 187, .row (.slice (some ⟨gr, 0, none⟩) ranks ranks) 86 2 ranks (List.flatMap bukL ((playT ranks room rE pE lM ((playT ranks room rE pE lO (List.replicate ranks (0, 0), []) nO).1, (playT ranks room rE pE lO (List.replicate ranks (0, 0), []) nO).2) nM).1)), .blk t #[svu2, .int .i64 ((room : Nat) : Int), .func (.func 103) #[] #[]] 228, .row (svu2) 230 3 (List.length ((playT ranks room rE pE lM ((playT ranks room rE pE lO (List.replicate ranks (0, 0), []) nO).1, (playT ranks room rE pE lO (List.replicate ranks (0, 0), []) nO).2) nM).2)) (List.flatMap pairLB ((playT ranks room rE pE lM ((playT ranks room rE pE lO (List.replicate ranks (0, 0), []) nO).1, (playT ranks room rE pE lO (List.replicate ranks (0, 0), []) nO).2) nM).2)), .row (z.1) 86 2 ranks (List.flatMap bukL ((playT ranks room rE pE lM ((playT ranks room rE pE lO (List.replicate ranks (0, 0), []) nO).1, (playT ranks room rE pE lO (List.replicate ranks (0, 0), []) nO).2) nM).1)), .row (z.2.1) 3 1 (List.length ((playT ranks room rE pE lM ((playT ranks room rE pE lO (List.replicate ranks (0, 0), []) nO).1, (playT ranks room rE pE lO (List.replicate ranks (0, 0), []) nO).2) nM).2)) (List.map (Value.int .i64) (List.map Prod.fst ((playT ranks room rE pE lM ((playT ranks room rE pE lO (List.replicate ranks (0, 0), []) nO).1, (playT ranks room rE pE lO (List.replicate ranks (0, 0), []) nO).2) nM).2))), .row (z.2.2) 86 2 (List.length ((playT ranks room rE pE lM ((playT ranks room rE pE lO (List.replicate ranks (0, 0), []) nO).1, (playT ranks room rE pE lO (List.replicate ranks (0, 0), []) nO).2) nM).2)) (List.flatMap bukL (List.map Prod.snd ((playT ranks room rE pE lM ((playT ranks room rE pE lO (List.replicate ranks (0, 0), []) nO).1, (playT ranks room rE pE lO (List.replicate ranks (0, 0), []) nO).2) nM).2)))]) (fun z => .agg #[z.1, z.2.1, z.2.2]) (H.pick [4, 5, 6, 7, 0, 1, 2, 3, 8, 9, 10, 11, 12] _ (by decide) (by kernel_rfl)) (fun h => TState_of (by omega) (by omega) (by omega) _ h)) ?_
      rintro _ v15 ⟨⟨y2a, y2b, y2c⟩, rfl, H'⟩
      refine ⟨_, rfl, ?_⟩
      clear H
      have H : Hs [] w0 _ [.blk p #[.int .i64 rL, .int .i64 rE, .int .i64 pL, .int .i64 pE, .int .i64 ((room : Nat) : Int), .int .i64 hv, .slice (some ⟨gr, 0, none⟩) ranks ranks, .pointer (some ⟨t, 0, none⟩)] 187, .row (.slice (some ⟨gr, 0, none⟩) ranks ranks) 86 2 ranks (List.flatMap bukL ((playT ranks room rE pE lM ((playT ranks room rE pE lO (List.replicate ranks (0, 0), []) nO).1, (playT ranks room rE pE lO (List.replicate ranks (0, 0), []) nO).2) nM).1)), .blk t #[svu2, .int .i64 ((room : Nat) : Int), .func (.func 103) #[] #[]] 228, .row (svu2) 230 3 (List.length ((playT ranks room rE pE lM ((playT ranks room rE pE lO (List.replicate ranks (0, 0), []) nO).1, (playT ranks room rE pE lO (List.replicate ranks (0, 0), []) nO).2) nM).2)) (List.flatMap pairLB ((playT ranks room rE pE lM ((playT ranks room rE pE lO (List.replicate ranks (0, 0), []) nO).1, (playT ranks room rE pE lO (List.replicate ranks (0, 0), []) nO).2) nM).2)), .row (y2a) 86 2 ranks (List.flatMap bukL ((playT ranks room rE pE lM ((playT ranks room rE pE lO (List.replicate ranks (0, 0), []) nO).1, (playT ranks room rE pE lO (List.replicate ranks (0, 0), []) nO).2) nM).1)), .row (y2b) 3 1 (List.length ((playT ranks room rE pE lM ((playT ranks room rE pE lO (List.replicate ranks (0, 0), []) nO).1, (playT ranks room rE pE lO (List.replicate ranks (0, 0), []) nO).2) nM).2)) (List.map (Value.int .i64) (List.map Prod.fst ((playT ranks room rE pE lM ((playT ranks room rE pE lO (List.replicate ranks (0, 0), []) nO).1, (playT ranks room rE pE lO (List.replicate ranks (0, 0), []) nO).2) nM).2))), .row (y2c) 86 2 (List.length ((playT ranks room rE pE lM ((playT ranks room rE pE lO (List.replicate ranks (0, 0), []) nO).1, (playT ranks room rE pE lO (List.replicate ranks (0, 0), []) nO).2) nM).2)) (List.flatMap bukL (List.map Prod.snd ((playT ranks room rE pE lM ((playT ranks room rE pE lO (List.replicate ranks (0, 0), []) nO).1, (playT ranks room rE pE lO (List.replicate ranks (0, 0), []) nO).2) nM).2))), .blk p2 #[.int .i64 rL, .int .i64 rE, .int .i64 pL, .int .i64 pE, .int .i64 ((room : Nat) : Int), .int .i64 hv, .slice (some ⟨gr2, 0, none⟩) ranks ranks, .pointer (some ⟨t2, 0, none⟩)] 187, .row (.slice (some ⟨gr2, 0, none⟩) ranks ranks) 86 2 ranks (List.flatMap bukL ((playT ranks room rE pE lM ((playT ranks room rE pE lO (List.replicate ranks (0, 0), []) nO).1, (playT ranks room rE pE lO (List.replicate ranks (0, 0), []) nO).2) nM).1)), .blk t2 #[svu3, .int .i64 ((room : Nat) : Int), .func (.func 103) #[] #[]] 228, .row (svu3) 230 3 (List.length ((playT ranks room rE pE lM ((playT ranks room rE pE lO (List.replicate ranks (0, 0), []) nO).1, (playT ranks room rE pE lO (List.replicate ranks (0, 0), []) nO).2) nM).2)) (List.flatMap pairLB ((playT ranks room rE pE lM ((playT ranks room rE pE lO (List.replicate ranks (0, 0), []) nO).1, (playT ranks room rE pE lO (List.replicate ranks (0, 0), []) nO).2) nM).2)), .row (.slice ad0 ranks cd0) 86 2 ranks (List.flatMap bukL ((playT ranks room rE pE lO (List.replicate ranks (0, 0), []) nO).1)), .row (.slice ad1 (List.length ((playT ranks room rE pE lO (List.replicate ranks (0, 0), []) nO).2)) cd1) 3 1 (List.length ((playT ranks room rE pE lO (List.replicate ranks (0, 0), []) nO).2)) (List.map (Value.int .i64) (List.map Prod.fst ((playT ranks room rE pE lO (List.replicate ranks (0, 0), []) nO).2))), .row (.slice ad2 (List.length ((playT ranks room rE pE lO (List.replicate ranks (0, 0), []) nO).2)) cd2) 86 2 (List.length ((playT ranks room rE pE lO (List.replicate ranks (0, 0), []) nO).2)) (List.flatMap bukL (List.map Prod.snd ((playT ranks room rE pE lO (List.replicate ranks (0, 0), []) nO).2))), .blk g1 #[.int .i64 rL, .int .i64 rE, .int .i64 pL, .int .i64 pE, .int .i64 ((room : Nat) : Int), .int .i64 hv] 80, .blk g2 #[.slice aR nR cR, .slice aP nP cP, .slice aB nB cB] 147] := H'
      clear H'
      refine x_val (.pointer (some ⟨p2, 0, none⟩)) (by kernel_rfl) rfl (by kernel_rfl) ?_
      refine x_call (by kernel_rfl) rfl (by kernel_rfl) (Hs.useE (S := Value × Value × Value) (A := [.blk p2 #[.int .i64 rL, .int .i64 rE, .int .i64 pL, .int .i64 pE, .int .i64 ((room : Nat) : Int), .int .i64 hv, .slice (some ⟨gr2, 0, none⟩) ranks ranks, .pointer (some ⟨t2, 0, none⟩)] 187, .row (.slice (some ⟨gr2, 0, none⟩) ranks ranks) 86 2 ranks (List.flatMap bukL ((playT ranks room rE pE lM ((playT ranks room rE pE lO (List.replicate ranks (0, 0), []) nO).1, (playT ranks room rE pE lO (List.replicate ranks (0, 0), []) nO).2) nM).1)), .blk t2 #[svu3, .int .i64 ((room : Nat) : Int), .func (.func 103) #[] #[]] 228, .row (svu3) 230 3 (List.length ((playT ranks room rE pE lM ((playT ranks room rE pE lO (List.replicate ranks (0, 0), []) nO).1, (playT ranks room rE pE lO (List.replicate ranks (0, 0), []) nO).2) nM).2)) (List.flatMap pairLB ((playT ranks room rE pE lM ((playT ranks room rE pE lO (List.replicate ranks (0, 0), []) nO).1, (playT ranks room rE pE lO (List.replicate ranks (0, 0), []) nO).2) nM).2))]) (R := [.blk p #[.int .i64 rL, .int .i64 rE, .int .i64 pL, .int .i64 pE, .int .i64 ((room : Nat) : Int), .int .i64 hv, .slice (some ⟨gr, 0, none⟩) ranks ranks, .pointer (some ⟨t, 0, none⟩)] 187, .row (.slice (some ⟨gr, 0, none⟩) ranks ranks) 86 2 ranks (List.flatMap bukL ((playT ranks room rE pE lM ((playT ranks room rE pE lO (List.replicate ranks (0, 0), []) nO).1, (playT ranks room rE pE lO (List.replicate ranks (0, 0), []) nO).2) nM).1)), .blk t #[svu2, .int .i64 ((room : Nat) : Int), .func (.func 103) #[] #[]] 228, .row (svu2) 230 3 (List.length ((playT ranks room rE pE lM ((playT ranks room rE pE lO (List.replicate ranks (0, 0), []) nO).1, (playT ranks room rE pE lO (List.replicate ranks (0, 0), []) nO).2) nM).2)) (List.flatMap pairLB ((playT ranks room rE pE lM ((playT ranks room rE pE lO (List.replicate ranks (0, 0), []) nO).1, (playT ranks room rE pE lO (List.replicate ranks (0, 0), []) nO).2) nM).2)), .row (y2a) 86 2 ranks (List.flatMap bukL ((playT ranks room rE pE lM ((playT ranks room rE pE lO (List.replicate ranks (0, 0), []) nO).1, (playT ranks room rE pE lO (List.replicate ranks (0, 0), []) nO).2) nM).1)), .row (y2b) 3 1 (List.length ((playT ranks room rE pE lM ((playT ranks room rE pE lO (List.replicate ranks (0, 0), []) nO).1, (playT ranks room rE pE lO (List.replicate ranks (0, 0), []) nO).2) nM).2)) (List.map (Value.int .i64) (List.map Prod.fst ((playT ranks room rE pE lM ((playT ranks room rE pE lO (List.replicate ranks (0, 0), []) nO).1, (playT ranks room rE pE lO (List.replicate ranks (0, 0), []) nO).2) nM).2))), .row (y2c) 86 2 (List.length ((playT ranks room rE pE lM ((playT ranks room rE pE lO (List.replicate ranks (0, 0), []) nO).1, (playT ranks room rE pE lO (List.replicate ranks (0, 0), []) nO).2) nM).2)) (List.flatMap bukL (List.map Prod.snd ((playT ranks room rE pE lM ((playT ranks room rE pE lO (List.replicate ranks (0, 0), []) nO).1, (playT ranks room rE pE lO (List.replicate ranks (0, 0), []) nO).2) nM).2))), .row (.slice ad0 ranks cd0) 86 2 ranks (List.flatMap bukL ((playT ranks room rE pE lO (List.replicate ranks (0, 0), []) nO).1)), .row (.slice ad1 (List.length ((playT ranks room rE pE lO (List.replicate ranks (0, 0), []) nO).2)) cd1) 3 1 (List.length ((playT ranks room rE pE lO (List.replicate ranks (0, 0), []) nO).2)) (List.map (Value.int .i64) (List.map Prod.fst ((playT ranks room rE pE lO (List.replicate ranks (0, 0), []) nO).2))), .row (.slice ad2 (List.length ((playT ranks room rE pE lO (List.replicate ranks (0, 0), []) nO).2)) cd2) 86 2 (List.length ((playT ranks room rE pE lO (List.replicate ranks (0, 0), []) nO).2)) (List.flatMap bukL (List.map Prod.snd ((playT ranks room rE pE lO (List.replicate ranks (0, 0), []) nO).2))), .blk g1 #[.int .i64 rL, .int .i64 rE, .int .i64 pL, .int .i64 pE, .int .i64 ((room : Nat) : Int), .int .i64 hv] 80, .blk g2 #[.slice aR nR cR, .slice aP nP cP, .slice aB nB cB] 147]) (fun z => [.blk p2 #[.int .i64 rL, .int .i64 rE, .int .i64 pL, .int .i64 pE, .int .i64 ((room : Nat) : Int), .int .i64 hv, .slice (some ⟨gr2, 0, none⟩) ranks ranks, .pointer (some ⟨t2, 0, none⟩)] 187, .row (.slice (some ⟨gr2, 0, none⟩) ranks ranks) 86 2 ranks (List.flatMap bukL ((playT ranks room rE pE lM ((playT ranks room rE pE lO (List.replicate ranks (0, 0), []) nO).1, (playT ranks room rE pE lO (List.replicate ranks (0, 0), []) nO).2) nM).1)), .blk t2 #[svu3, .int .i64 ((room : Nat) : Int), .func (.func 103) #[] #[]] 228, .row (svu3) 230 3 (List.length ((playT ranks room rE pE lM ((playT ranks room rE pE lO (List.replicate ranks (0, 0), []) nO).1, (playT ranks room rE pE lO (List.replicate ranks (0, 0), []) nO).2) nM).2)) (List.flatMap pairLB ((playT ranks room rE pE lM ((playT ranks room rE pE lO (List.replicate ranks (0, 0), []) nO).1, (playT ranks room rE pE lO (List.replicate ranks (0, 0), []) nO).2) nM).2)), .row (z.1) 86 2 ranks (List.flatMap bukL ((playT ranks room rE pE lM ((playT ranks room rE pE lO (List.replicate ranks (0, 0), []) nO).1, (playT ranks room rE pE lO (List.replicate ranks (0, 0), []) nO).2) nM).1)), .row (z.2.1) 3 1 (List.length ((playT ranks room rE pE lM ((playT ranks room rE pE lO (List.replicate ranks (0, 0), []) nO).1, (playT ranks room rE pE lO (List.replicate ranks (0, 0), []) nO).2) nM).2)) (List.map (Value.int .i64) (List.map Prod.fst ((playT ranks room rE pE lM ((playT ranks room rE pE lO (List.replicate ranks (0, 0), []) nO).1, (playT ranks room rE pE lO (List.replicate ranks (0, 0), []) nO).2) nM).2))), .row (z.2.2) 86 2 (List.length ((playT ranks room rE pE lM ((playT ranks room rE pE lO (List.replicate ranks (0, 0), []) nO).1, (playT ranks room rE pE lO (List.replicate ranks (0, 0), []) nO).2) nM).2)) (List.flatMap bukL (List.map Prod.snd ((playT ranks room rE pE lM ((playT ranks room rE pE lO (List.replicate ranks (0, 0), []) nO).1, (playT ranks room rE pE lO (List.replicate ranks (0, 0), []) nO).2) nM).2)))]) (fun z => .agg #[z.1, z.2.1, z.2.2]) (H.pick [7, 8, 9, 10, 0, 1, 2, 3, 4, 5, 6, 11, 12, 13, 14, 15] _ (by decide) (by kernel_rfl)) (fun h => TState_of (by omega) (by omega) (by omega) _ h)) ?_
      rintro _ v16 ⟨⟨y3a, y3b, y3c⟩, rfl, H'⟩
      refine ⟨_, rfl, ?_⟩
      clear H
      have H : Hs [] w0 _ [.blk p2 #[.int .i64 rL, .int .i64 rE, .int .i64 pL, .int .i64 pE, .int .i64 ((room : Nat) : Int), .int .i64 hv, .slice (some ⟨gr2, 0, none⟩) ranks ranks, .pointer (some ⟨t2, 0, none⟩)] 187, .row (.slice (some ⟨gr2, 0, none⟩) ranks ranks) 86 2 ranks (List.flatMap bukL ((playT ranks room rE pE lM ((playT ranks room rE pE lO (List.replicate ranks (0, 0), []) nO).1, (playT ranks room rE pE lO (List.replicate ranks (0, 0), []) nO).2) nM).1)), .blk t2 #[svu3, .int .i64 ((room : Nat) : Int), .func (.func 103) #[] #[]] 228, .row (svu3) 230 3 (List.length ((playT ranks room rE pE lM ((playT ranks room rE pE lO (List.replicate ranks (0, 0), []) nO).1, (playT ranks room rE pE lO (List.replicate ranks (0, 0), []) nO).2) nM).2)) (List.flatMap pairLB ((playT ranks room rE pE lM ((playT ranks room rE pE lO (List.replicate ranks (0, 0), []) nO).1, (playT ranks room rE pE lO (List.replicate ranks (0, 0), []) nO).2) nM).2)), .row (y3a) 86 2 ranks (List.flatMap bukL ((playT ranks room rE pE lM ((playT ranks room rE pE lO (List.replicate ranks (0, 0), []) nO).1, (playT ranks room rE pE lO (List.replicate ranks (0, 0), []) nO).2) nM).1)), .row (y3b) 3 1 (List.length ((playT ranks room rE pE lM ((playT ranks room rE pE lO (List.replicate ranks (0, 0), []) nO).1, (playT ranks room rE pE lO (List.replicate ranks (0, 0), []) nO).2) nM).2)) (List.map (Value.int .i64) (List.map Prod.fst ((playT ranks room rE pE lM ((playT ranks room rE pE lO (List.replicate ranks (0, 0), []) nO).1, (playT ranks room rE pE lO (List.replicate ranks (0, 0), []) nO).2) nM).2))), .row (y3c) 86 2 (List.length ((playT ranks room rE pE lM ((playT ranks room rE pE lO (List.replicate ranks (0, 0), []) nO).1, (playT ranks room rE pE lO (List.replicate ranks (0, 0), []) nO).2) nM).2)) (List.flatMap bukL (List.map Prod.snd ((playT ranks room rE pE lM ((playT ranks room rE pE lO (List.replicate ranks (0, 0), []) nO).1, (playT ranks room rE pE lO (List.replicate ranks (0, 0), []) nO).2) nM).2))), .blk p #[.int .i64 rL, .int .i64 rE, .int .i64 pL, .int .i64 pE, .int .i64 ((room : Nat) : Int), .int .i64 hv, .slice (some ⟨gr, 0, none⟩) ranks ranks, .pointer (some ⟨t, 0, none⟩)] 187, .row (.slice (some ⟨gr, 0, none⟩) ranks ranks) 86 2 ranks (List.flatMap bukL ((playT ranks room rE pE lM ((playT ranks room rE pE lO (List.replicate ranks (0, 0), []) nO).1, (playT ranks room rE pE lO (List.replicate ranks (0, 0), []) nO).2) nM).1)), .blk t #[svu2, .int .i64 ((room : Nat) : Int), .func (.func 103) #[] #[]] 228, .row (svu2) 230 3 (List.length ((playT ranks room rE pE lM ((playT ranks room rE pE lO (List.replicate ranks (0, 0), []) nO).1, (playT ranks room rE pE lO (List.replicate ranks (0, 0), []) nO).2) nM).2)) (List.flatMap pairLB ((playT ranks room rE pE lM ((playT ranks room rE pE lO (List.replicate ranks (0, 0), []) nO).1, (playT ranks room rE pE lO (List.replicate ranks (0, 0), []) nO).2) nM).2)), .row (y2a) 86 2 ranks (List.flatMap bukL ((playT ranks room rE pE lM ((playT ranks room rE pE lO (List.replicate ranks (0, 0), []) nO).1, (playT ranks room rE pE lO (List.replicate ranks (0, 0), []) nO).2) nM).1)), .row (y2b) 3 1 (List.length ((playT ranks room rE pE lM ((playT ranks room rE pE lO (List.replicate ranks (0, 0), []) nO).1, (playT ranks room rE pE lO (List.replicate ranks (0, 0), []) nO).2) nM).2)) (List.map (Value.int .i64) (List.map Prod.fst ((playT ranks room rE pE lM ((playT ranks room rE pE lO (List.replicate ranks (0, 0), []) nO).1, (playT ranks room rE pE lO (List.replicate ranks (0, 0), []) nO).2) nM).2))), .row (y2c) 86 2 (List.length ((playT ranks room rE pE lM ((playT ranks room rE pE lO (List.replicate ranks (0, 0), []) nO).1, (playT ranks room rE pE lO (List.replicate ranks (0, 0), []) nO).2) nM).2)) (List.flatMap bukL (List.map Prod.snd ((playT ranks room rE pE lM ((playT ranks room rE pE lO (List.replicate ranks (0, 0), []) nO).1, (playT ranks room rE pE lO (List.replicate ranks (0, 0), []) nO).2) nM).2))), .row (.slice ad0 ranks cd0) 86 2 ranks (List.flatMap bukL ((playT ranks room rE pE lO (List.replicate ranks (0, 0), []) nO).1)), .row (.slice ad1 (List.length ((playT ranks room rE pE lO (List.replicate ranks (0, 0), []) nO).2)) cd1) 3 1 (List.length ((playT ranks room rE pE lO (List.replicate ranks (0, 0), []) nO).2)) (List.map (Value.int .i64) (List.map Prod.fst ((playT ranks room rE pE lO (List.replicate ranks (0, 0), []) nO).2))), .row (.slice ad2 (List.length ((playT ranks room rE pE lO (List.replicate ranks (0, 0), []) nO).2)) cd2) 86 2 (List.length ((playT ranks room rE pE lO (List.replicate ranks (0, 0), []) nO).2)) (List.flatMap bukL (List.map Prod.snd ((playT ranks room rE pE lO (List.replicate ranks (0, 0), []) nO).2))), .blk g1 #[.int .i64 rL, .int .i64 rE, .int .i64 pL, .int .i64 pE, .int .i64 ((room : Nat) : Int), .int .i64 hv] 80, .blk g2 #[.slice aR nR cR, .slice aP nP cP, .slice aB nB cB] 147] := H'
      clear H'
      refine x_callH (.bool true) [.blk p2 #[.int .i64 rL, .int .i64 rE, .int .i64 pL, .int .i64 pE, .int .i64 ((room : Nat) : Int), .int .i64 hv, .slice (some ⟨gr2, 0, none⟩) ranks ranks, .pointer (some ⟨t2, 0, none⟩)] 187, .row (.slice (some ⟨gr2, 0, none⟩) ranks ranks) 86 2 ranks (List.flatMap bukL ((playT ranks room rE pE lM ((playT ranks room rE pE lO (List.replicate ranks (0, 0), []) nO).1, (playT ranks room rE pE lO (List.replicate ranks (0, 0), []) nO).2) nM).1)), .blk t2 #[svu3, .int .i64 ((room : Nat) : Int), .func (.func 103) #[] #[]] 228, .row (svu3) 230 3 (List.length ((playT ranks room rE pE lM ((playT ranks room rE pE lO (List.replicate ranks (0, 0), []) nO).1, (playT ranks room rE pE lO (List.replicate ranks (0, 0), []) nO).2) nM).2)) (List.flatMap pairLB ((playT ranks room rE pE lM ((playT ranks room rE pE lO (List.replicate ranks (0, 0), []) nO).1, (playT ranks room rE pE lO (List.replicate ranks (0, 0), []) nO).2) nM).2)), .blk p #[.int .i64 rL, .int .i64 rE, .int .i64 pL, .int .i64 pE, .int .i64 ((room : Nat) : Int), .int .i64 hv, .slice (some ⟨gr, 0, none⟩) ranks ranks, .pointer (some ⟨t, 0, none⟩)] 187, .row (.slice (some ⟨gr, 0, none⟩) ranks ranks) 86 2 ranks (List.flatMap bukL ((playT ranks room rE pE lM ((playT ranks room rE pE lO (List.replicate ranks (0, 0), []) nO).1, (playT ranks room rE pE lO (List.replicate ranks (0, 0), []) nO).2) nM).1)), .blk t #[svu2, .int .i64 ((room : Nat) : Int), .func (.func 103) #[] #[]] 228, .row (svu2) 230 3 (List.length ((playT ranks room rE pE lM ((playT ranks room rE pE lO (List.replicate ranks (0, 0), []) nO).1, (playT ranks room rE pE lO (List.replicate ranks (0, 0), []) nO).2) nM).2)) (List.flatMap pairLB ((playT ranks room rE pE lM ((playT ranks room rE pE lO (List.replicate ranks (0, 0), []) nO).1, (playT ranks room rE pE lO (List.replicate ranks (0, 0), []) nO).2) nM).2)), .row (.slice ad0 ranks cd0) 86 2 ranks (List.flatMap bukL ((playT ranks room rE pE lO (List.replicate ranks (0, 0), []) nO).1)), .row (.slice ad1 (List.length ((playT ranks room rE pE lO (List.replicate ranks (0, 0), []) nO).2)) cd1) 3 1 (List.length ((playT ranks room rE pE lO (List.replicate ranks (0, 0), []) nO).2)) (List.map (Value.int .i64) (List.map Prod.fst ((playT ranks room rE pE lO (List.replicate ranks (0, 0), []) nO).2))), .row (.slice ad2 (List.length ((playT ranks room rE pE lO (List.replicate ranks (0, 0), []) nO).2)) cd2) 86 2 (List.length ((playT ranks room rE pE lO (List.replicate ranks (0, 0), []) nO).2)) (List.flatMap bukL (List.map Prod.snd ((playT ranks room rE pE lO (List.replicate ranks (0, 0), []) nO).2))), .blk g1 #[.int .i64 rL, .int .i64 rE, .int .i64 pL, .int .i64 pE, .int .i64 ((room : Nat) : Int), .int .i64 hv] 80, .blk g2 #[.slice aR nR cR, .slice aP nP cP, .slice aB nB cB] 147] (by kernel_rfl) rfl (by kernel_rfl) (Hs.use (A := [.row (y2a) 86 2 ranks (List.flatMap bukL ((playT ranks room rE pE lM ((playT ranks room rE pE lO (List.replicate ranks (0, 0), []) nO).1, (playT ranks room rE pE lO (List.replicate ranks (0, 0), []) nO).2) nM).1)), .row (y2b) 3 1 (List.length ((playT ranks room rE pE lM ((playT ranks room rE pE lO (List.replicate ranks (0, 0), []) nO).1, (playT ranks room rE pE lO (List.replicate ranks (0, 0), []) nO).2) nM).2)) (List.map (Value.int .i64) (List.map Prod.fst ((playT ranks room rE pE lM ((playT ranks room rE pE lO (List.replicate ranks (0, 0), []) nO).1, (playT ranks room rE pE lO (List.replicate ranks (0, 0), []) nO).2) nM).2))), .row (y2c) 86 2 (List.length ((playT ranks room rE pE lM ((playT ranks room rE pE lO (List.replicate ranks (0, 0), []) nO).1, (playT ranks room rE pE lO (List.replicate ranks (0, 0), []) nO).2) nM).2)) (List.flatMap bukL (List.map Prod.snd ((playT ranks room rE pE lM ((playT ranks room rE pE lO (List.replicate ranks (0, 0), []) nO).1, (playT ranks room rE pE lO (List.replicate ranks (0, 0), []) nO).2) nM).2))), .row (y3a) 86 2 ranks (List.flatMap bukL ((playT ranks room rE pE lM ((playT ranks room rE pE lO (List.replicate ranks (0, 0), []) nO).1, (playT ranks room rE pE lO (List.replicate ranks (0, 0), []) nO).2) nM).1)), .row (y3b) 3 1 (List.length ((playT ranks room rE pE lM ((playT ranks room rE pE lO (List.replicate ranks (0, 0), []) nO).1, (playT ranks room rE pE lO (List.replicate ranks (0, 0), []) nO).2) nM).2)) (List.map (Value.int .i64) (List.map Prod.fst ((playT ranks room rE pE lM ((playT ranks room rE pE lO (List.replicate ranks (0, 0), []) nO).1, (playT ranks room rE pE lO (List.replicate ranks (0, 0), []) nO).2) nM).2))), .row (y3c) 86 2 (List.length ((playT ranks room rE pE lM ((playT ranks room rE pE lO (List.replicate ranks (0, 0), []) nO).1, (playT ranks room rE pE lO (List.replicate ranks (0, 0), []) nO).2) nM).2)) (List.flatMap bukL (List.map Prod.snd ((playT ranks room rE pE lM ((playT ranks room rE pE lO (List.replicate ranks (0, 0), []) nO).1, (playT ranks room rE pE lO (List.replicate ranks (0, 0), []) nO).2) nM).2)))]) (R := [.blk p2 #[.int .i64 rL, .int .i64 rE, .int .i64 pL, .int .i64 pE, .int .i64 ((room : Nat) : Int), .int .i64 hv, .slice (some ⟨gr2, 0, none⟩) ranks ranks, .pointer (some ⟨t2, 0, none⟩)] 187, .row (.slice (some ⟨gr2, 0, none⟩) ranks ranks) 86 2 ranks (List.flatMap bukL ((playT ranks room rE pE lM ((playT ranks room rE pE lO (List.replicate ranks (0, 0), []) nO).1, (playT ranks room rE pE lO (List.replicate ranks (0, 0), []) nO).2) nM).1)), .blk t2 #[svu3, .int .i64 ((room : Nat) : Int), .func (.func 103) #[] #[]] 228, .row (svu3) 230 3 (List.length ((playT ranks room rE pE lM ((playT ranks room rE pE lO (List.replicate ranks (0, 0), []) nO).1, (playT ranks room rE pE lO (List.replicate ranks (0, 0), []) nO).2) nM).2)) (List.flatMap pairLB ((playT ranks room rE pE lM ((playT ranks room rE pE lO (List.replicate ranks (0, 0), []) nO).1, (playT ranks room rE pE lO (List.replicate ranks (0, 0), []) nO).2) nM).2)), .blk p #[.int .i64 rL, .int .i64 rE, .int .i64 pL, .int .i64 pE, .int .i64 ((room : Nat) : Int), .int .i64 hv, .slice (some ⟨gr, 0, none⟩) ranks ranks, .pointer (some ⟨t, 0, none⟩)] 187, .row (.slice (some ⟨gr, 0, none⟩) ranks ranks) 86 2 ranks (List.flatMap bukL ((playT ranks room rE pE lM ((playT ranks room rE pE lO (List.replicate ranks (0, 0), []) nO).1, (playT ranks room rE pE lO (List.replicate ranks (0, 0), []) nO).2) nM).1)), .blk t #[svu2, .int .i64 ((room : Nat) : Int), .func (.func 103) #[] #[]] 228, .row (svu2) 230 3 (List.length ((playT ranks room rE pE lM ((playT ranks room rE pE lO (List.replicate ranks (0, 0), []) nO).1, (playT ranks room rE pE lO (List.replicate ranks (0, 0), []) nO).2) nM).2)) (List.flatMap pairLB ((playT ranks room rE pE lM ((playT ranks room rE pE lO (List.replicate ranks (0, 0), []) nO).1, (playT ranks room rE pE lO (List.replicate ranks (0, 0), []) nO).2) nM).2)), .row (.slice ad0 ranks cd0) 86 2 ranks (List.flatMap bukL ((playT ranks room rE pE lO (List.replicate ranks (0, 0), []) nO).1)), .row (.slice ad1 (List.length ((playT ranks room rE pE lO (List.replicate ranks (0, 0), []) nO).2)) cd1) 3 1 (List.length ((playT ranks room rE pE lO (List.replicate ranks (0, 0), []) nO).2)) (List.map (Value.int .i64) (List.map Prod.fst ((playT ranks room rE pE lO (List.replicate ranks (0, 0), []) nO).2))), .row (.slice ad2 (List.length ((playT ranks room rE pE lO (List.replicate ranks (0, 0), []) nO).2)) cd2) 86 2 (List.length ((playT ranks room rE pE lO (List.replicate ranks (0, 0), []) nO).2)) (List.flatMap bukL (List.map Prod.snd ((playT ranks room rE pE lO (List.replicate ranks (0, 0), []) nO).2))), .blk g1 #[.int .i64 rL, .int .i64 rE, .int .i64 pL, .int .i64 pE, .int .i64 ((room : Nat) : Int), .int .i64 hv] 80, .blk g2 #[.slice aR nR cR, .slice aP nP cP, .slice aB nB cB] 147]) (H.pick [11, 12, 13, 4, 5, 6, 0, 1, 2, 3, 7, 8, 9, 10, 14, 15, 16, 17, 18] _ (by decide) (by kernel_rfl)) (fun h => Alike_of hk2.n (len_snd _) (len_fst _) (by omega) (by omega) _ h)) ?_
      clear H
      intro v17 H
      refine x_val (.bool true) (by kernel_rfl) rfl (by kernel_rfl) ?_
      refine x_nil ?_
      refine x_then ?_
      refine x_retc ?_
      refine x_ret (.bool true) (by kernel_rfl) (by kernel_rfl) ?_
      exact ⟨rfl, H.below⟩
  · skip
    refine x_seq ?_
    refine x_region ?_
    refine x_loadn (t := 80) H 1 g1 0 _ _ [.int .i64 rL, .int .i64 rE, .int .i64 pL, .int .i64 pE, .int .i64 ((room : Nat) : Int), .int .i64 hv] rfl (by kernel_rfl) (by kernel_rfl) rfl (by kernel_rfl) (by kernel_rfl) ?_
    refine x_loadn (t := 147) H 0 g2 0 _ _ [.slice aR nR cR, .slice aP nP cP, .slice aB nB cB] rfl (by kernel_rfl) (by kernel_rfl) rfl (by kernel_rfl) (by kernel_rfl) ?_
    cases h2 : fit
    · skip
      have hf : ¬ FitT room rE pE lR lP lB nR nP nB := fun z => absurd (hfit.2 z) (by rw [h2]; decide)
      refine x_callB (.tuple #[.pointer none, .int .i64 10]) H (by kernel_rfl) rfl (by kernel_rfl) (TRes_bad rL rE pL pE hv room aR aP aB nR nP nB cR cP cB lR lP lB hlR hb (by omega) (by omega) hf _ (hAR.at H.below) (hAP.at H.below) (hAB.at H.below)) ?_
      clear H
      intro v18 H
      refine x_val (.tuple #[.pointer none, .int .i64 10]) (by kernel_rfl) rfl (by kernel_rfl) ?_
      refine x_val (.pointer none) (by kernel_rfl) rfl (by kernel_rfl) ?_
      refine x_val (.int .i64 10) (by kernel_rfl) rfl (by kernel_rfl) ?_
      refine x_val (.pointer none) (by kernel_rfl) rfl (by kernel_rfl) ?_
      refine x_val (.int .i64 10) (by kernel_rfl) rfl (by kernel_rfl) ?_
      refine x_nil ?_
      refine x_then ?_
      refine x_seq ?_
      refine x_seq ?_
      refine x_region ?_
      refine x_loadn (t := 80) H 1 g1 0 _ _ [.int .i64 rL, .int .i64 rE, .int .i64 pL, .int .i64 pE, .int .i64 ((room : Nat) : Int), .int .i64 hv] rfl (by kernel_rfl) (by kernel_rfl) rfl (by kernel_rfl) (by kernel_rfl) ?_
      refine x_callB (.bool true) H (by kernel_rfl) rfl (by kernel_rfl) (RulRight_yes rL rE pL pE hv ((room : Nat) : Int) hb _) ?_
      clear H
      intro v19 H
      refine x_val (.bool false) (by kernel_rfl) rfl (by kernel_rfl) ?_
      refine x_nil ?_
      refine x_then ?_
      refine x_f (by kernel_rfl) ?_
      refine x_skipc ?_
      refine x_then ?_
      refine x_seq ?_
      refine x_cut (fun a w' => ∃ fb : Bool, ∃ uf2 : Nat → Value, a = { tmps := #[.agg #[.int .i64 rL, .int .i64 rE, .int .i64 pL, .int .i64 pE, .int .i64 ((room : Nat) : Int), .int .i64 hv], .int .i64 rk, .slice aO nO cO, .slice aM nM cM, .agg #[.slice aR nR cR, .slice aP nP cP, .slice aB nB cB], .pointer (some ⟨g1, 0, none⟩), undef, undef, undef, .pointer (some ⟨g2, 0, none⟩), .bool false, .pointer none, .int .i64 10, .bool fb, undef, undef, undef, undef, undef, undef, undef, undef, undef, undef, undef, undef, .bool true, .bool false, .slice aO nO cO, .int .i64 ((nO : Nat) : Int), .bool false, .bool false, .slice aM nM cM, .int .i64 ((nM : Nat) : Int), .bool false, .bool false, .bool false, .pointer (some ⟨g2, 0, none⟩), .slice aR nR cR, .int .i64 ((nR : Nat) : Int), .bool false, .bool false, .bool false, .pointer (some ⟨g2, 1, none⟩), .slice aP nP cP, .int .i64 ((nP : Nat) : Int), .bool false, .bool false, .bool false, .pointer (some ⟨g2, 2, none⟩), .slice aB nB cB, .int .i64 ((nB : Nat) : Int), .bool false, .bool false, .tuple #[.pointer none, .int .i64 10], .agg #[.int .i64 rL, .int .i64 rE, .int .i64 pL, .int .i64 pE, .int .i64 ((room : Nat) : Int), .int .i64 hv], .agg #[.slice aR nR cR, .slice aP nP cP, .slice aB nB cB], .tuple #[.pointer none, .int .i64 10], .pointer none, .int .i64 10, .agg #[.int .i64 rL, .int .i64 rE, .int .i64 pL, .int .i64 pE, .int .i64 ((room : Nat) : Int), .int .i64 hv], .bool true, .bool false, undef, undef, undef, undef, undef, undef, (uf2 0), (uf2 1), (uf2 2), (uf2 3), (uf2 4), (uf2 5), (uf2 6), (uf2 7), (uf2 8), (uf2 9), (uf2 10), (uf2 11), (uf2 12), (uf2 13), (uf2 14), (uf2 15), (uf2 16), (uf2 17), (uf2 18), (uf2 19), (uf2 20), (uf2 21), (uf2 22), (uf2 23), (uf2 24), (uf2 25), (uf2 26), undef, undef, undef, undef, undef, undef, undef, undef, undef, undef, undef, undef, undef, undef, undef, undef, undef, undef, undef, undef, undef, undef, undef, undef, undef, undef, undef, undef, undef, undef, undef, undef, undef, undef, undef, undef, undef, undef, undef, undef, undef, undef, undef, undef, undef, undef, undef, undef, undef, undef, undef, undef, undef, undef, undef, undef, undef, undef, undef, undef, undef, undef, undef, undef, undef, undef, undef, undef, undef, undef, undef, undef, undef, undef, undef, undef, undef, undef, undef, undef, undef, undef, undef, undef, undef, undef, undef, undef, undef, undef, undef, undef, undef, undef, undef, undef, undef, undef, undef, undef, undef, undef, undef, undef, undef, undef, undef, undef], defers := [] } ∧ Hs [] w0 w' [.blk g2 #[.slice aR nR cR, .slice aP nP cP, .slice aB nB cB] 147, .blk g1 #[.int .i64 rL, .int .i64 rE, .int .i64 pL, .int .i64 pE, .int .i64 ((room : Nat) : Int), .int .i64 hv] 80] ∧ (fb = true ↔ ((1 ≤ nR ∧ nR ≤ 8) ∧ nP = nB ∧ nP ≤ room))) ?_ ?_
      · skip
        refine x_region ?_
        refine x_val (.pointer (some ⟨g2, 0, none⟩)) (by kernel_rfl) rfl (by kernel_rfl) ?_
        refine x_load1 H 0 g2 0 _ _ (.slice aR nR cR) rfl (by kernel_rfl) (by kernel_rfl) rfl (by kernel_rfl) ?_
        refine x_val (.int .i64 ((nR : Nat) : Int)) (by kernel_rfl) rfl (by kernel_rfl) ?_
        refine x_val (.bool (decide (1 ≤ ((nR : Nat) : Int)))) (by kernel_rfl) rfl (by kernel_rfl) ?_
        refine x_val (.bool (decide (1 ≤ ((nR : Nat) : Int)))) (by kernel_rfl) rfl (by kernel_rfl) ?_
        cases h3 : decide (1 ≤ ((nR : Nat) : Int))
        · skip
          have h3p := of_decide_eq_false h3
          refine x_skip (by kernel_rfl) ?_
          refine x_skip (by kernel_rfl) ?_
          refine x_skip (by kernel_rfl) ?_
          refine x_skip (by kernel_rfl) ?_
          refine x_val (.bool false) (by kernel_rfl) rfl (by kernel_rfl) ?_
          refine x_val (.bool false) (by kernel_rfl) rfl (by kernel_rfl) ?_
          refine x_skip (by kernel_rfl) ?_
          refine x_skip (by kernel_rfl) ?_
          refine x_skip (by kernel_rfl) ?_
          refine x_skip (by kernel_rfl) ?_
          refine x_skip (by kernel_rfl) ?_
          refine x_skip (by kernel_rfl) ?_
          refine x_skip (by kernel_rfl) ?_
          refine x_val (.bool false) (by kernel_rfl) rfl (by kernel_rfl) ?_
          refine x_val (.bool false) (by kernel_rfl) rfl (by kernel_rfl) ?_
          refine x_skip (by kernel_rfl) ?_
          refine x_skip (by kernel_rfl) ?_
          refine x_skip (by kernel_rfl) ?_
          refine x_skip (by kernel_rfl) ?_
          refine x_skip (by kernel_rfl) ?_
          refine x_skip (by kernel_rfl) ?_
          refine x_val (.bool false) (by kernel_rfl) rfl (by kernel_rfl) ?_
          refine x_val (.bool false) (by kernel_rfl) rfl (by kernel_rfl) ?_
          refine x_nil ?_
          refine x_frame' { tmps := #[.agg #[.int .i64 rL, .int .i64 rE, .int .i64 pL, .int .i64 pE, .int .i64 ((room : Nat) : Int), .int .i64 hv], .int .i64 rk, .slice aO nO cO, .slice aM nM cM, .agg #[.slice aR nR cR, .slice aP nP cP, .slice aB nB cB], .pointer (some ⟨g1, 0, none⟩), undef, undef, undef, .pointer (some ⟨g2, 0, none⟩), .bool false, .pointer none, .int .i64 10, .bool false, undef, undef, undef, undef, undef, undef, undef, undef, undef, undef, undef, undef, .bool true, .bool false, .slice aO nO cO, .int .i64 ((nO : Nat) : Int), .bool false, .bool false, .slice aM nM cM, .int .i64 ((nM : Nat) : Int), .bool false, .bool false, .bool false, .pointer (some ⟨g2, 0, none⟩), .slice aR nR cR, .int .i64 ((nR : Nat) : Int), .bool false, .bool false, .bool false, .pointer (some ⟨g2, 1, none⟩), .slice aP nP cP, .int .i64 ((nP : Nat) : Int), .bool false, .bool false, .bool false, .pointer (some ⟨g2, 2, none⟩), .slice aB nB cB, .int .i64 ((nB : Nat) : Int), .bool false, .bool false, .tuple #[.pointer none, .int .i64 10], .agg #[.int .i64 rL, .int .i64 rE, .int .i64 pL, .int .i64 pE, .int .i64 ((room : Nat) : Int), .int .i64 hv], .agg #[.slice aR nR cR, .slice aP nP cP, .slice aB nB cB], .tuple #[.pointer none, .int .i64 10], .pointer none, .int .i64 10, .agg #[.int .i64 rL, .int .i64 rE, .int .i64 pL, .int .i64 pE, .int .i64 ((room : Nat) : Int), .int .i64 hv], .bool true, .bool false, undef, undef, undef, undef, undef, undef, .pointer (some ⟨g2, 0, none⟩), .slice aR nR cR, .int .i64 ((nR : Nat) : Int), .bool false, .bool false, undef, undef, undef, undef, .bool false, .bool false, undef, undef, undef, undef, undef, undef, undef, .bool false, .bool false, undef, undef, undef, undef, undef, undef, .bool false, undef, undef, undef, undef, undef, undef, undef, undef, undef, undef, undef, undef, undef, undef, undef, undef, undef, undef, undef, undef, undef, undef, undef, undef, undef, undef, undef, undef, undef, undef, undef, undef, undef, undef, undef, undef, undef, undef, undef, undef, undef, undef, undef, undef, undef, undef, undef, undef, undef, undef, undef, undef, undef, undef, undef, undef, undef, undef, undef, undef, undef, undef, undef, undef, undef, undef, undef, undef, undef, undef, undef, undef, undef, undef, undef, undef, undef, undef, undef, undef, undef, undef, undef, undef, undef, undef, undef, undef, undef, undef, undef, undef, undef, undef, undef, undef, undef, undef, undef, undef, undef, undef, undef, undef, undef, undef, undef, undef], defers := [] } (by kernel_rfl) ?_
          refine x_then ?_
          exact ⟨false, (nthV [.pointer (some ⟨g2, 0, none⟩), .slice aR nR cR, .int .i64 ((nR : Nat) : Int), .bool false, .bool false, undef, undef, undef, undef, .bool false, .bool false, undef, undef, undef, undef, undef, undef, undef, .bool false, .bool false, undef, undef, undef, undef, undef, undef, .bool false]), (by kernel_rfl), H, (by simp only [Bool.false_eq_true, decide_eq_true_eq, false_iff]; omega)⟩
        · skip
          have h3p := of_decide_eq_true h3
          refine x_val (.pointer (some ⟨g2, 0, none⟩)) (by kernel_rfl) rfl (by kernel_rfl) ?_
          refine x_load1 H 0 g2 0 _ _ (.slice aR nR cR) rfl (by kernel_rfl) (by kernel_rfl) rfl (by kernel_rfl) ?_
          refine x_val (.int .i64 ((nR : Nat) : Int)) (by kernel_rfl) rfl (by kernel_rfl) ?_
          refine x_val (.bool (decide (((nR : Nat) : Int) ≤ 8))) (by kernel_rfl) rfl (by kernel_rfl) ?_
          refine x_val (.bool (decide (((nR : Nat) : Int) ≤ 8))) (by kernel_rfl) rfl (by kernel_rfl) ?_
          refine x_val (.bool (decide (((nR : Nat) : Int) ≤ 8))) (by kernel_rfl) rfl (by kernel_rfl) ?_
          cases h4 : decide (((nR : Nat) : Int) ≤ 8)
          · skip
            have h4p := of_decide_eq_false h4
            refine x_skip (by kernel_rfl) ?_
            refine x_skip (by kernel_rfl) ?_
            refine x_skip (by kernel_rfl) ?_
            refine x_skip (by kernel_rfl) ?_
            refine x_skip (by kernel_rfl) ?_
            refine x_skip (by kernel_rfl) ?_
            refine x_skip (by kernel_rfl) ?_
            refine x_val (.bool false) (by kernel_rfl) rfl (by kernel_rfl) ?_
            refine x_val (.bool false) (by kernel_rfl) rfl (by kernel_rfl) ?_
            refine x_skip (by kernel_rfl) ?_
            refine x_skip (by kernel_rfl) ?_
            refine x_skip (by kernel_rfl) ?_
            refine x_skip (by kernel_rfl) ?_
            refine x_skip (by kernel_rfl) ?_
            refine x_skip (by kernel_rfl) ?_
            refine x_val (.bool false) (by kernel_rfl) rfl (by kernel_rfl) ?_
            refine x_val (.bool false) (by kernel_rfl) rfl (by kernel_rfl) ?_
            refine x_nil ?_
            refine x_frame' { tmps := #[.agg #[.int .i64 rL, .int .i64 rE, .int .i64 pL, .int .i64 pE, .int .i64 ((room : Nat) : Int), .int .i64 hv], .int .i64 rk, .slice aO nO cO, .slice aM nM cM, .agg #[.slice aR nR cR, .slice aP nP cP, .slice aB nB cB], .pointer (some ⟨g1, 0, none⟩), undef, undef, undef, .pointer (some ⟨g2, 0, none⟩), .bool false, .pointer none, .int .i64 10, .bool false, undef, undef, undef, undef, undef, undef, undef, undef, undef, undef, undef, undef, .bool true, .bool false, .slice aO nO cO, .int .i64 ((nO : Nat) : Int), .bool false, .bool false, .slice aM nM cM, .int .i64 ((nM : Nat) : Int), .bool false, .bool false, .bool false, .pointer (some ⟨g2, 0, none⟩), .slice aR nR cR, .int .i64 ((nR : Nat) : Int), .bool false, .bool false, .bool false, .pointer (some ⟨g2, 1, none⟩), .slice aP nP cP, .int .i64 ((nP : Nat) : Int), .bool false, .bool false, .bool false, .pointer (some ⟨g2, 2, none⟩), .slice aB nB cB, .int .i64 ((nB : Nat) : Int), .bool false, .bool false, .tuple #[.pointer none, .int .i64 10], .agg #[.int .i64 rL, .int .i64 rE, .int .i64 pL, .int .i64 pE, .int .i64 ((room : Nat) : Int), .int .i64 hv], .agg #[.slice aR nR cR, .slice aP nP cP, .slice aB nB cB], .tuple #[.pointer none, .int .i64 10], .pointer none, .int .i64 10, .agg #[.int .i64 rL, .int .i64 rE, .int .i64 pL, .int .i64 pE, .int .i64 ((room : Nat) : Int), .int .i64 hv], .bool true, .bool false, undef, undef, undef, undef, undef, undef, .pointer (some ⟨g2, 0, none⟩), .slice aR nR cR, .int .i64 ((nR : Nat) : Int), .bool true, .bool true, .pointer (some ⟨g2, 0, none⟩), .slice aR nR cR, .int .i64 ((nR : Nat) : Int), .bool false, .bool false, .bool false, undef, undef, undef, undef, undef, undef, undef, .bool false, .bool false, undef, undef, undef, undef, undef, undef, .bool false, undef, undef, undef, undef, undef, undef, undef, undef, undef, undef, undef, undef, undef, undef, undef, undef, undef, undef, undef, undef, undef, undef, undef, undef, undef, undef, undef, undef, undef, undef, undef, undef, undef, undef, undef, undef, undef, undef, undef, undef, undef, undef, undef, undef, undef, undef, undef, undef, undef, undef, undef, undef, undef, undef, undef, undef, undef, undef, undef, undef, undef, undef, undef, undef, undef, undef, undef, undef, undef, undef, undef, undef, undef, undef, undef, undef, undef, undef, undef, undef, undef, undef, undef, undef, undef, undef, undef, undef, undef, undef, undef, undef, undef, undef, undef, undef, undef, undef, undef, undef, undef, undef, undef, undef, undef, undef, undef, undef], defers := [] } (by kernel_rfl) ?_
            refine x_then ?_
            exact ⟨false, (nthV [.pointer (some ⟨g2, 0, none⟩), .slice aR nR cR, .int .i64 ((nR : Nat) : Int), .bool true, .bool true, .pointer (some ⟨g2, 0, none⟩), .slice aR nR cR, .int .i64 ((nR : Nat) : Int), .bool false, .bool false, .bool false, undef, undef, undef, undef, undef, undef, undef, .bool false, .bool false, undef, undef, undef, undef, undef, undef, .bool false]), (by kernel_rfl), H, (by simp only [Bool.false_eq_true, decide_eq_true_eq, false_iff]; omega)⟩
          · skip
            have h4p := of_decide_eq_true h4
            refine x_val (.pointer (some ⟨g2, 1, none⟩)) (by kernel_rfl) rfl (by kernel_rfl) ?_
            refine x_load1 H 0 g2 1 _ _ (.slice aP nP cP) rfl (by kernel_rfl) (by kernel_rfl) rfl (by kernel_rfl) ?_
            refine x_val (.int .i64 ((nP : Nat) : Int)) (by kernel_rfl) rfl (by kernel_rfl) ?_
            refine x_val (.pointer (some ⟨g2, 2, none⟩)) (by kernel_rfl) rfl (by kernel_rfl) ?_
            refine x_load1 H 0 g2 2 _ _ (.slice aB nB cB) rfl (by kernel_rfl) (by kernel_rfl) rfl (by kernel_rfl) ?_
            refine x_val (.int .i64 ((nB : Nat) : Int)) (by kernel_rfl) rfl (by kernel_rfl) ?_
            refine x_val (.bool (decide (((nP : Nat) : Int) = ((nB : Nat) : Int)))) (by kernel_rfl) rfl (by kernel_rfl) ?_
            refine x_val (.bool (decide (((nP : Nat) : Int) = ((nB : Nat) : Int)))) (by kernel_rfl) rfl (by kernel_rfl) ?_
            refine x_val (.bool (decide (((nP : Nat) : Int) = ((nB : Nat) : Int)))) (by kernel_rfl) rfl (by kernel_rfl) ?_
            cases h5 : decide (((nP : Nat) : Int) = ((nB : Nat) : Int))
            · skip
              have h5p := of_decide_eq_false h5
              refine x_skip (by kernel_rfl) ?_
              refine x_skip (by kernel_rfl) ?_
              refine x_skip (by kernel_rfl) ?_
              refine x_skip (by kernel_rfl) ?_
              refine x_skip (by kernel_rfl) ?_
              refine x_skip (by kernel_rfl) ?_
              refine x_val (.bool false) (by kernel_rfl) rfl (by kernel_rfl) ?_
              refine x_val (.bool false) (by kernel_rfl) rfl (by kernel_rfl) ?_
              refine x_nil ?_
              refine x_frame' { tmps := #[.agg #[.int .i64 rL, .int .i64 rE, .int .i64 pL, .int .i64 pE, .int .i64 ((room : Nat) : Int), .int .i64 hv], .int .i64 rk, .slice aO nO cO, .slice aM nM cM, .agg #[.slice aR nR cR, .slice aP nP cP, .slice aB nB cB], .pointer (some ⟨g1, 0, none⟩), undef, undef, undef, .pointer (some ⟨g2, 0, none⟩), .bool false, .pointer none, .int .i64 10, .bool false, undef, undef, undef, undef, undef, undef, undef, undef, undef, undef, undef, undef, .bool true, .bool false, .slice aO nO cO, .int .i64 ((nO : Nat) : Int), .bool false, .bool false, .slice aM nM cM, .int .i64 ((nM : Nat) : Int), .bool false, .bool false, .bool false, .pointer (some ⟨g2, 0, none⟩), .slice aR nR cR, .int .i64 ((nR : Nat) : Int), .bool false, .bool false, .bool false, .pointer (some ⟨g2, 1, none⟩), .slice aP nP cP, .int .i64 ((nP : Nat) : Int), .bool false, .bool false, .bool false, .pointer (some ⟨g2, 2, none⟩), .slice aB nB cB, .int .i64 ((nB : Nat) : Int), .bool false, .bool false, .tuple #[.pointer none, .int .i64 10], .agg #[.int .i64 rL, .int .i64 rE, .int .i64 pL, .int .i64 pE, .int .i64 ((room : Nat) : Int), .int .i64 hv], .agg #[.slice aR nR cR, .slice aP nP cP, .slice aB nB cB], .tuple #[.pointer none, .int .i64 10], .pointer none, .int .i64 10, .agg #[.int .i64 rL, .int .i64 rE, .int .i64 pL, .int .i64 pE, .int .i64 ((room : Nat) : Int), .int .i64 hv], .bool true, .bool false, undef, undef, undef, undef, undef, undef, .pointer (some ⟨g2, 0, none⟩), .slice aR nR cR, .int .i64 ((nR : Nat) : Int), .bool true, .bool true, .pointer (some ⟨g2, 0, none⟩), .slice aR nR cR, .int .i64 ((nR : Nat) : Int), .bool true, .bool true, .bool true, .pointer (some ⟨g2, 1, none⟩), .slice aP nP cP, .int .i64 ((nP : Nat) : Int), .pointer (some ⟨g2, 2, none⟩), .slice aB nB cB, .int .i64 ((nB : Nat) : Int), .bool false, .bool false, .bool false, undef, undef, undef, undef, undef, undef, .bool false, undef, undef, undef, undef, undef, undef, undef, undef, undef, undef, undef, undef, undef, undef, undef, undef, undef, undef, undef, undef, undef, undef, undef, undef, undef, undef, undef, undef, undef, undef, undef, undef, undef, undef, undef, undef, undef, undef, undef, undef, undef, undef, undef, undef, undef, undef, undef, undef, undef, undef, undef, undef, undef, undef, undef, undef, undef, undef, undef, undef, undef, undef, undef, undef, undef, undef, undef, undef, undef, undef, undef, undef, undef, undef, undef, undef, undef, undef, undef, undef, undef, undef, undef, undef, undef, undef, undef, undef, undef, undef, undef, undef, undef, undef, undef, undef, undef, undef, undef, undef, undef, undef, undef, undef, undef, undef, undef, undef], defers := [] } (by kernel_rfl) ?_
              refine x_then ?_
              exact ⟨false, (nthV [.pointer (some ⟨g2, 0, none⟩), .slice aR nR cR, .int .i64 ((nR : Nat) : Int), .bool true, .bool true, .pointer (some ⟨g2, 0, none⟩), .slice aR nR cR, .int .i64 ((nR : Nat) : Int), .bool true, .bool true, .bool true, .pointer (some ⟨g2, 1, none⟩), .slice aP nP cP, .int .i64 ((nP : Nat) : Int), .pointer (some ⟨g2, 2, none⟩), .slice aB nB cB, .int .i64 ((nB : Nat) : Int), .bool false, .bool false, .bool false, undef, undef, undef, undef, undef, undef, .bool false]), (by kernel_rfl), H, (by simp only [Bool.false_eq_true, decide_eq_true_eq, false_iff]; omega)⟩
            · skip
              have h5p := of_decide_eq_true h5
              refine x_val (.pointer (some ⟨g2, 1, none⟩)) (by kernel_rfl) rfl (by kernel_rfl) ?_
              refine x_load1 H 0 g2 1 _ _ (.slice aP nP cP) rfl (by kernel_rfl) (by kernel_rfl) rfl (by kernel_rfl) ?_
              refine x_val (.int .i64 ((nP : Nat) : Int)) (by kernel_rfl) rfl (by kernel_rfl) ?_
              refine x_val (.pointer (some ⟨g1, 4, none⟩)) (by kernel_rfl) rfl (by kernel_rfl) ?_
              refine x_load1 H 1 g1 4 _ _ (.int .i64 ((room : Nat) : Int)) rfl (by kernel_rfl) (by kernel_rfl) rfl (by kernel_rfl) ?_
              refine x_val (.bool (decide (((nP : Nat) : Int) ≤ ((room : Nat) : Int)))) (by kernel_rfl) rfl (by kernel_rfl) ?_
              refine x_val (.bool (decide (((nP : Nat) : Int) ≤ ((room : Nat) : Int)))) (by kernel_rfl) rfl (by kernel_rfl) ?_
              refine x_val (.bool (decide (((nP : Nat) : Int) ≤ ((room : Nat) : Int)))) (by kernel_rfl) rfl (by kernel_rfl) ?_
              refine x_nil ?_
              refine x_frame' { tmps := #[.agg #[.int .i64 rL, .int .i64 rE, .int .i64 pL, .int .i64 pE, .int .i64 ((room : Nat) : Int), .int .i64 hv], .int .i64 rk, .slice aO nO cO, .slice aM nM cM, .agg #[.slice aR nR cR, .slice aP nP cP, .slice aB nB cB], .pointer (some ⟨g1, 0, none⟩), undef, undef, undef, .pointer (some ⟨g2, 0, none⟩), .bool false, .pointer none, .int .i64 10, .bool (decide (((nP : Nat) : Int) ≤ ((room : Nat) : Int))), undef, undef, undef, undef, undef, undef, undef, undef, undef, undef, undef, undef, .bool true, .bool false, .slice aO nO cO, .int .i64 ((nO : Nat) : Int), .bool false, .bool false, .slice aM nM cM, .int .i64 ((nM : Nat) : Int), .bool false, .bool false, .bool false, .pointer (some ⟨g2, 0, none⟩), .slice aR nR cR, .int .i64 ((nR : Nat) : Int), .bool false, .bool false, .bool false, .pointer (some ⟨g2, 1, none⟩), .slice aP nP cP, .int .i64 ((nP : Nat) : Int), .bool false, .bool false, .bool false, .pointer (some ⟨g2, 2, none⟩), .slice aB nB cB, .int .i64 ((nB : Nat) : Int), .bool false, .bool false, .tuple #[.pointer none, .int .i64 10], .agg #[.int .i64 rL, .int .i64 rE, .int .i64 pL, .int .i64 pE, .int .i64 ((room : Nat) : Int), .int .i64 hv], .agg #[.slice aR nR cR, .slice aP nP cP, .slice aB nB cB], .tuple #[.pointer none, .int .i64 10], .pointer none, .int .i64 10, .agg #[.int .i64 rL, .int .i64 rE, .int .i64 pL, .int .i64 pE, .int .i64 ((room : Nat) : Int), .int .i64 hv], .bool true, .bool false, undef, undef, undef, undef, undef, undef, .pointer (some ⟨g2, 0, none⟩), .slice aR nR cR, .int .i64 ((nR : Nat) : Int), .bool true, .bool true, .pointer (some ⟨g2, 0, none⟩), .slice aR nR cR, .int .i64 ((nR : Nat) : Int), .bool true, .bool true, .bool true, .pointer (some ⟨g2, 1, none⟩), .slice aP nP cP, .int .i64 ((nP : Nat) : Int), .pointer (some ⟨g2, 2, none⟩), .slice aB nB cB, .int .i64 ((nB : Nat) : Int), .bool true, .bool true, .bool true, .pointer (some ⟨g2, 1, none⟩), .slice aP nP cP, .int .i64 ((nP : Nat) : Int), .pointer (some ⟨g1, 4, none⟩), .int .i64 ((room : Nat) : Int), .bool (decide (((nP : Nat) : Int) ≤ ((room : Nat) : Int))), .bool (decide (((nP : Nat) : Int) ≤ ((room : Nat) : Int))), undef, undef, undef, undef, undef, undef, undef, undef, undef, undef, undef, undef, undef, undef, undef, undef, undef, undef, undef, undef, undef, undef, undef, undef, undef, undef, undef, undef, undef, undef, undef, undef, undef, undef, undef, undef, undef, undef, undef, undef, undef, undef, undef, undef, undef, undef, undef, undef, undef, undef, undef, undef, undef, undef, undef, undef, undef, undef, undef, undef, undef, undef, undef, undef, undef, undef, undef, undef, undef, undef, undef, undef, undef, undef, undef, undef, undef, undef, undef, undef, undef, undef, undef, undef, undef, undef, undef, undef, undef, undef, undef, undef, undef, undef, undef, undef, undef, undef, undef, undef, undef, undef, undef, undef, undef, undef, undef, undef], defers := [] } (by kernel_rfl) ?_
              refine x_then ?_
              exact ⟨(decide (((nP : Nat) : Int) ≤ ((room : Nat) : Int))), (nthV [.pointer (some ⟨g2, 0, none⟩), .slice aR nR cR, .int .i64 ((nR : Nat) : Int), .bool true, .bool true, .pointer (some ⟨g2, 0, none⟩), .slice aR nR cR, .int .i64 ((nR : Nat) : Int), .bool true, .bool true, .bool true, .pointer (some ⟨g2, 1, none⟩), .slice aP nP cP, .int .i64 ((nP : Nat) : Int), .pointer (some ⟨g2, 2, none⟩), .slice aB nB cB, .int .i64 ((nB : Nat) : Int), .bool true, .bool true, .bool true, .pointer (some ⟨g2, 1, none⟩), .slice aP nP cP, .int .i64 ((nP : Nat) : Int), .pointer (some ⟨g1, 4, none⟩), .int .i64 ((room : Nat) : Int), .bool (decide (((nP : Nat) : Int) ≤ ((room : Nat) : Int))), .bool (decide (((nP : Nat) : Int) ≤ ((room : Nat) : Int)))]), (by kernel_rfl), H, (by simp only [Bool.false_eq_true, decide_eq_true_eq, false_iff]; omega)⟩
      · skip
        clear H
        rintro _ v20 ⟨fb, uf2, rfl, H, r1⟩
        refine x_then ?_
        refine x_seq ?_
        refine x_seq ?_
        refine x_region ?_
        refine x_val (.pointer (some ⟨g2, 0, none⟩)) (by kernel_rfl) rfl (by kernel_rfl) ?_
        refine x_load1 H 0 g2 0 _ _ (.slice aR nR cR) rfl (by kernel_rfl) (by kernel_rfl) rfl (by kernel_rfl) ?_
        refine x_val (.int .i64 ((nR : Nat) : Int)) (by kernel_rfl) rfl (by kernel_rfl) ?_
        refine x_val (.int .i64 0) (by kernel_rfl) rfl (by kernel_rfl) ?_
        refine x_nil ?_
        refine x_then ?_
        refine x_block ?_
        refine x_loop (G := Nat × Bool) (fun gh a w' => match gh with | (k1, fb) => ∃ uf3 : Nat → Value, a = { tmps := #[.agg #[.int .i64 rL, .int .i64 rE, .int .i64 pL, .int .i64 pE, .int .i64 ((room : Nat) : Int), .int .i64 hv], .int .i64 rk, .slice aO nO cO, .slice aM nM cM, .agg #[.slice aR nR cR, .slice aP nP cP, .slice aB nB cB], .pointer (some ⟨g1, 0, none⟩), undef, undef, undef, .pointer (some ⟨g2, 0, none⟩), .bool false, .pointer none, .int .i64 10, .bool fb, undef, (uf3 0), undef, undef, undef, undef, undef, undef, undef, undef, undef, undef, .bool true, .bool false, .slice aO nO cO, .int .i64 ((nO : Nat) : Int), .bool false, .bool false, .slice aM nM cM, .int .i64 ((nM : Nat) : Int), .bool false, .bool false, .bool false, .pointer (some ⟨g2, 0, none⟩), .slice aR nR cR, .int .i64 ((nR : Nat) : Int), .bool false, .bool false, .bool false, .pointer (some ⟨g2, 1, none⟩), .slice aP nP cP, .int .i64 ((nP : Nat) : Int), .bool false, .bool false, .bool false, .pointer (some ⟨g2, 2, none⟩), .slice aB nB cB, .int .i64 ((nB : Nat) : Int), .bool false, .bool false, .tuple #[.pointer none, .int .i64 10], .agg #[.int .i64 rL, .int .i64 rE, .int .i64 pL, .int .i64 pE, .int .i64 ((room : Nat) : Int), .int .i64 hv], .agg #[.slice aR nR cR, .slice aP nP cP, .slice aB nB cB], .tuple #[.pointer none, .int .i64 10], .pointer none, .int .i64 10, .agg #[.int .i64 rL, .int .i64 rE, .int .i64 pL, .int .i64 pE, .int .i64 ((room : Nat) : Int), .int .i64 hv], .bool true, .bool false, undef, undef, undef, undef, undef, undef, (uf2 0), (uf2 1), (uf2 2), (uf2 3), (uf2 4), (uf2 5), (uf2 6), (uf2 7), (uf2 8), (uf2 9), (uf2 10), (uf2 11), (uf2 12), (uf2 13), (uf2 14), (uf2 15), (uf2 16), (uf2 17), (uf2 18), (uf2 19), (uf2 20), (uf2 21), (uf2 22), (uf2 23), (uf2 24), (uf2 25), (uf2 26), .pointer (some ⟨g2, 0, none⟩), .slice aR nR cR, .int .i64 ((nR : Nat) : Int), .int .i64 ((k1 : Nat) : Int), (uf3 1), (uf3 2), (uf3 3), (uf3 4), (uf3 5), (uf3 6), (uf3 7), (uf3 8), (uf3 9), (uf3 10), (uf3 11), (uf3 12), undef, undef, undef, undef, undef, undef, undef, undef, undef, undef, undef, undef, undef, undef, undef, undef, undef, undef, undef, undef, undef, undef, undef, undef, undef, undef, undef, undef, undef, undef, undef, undef, undef, undef, undef, undef, undef, undef, undef, undef, undef, undef, undef, undef, undef, undef, undef, undef, undef, undef, undef, undef, undef, undef, undef, undef, undef, undef, undef, undef, undef, undef, undef, undef, undef, undef, undef, undef, undef, undef, undef, undef, undef, undef, undef, undef, undef, undef, undef, undef, undef, undef, undef, undef, undef, undef, undef, undef, undef, undef, undef, undef], defers := [] } ∧ Hs [] w0 w' [.blk g2 #[.slice aR nR cR, .slice aP nP cP, .slice aB nB cB] 147, .blk g1 #[.int .i64 rL, .int .i64 rE, .int .i64 pL, .int .i64 pE, .int .i64 ((room : Nat) : Int), .int .i64 hv] 80] ∧ (k1 ≤ nR) ∧ (fb = true ↔ ((1 ≤ nR ∧ nR ≤ 8) ∧ nP = nB ∧ nP ≤ room) ∧ AllB rE lR k1)) (fun gh => match gh with | (k1, fb) => nR - k1) (0, fb) ⟨(nthV [undef, undef, undef, undef, undef, undef, undef, undef, undef, undef, undef, undef, undef]), (by kernel_rfl), H, (Nat.zero_le _), (by rw [r1]; exact ⟨fun z => ⟨z, AllB.zero⟩, And.left⟩)⟩ ?_
        clear H
        rintro ⟨k1, fb⟩ _ v21 ⟨uf3, rfl, H, r1, r2⟩
        refine x_seq ?_
        refine x_region ?_
        refine x_val (.bool (decide (((k1 : Nat) : Int) < ((nR : Nat) : Int)))) (by kernel_rfl) rfl (by kernel_rfl) ?_
        refine x_nil ?_
        refine x_then ?_
        refine x_seq ?_
        cases h6 : decide (((k1 : Nat) : Int) < ((nR : Nat) : Int))
        · skip
          have h6p := of_decide_eq_false h6
          refine x_f (by kernel_rfl) ?_
          refine x_exit ?_
          refine x_then_exit ?_
          refine x_then_exit ?_
          refine x_blk_exit ?_
          refine x_then ?_
          refine x_seq ?_
          refine x_seq ?_
          refine x_region ?_
          refine x_val (.pointer (some ⟨g2, 2, none⟩)) (by kernel_rfl) rfl (by kernel_rfl) ?_
          refine x_load1 H 0 g2 2 _ _ (.slice aB nB cB) rfl (by kernel_rfl) (by kernel_rfl) rfl (by kernel_rfl) ?_
          refine x_val (.int .i64 ((nB : Nat) : Int)) (by kernel_rfl) rfl (by kernel_rfl) ?_
          refine x_val (.int .i64 0) (by kernel_rfl) rfl (by kernel_rfl) ?_
          refine x_nil ?_
          refine x_then ?_
          refine x_block ?_
          have hk1 : k1 = nR := by omega
          rw [hk1] at r2
          refine x_loop (G := Nat × Bool) (fun gh a w' => match gh with | (k2, fb) => ∃ uf4 : Nat → Value, a = { tmps := #[.agg #[.int .i64 rL, .int .i64 rE, .int .i64 pL, .int .i64 pE, .int .i64 ((room : Nat) : Int), .int .i64 hv], .int .i64 rk, .slice aO nO cO, .slice aM nM cM, .agg #[.slice aR nR cR, .slice aP nP cP, .slice aB nB cB], .pointer (some ⟨g1, 0, none⟩), undef, undef, undef, .pointer (some ⟨g2, 0, none⟩), .bool false, .pointer none, .int .i64 10, .bool fb, undef, (uf3 0), undef, (uf4 0), undef, undef, undef, undef, undef, undef, undef, undef, .bool true, .bool false, .slice aO nO cO, .int .i64 ((nO : Nat) : Int), .bool false, .bool false, .slice aM nM cM, .int .i64 ((nM : Nat) : Int), .bool false, .bool false, .bool false, .pointer (some ⟨g2, 0, none⟩), .slice aR nR cR, .int .i64 ((nR : Nat) : Int), .bool false, .bool false, .bool false, .pointer (some ⟨g2, 1, none⟩), .slice aP nP cP, .int .i64 ((nP : Nat) : Int), .bool false, .bool false, .bool false, .pointer (some ⟨g2, 2, none⟩), .slice aB nB cB, .int .i64 ((nB : Nat) : Int), .bool false, .bool false, .tuple #[.pointer none, .int .i64 10], .agg #[.int .i64 rL, .int .i64 rE, .int .i64 pL, .int .i64 pE, .int .i64 ((room : Nat) : Int), .int .i64 hv], .agg #[.slice aR nR cR, .slice aP nP cP, .slice aB nB cB], .tuple #[.pointer none, .int .i64 10], .pointer none, .int .i64 10, .agg #[.int .i64 rL, .int .i64 rE, .int .i64 pL, .int .i64 pE, .int .i64 ((room : Nat) : Int), .int .i64 hv], .bool true, .bool false, undef, undef, undef, undef, undef, undef, (uf2 0), (uf2 1), (uf2 2), (uf2 3), (uf2 4), (uf2 5), (uf2 6), (uf2 7), (uf2 8), (uf2 9), (uf2 10), (uf2 11), (uf2 12), (uf2 13), (uf2 14), (uf2 15), (uf2 16), (uf2 17), (uf2 18), (uf2 19), (uf2 20), (uf2 21), (uf2 22), (uf2 23), (uf2 24), (uf2 25), (uf2 26), .pointer (some ⟨g2, 0, none⟩), .slice aR nR cR, .int .i64 ((nR : Nat) : Int), .int .i64 ((k1 : Nat) : Int), .bool false, (uf3 2), (uf3 3), (uf3 4), (uf3 5), (uf3 6), (uf3 7), (uf3 8), (uf3 9), (uf3 10), (uf3 11), (uf3 12), .pointer (some ⟨g2, 2, none⟩), .slice aB nB cB, .int .i64 ((nB : Nat) : Int), .int .i64 ((k2 : Nat) : Int), (uf4 1), (uf4 2), (uf4 3), (uf4 4), (uf4 5), (uf4 6), (uf4 7), (uf4 8), (uf4 9), (uf4 10), (uf4 11), (uf4 12), undef, undef, undef, undef, undef, undef, undef, undef, undef, undef, undef, undef, undef, undef, undef, undef, undef, undef, undef, undef, undef, undef, undef, undef, undef, undef, undef, undef, undef, undef, undef, undef, undef, undef, undef, undef, undef, undef, undef, undef, undef, undef, undef, undef, undef, undef, undef, undef, undef, undef, undef, undef, undef, undef, undef, undef, undef, undef, undef, undef, undef, undef, undef, undef, undef, undef, undef, undef, undef, undef, undef, undef, undef, undef, undef, undef], defers := [] } ∧ Hs [] w0 w' [.blk g2 #[.slice aR nR cR, .slice aP nP cP, .slice aB nB cB] 147, .blk g1 #[.int .i64 rL, .int .i64 rE, .int .i64 pL, .int .i64 pE, .int .i64 ((room : Nat) : Int), .int .i64 hv] 80] ∧ (k2 ≤ nB) ∧ (fb = true ↔ (((1 ≤ nR ∧ nR ≤ 8) ∧ nP = nB ∧ nP ≤ room) ∧ AllB rE lR nR) ∧ AllB pE lB k2)) (fun gh => match gh with | (k2, fb) => nB - k2) (0, fb) ⟨(nthV [undef, undef, undef, undef, undef, undef, undef, undef, undef, undef, undef, undef, undef]), (by kernel_rfl), H, (Nat.zero_le _), (by rw [r2]; exact ⟨fun z => ⟨z, AllB.zero⟩, And.left⟩)⟩ ?_
          clear H
          rintro ⟨k2, fb⟩ _ v22 ⟨uf4, rfl, H, r1, r2⟩
          refine x_seq ?_
          refine x_region ?_
          refine x_val (.bool (decide (((k2 : Nat) : Int) < ((nB : Nat) : Int)))) (by kernel_rfl) rfl (by kernel_rfl) ?_
          refine x_nil ?_
          refine x_then ?_
          refine x_seq ?_
          cases h7 : decide (((k2 : Nat) : Int) < ((nB : Nat) : Int))
          · skip
            have h7p := of_decide_eq_false h7
            refine x_f (by kernel_rfl) ?_
            refine x_exit ?_
            refine x_then_exit ?_
            refine x_then_exit ?_
            refine x_blk_exit ?_
            refine x_then ?_
            refine x_seq ?_
            refine x_seq ?_
            refine x_region ?_
            refine x_val (.pointer (some ⟨g2, 1, none⟩)) (by kernel_rfl) rfl (by kernel_rfl) ?_
            refine x_load1 H 0 g2 1 _ _ (.slice aP nP cP) rfl (by kernel_rfl) (by kernel_rfl) rfl (by kernel_rfl) ?_
            refine x_val (.int .i64 ((nP : Nat) : Int)) (by kernel_rfl) rfl (by kernel_rfl) ?_
            refine x_val (.int .i64 0) (by kernel_rfl) rfl (by kernel_rfl) ?_
            refine x_nil ?_
            refine x_then ?_
            refine x_block ?_
            have hk2 : k2 = nB := by omega
            rw [hk2] at r2
            refine x_loop (G := Nat × Bool) (fun gh a w' => match gh with | (k3, fb) => ∃ uf5 : Nat → Value, a = { tmps := #[.agg #[.int .i64 rL, .int .i64 rE, .int .i64 pL, .int .i64 pE, .int .i64 ((room : Nat) : Int), .int .i64 hv], .int .i64 rk, .slice aO nO cO, .slice aM nM cM, .agg #[.slice aR nR cR, .slice aP nP cP, .slice aB nB cB], .pointer (some ⟨g1, 0, none⟩), undef, undef, undef, .pointer (some ⟨g2, 0, none⟩), .bool false, .pointer none, .int .i64 10, .bool fb, undef, (uf3 0), undef, (uf4 0), (uf5 0), (uf5 1), undef, (uf5 2), undef, undef, undef, undef, .bool true, .bool false, .slice aO nO cO, .int .i64 ((nO : Nat) : Int), .bool false, .bool false, .slice aM nM cM, .int .i64 ((nM : Nat) : Int), .bool false, .bool false, .bool false, .pointer (some ⟨g2, 0, none⟩), .slice aR nR cR, .int .i64 ((nR : Nat) : Int), .bool false, .bool false, .bool false, .pointer (some ⟨g2, 1, none⟩), .slice aP nP cP, .int .i64 ((nP : Nat) : Int), .bool false, .bool false, .bool false, .pointer (some ⟨g2, 2, none⟩), .slice aB nB cB, .int .i64 ((nB : Nat) : Int), .bool false, .bool false, .tuple #[.pointer none, .int .i64 10], .agg #[.int .i64 rL, .int .i64 rE, .int .i64 pL, .int .i64 pE, .int .i64 ((room : Nat) : Int), .int .i64 hv], .agg #[.slice aR nR cR, .slice aP nP cP, .slice aB nB cB], .tuple #[.pointer none, .int .i64 10], .pointer none, .int .i64 10, .agg #[.int .i64 rL, .int .i64 rE, .int .i64 pL, .int .i64 pE, .int .i64 ((room : Nat) : Int), .int .i64 hv], .bool true, .bool false, undef, undef, undef, undef, undef, undef, (uf2 0), (uf2 1), (uf2 2), (uf2 3), (uf2 4), (uf2 5), (uf2 6), (uf2 7), (uf2 8), (uf2 9), (uf2 10), (uf2 11), (uf2 12), (uf2 13), (uf2 14), (uf2 15), (uf2 16), (uf2 17), (uf2 18), (uf2 19), (uf2 20), (uf2 21), (uf2 22), (uf2 23), (uf2 24), (uf2 25), (uf2 26), .pointer (some ⟨g2, 0, none⟩), .slice aR nR cR, .int .i64 ((nR : Nat) : Int), .int .i64 ((k1 : Nat) : Int), .bool false, (uf3 2), (uf3 3), (uf3 4), (uf3 5), (uf3 6), (uf3 7), (uf3 8), (uf3 9), (uf3 10), (uf3 11), (uf3 12), .pointer (some ⟨g2, 2, none⟩), .slice aB nB cB, .int .i64 ((nB : Nat) : Int), .int .i64 ((k2 : Nat) : Int), .bool false, (uf4 2), (uf4 3), (uf4 4), (uf4 5), (uf4 6), (uf4 7), (uf4 8), (uf4 9), (uf4 10), (uf4 11), (uf4 12), .pointer (some ⟨g2, 1, none⟩), .slice aP nP cP, .int .i64 ((nP : Nat) : Int), .int .i64 ((k3 : Nat) : Int), (uf5 3), (uf5 4), (uf5 5), (uf5 6), (uf5 7), (uf5 8), (uf5 9), (uf5 10), (uf5 11), (uf5 12), (uf5 13), (uf5 14), (uf5 15), (uf5 16), (uf5 17), (uf5 18), (uf5 19), (uf5 20), (uf5 21), (uf5 22), (uf5 23), undef, undef, undef, undef, undef, undef, undef, undef, undef, undef, undef, undef, undef, undef, undef, undef, undef, undef, undef, undef, undef, undef, undef, undef, undef, undef, undef, undef, undef, undef, undef, undef, undef, undef, undef, undef, undef, undef, undef, undef, undef, undef, undef, undef, undef, undef, undef, undef, undef, undef, undef], defers := [] } ∧ Hs [] w0 w' [.blk g2 #[.slice aR nR cR, .slice aP nP cP, .slice aB nB cB] 147, .blk g1 #[.int .i64 rL, .int .i64 rE, .int .i64 pL, .int .i64 pE, .int .i64 ((room : Nat) : Int), .int .i64 hv] 80] ∧ (k3 ≤ nP) ∧ (fb = true ↔ ((((1 ≤ nR ∧ nR ≤ 8) ∧ nP = nB ∧ nP ≤ room) ∧ AllB rE lR nR) ∧ AllB pE lB nB) ∧ Dif lP k3)) (fun gh => match gh with | (k3, fb) => nP - k3) (0, fb) ⟨(nthV [undef, undef, undef, undef, undef, undef, undef, undef, undef, undef, undef, undef, undef, undef, undef, undef, undef, undef, undef, undef, undef, undef, undef, undef]), (by kernel_rfl), H, (Nat.zero_le _), (by rw [r2]; exact ⟨fun z => ⟨z, Dif.zero⟩, And.left⟩)⟩ ?_
            clear H
            rintro ⟨k3, fb⟩ _ v23 ⟨uf5, rfl, H, r1, r2⟩
            refine x_seq ?_
            refine x_region ?_
            refine x_val (.bool (decide (((k3 : Nat) : Int) < ((nP : Nat) : Int)))) (by kernel_rfl) rfl (by kernel_rfl) ?_
            refine x_nil ?_
            refine x_then ?_
            refine x_seq ?_
            cases h8 : decide (((k3 : Nat) : Int) < ((nP : Nat) : Int))
            · skip
              have h8p := of_decide_eq_false h8
              refine x_f (by kernel_rfl) ?_
              refine x_exit ?_
              refine x_then_exit ?_
              refine x_then_exit ?_
              refine x_blk_exit ?_
              refine x_then ?_
              refine x_seq ?_
              refine x_seq ?_
              refine x_region ?_
              have hk3 : k3 = nP := by omega
              rw [hk3] at r2
              have hfe : fb = true ↔ FitT room rE pE lR lP lB nR nP nB := by rw [r2]; exact ⟨fun ⟨⟨⟨⟨a1, a2, a3⟩, b1⟩, b2⟩, b3⟩ => ⟨a1, a2, a3, b1, b2, b3⟩, fun z => ⟨⟨⟨⟨z.r, z.n, z.m⟩, z.a⟩, z.b⟩, z.u⟩⟩
              obtain rfl : fb = false := Bool.eq_false_iff.2 (fun z => hf (hfe.1 z))
              skip
              refine x_val (.bool false) (by kernel_rfl) rfl (by kernel_rfl) ?_
              refine x_val (.int .i64 10) (by kernel_rfl) rfl (by kernel_rfl) ?_
              refine x_val (.bool false) (by kernel_rfl) rfl (by kernel_rfl) ?_
              refine x_val (.bool false) (by kernel_rfl) rfl (by kernel_rfl) ?_
              refine x_val (.bool false) (by kernel_rfl) rfl (by kernel_rfl) ?_
              refine x_val (.bool false) (by kernel_rfl) rfl (by kernel_rfl) ?_
              refine x_val (.bool true) (by kernel_rfl) rfl (by kernel_rfl) ?_
              refine x_val (.bool true) (by kernel_rfl) rfl (by kernel_rfl) ?_
              refine x_val (.int .i64 10) (by kernel_rfl) rfl (by kernel_rfl) ?_
              refine x_val (.bool false) (by kernel_rfl) rfl (by kernel_rfl) ?_
              refine x_val (.bool false) (by kernel_rfl) rfl (by kernel_rfl) ?_
              refine x_val (.pointer none) (by kernel_rfl) rfl (by kernel_rfl) ?_
              refine x_val (.bool false) (by kernel_rfl) rfl (by kernel_rfl) ?_
              refine x_val (.bool false) (by kernel_rfl) rfl (by kernel_rfl) ?_
              refine x_val (.bool false) (by kernel_rfl) rfl (by kernel_rfl) ?_
              refine x_val (.bool false) (by kernel_rfl) rfl (by kernel_rfl) ?_
              refine x_nil ?_
              refine x_then ?_
              refine x_f (by kernel_rfl) ?_
              refine x_skipc ?_
              refine x_then ?_
              replace H := H.pick [1, 0] [.blk g1 #[.int .i64 rL, .int .i64 rE, .int .i64 pL, .int .i64 pE, .int .i64 ((room : Nat) : Int), .int .i64 hv] 80, .blk g2 #[.slice aR nR cR, .slice aP nP cP, .slice aB nB cB] 147] (by decide) (by kernel_rfl)
              exact hSp1 _ _ ⟨(nthV [.bool false, .pointer none, .int .i64 10, .bool false, (uf3 0), (uf4 0), (uf5 0), (uf5 1), (uf5 2), .tuple #[.pointer none, .int .i64 10], .agg #[.int .i64 rL, .int .i64 rE, .int .i64 pL, .int .i64 pE, .int .i64 ((room : Nat) : Int), .int .i64 hv], .agg #[.slice aR nR cR, .slice aP nP cP, .slice aB nB cB], .tuple #[.pointer none, .int .i64 10], .pointer none, .int .i64 10, .agg #[.int .i64 rL, .int .i64 rE, .int .i64 pL, .int .i64 pE, .int .i64 ((room : Nat) : Int), .int .i64 hv], .bool true, .bool false, undef, undef, undef, undef, undef, undef, (uf2 0), (uf2 1), (uf2 2), (uf2 3), (uf2 4), (uf2 5), (uf2 6), (uf2 7), (uf2 8), (uf2 9), (uf2 10), (uf2 11), (uf2 12), (uf2 13), (uf2 14), (uf2 15), (uf2 16), (uf2 17), (uf2 18), (uf2 19), (uf2 20), (uf2 21), (uf2 22), (uf2 23), (uf2 24), (uf2 25), (uf2 26), .pointer (some ⟨g2, 0, none⟩), .slice aR nR cR, .int .i64 ((nR : Nat) : Int), .int .i64 ((k1 : Nat) : Int), .bool false, (uf3 2), (uf3 3), (uf3 4), (uf3 5), (uf3 6), (uf3 7), (uf3 8), (uf3 9), (uf3 10), (uf3 11), (uf3 12), .pointer (some ⟨g2, 2, none⟩), .slice aB nB cB, .int .i64 ((nB : Nat) : Int), .int .i64 ((k2 : Nat) : Int), .bool false, (uf4 2), (uf4 3), (uf4 4), (uf4 5), (uf4 6), (uf4 7), (uf4 8), (uf4 9), (uf4 10), (uf4 11), (uf4 12), .pointer (some ⟨g2, 1, none⟩), .slice aP nP cP, .int .i64 ((nP : Nat) : Int), .int .i64 ((k3 : Nat) : Int), .bool false, (uf5 4), (uf5 5), (uf5 6), (uf5 7), (uf5 8), (uf5 9), (uf5 10), (uf5 11), (uf5 12), (uf5 13), (uf5 14), (uf5 15), (uf5 16), (uf5 17), (uf5 18), (uf5 19), (uf5 20), (uf5 21), (uf5 22), (uf5 23), .bool false, .int .i64 10, .bool false, .bool false, .bool false, .bool false, .bool true, .bool true, .int .i64 10, .bool false, .bool false, .pointer none, .bool false, .bool false, .bool false, .bool false]), (by kernel_rfl), H⟩
            · skip
              have h8p := of_decide_eq_true h8
              refine x_t (by kernel_rfl) ?_
              refine x_skipc ?_
              refine x_then ?_
              refine x_seq ?_
              refine x_block ?_
              refine x_seq ?_
              refine x_region ?_
              refine x_val (.int .i64 ((k3 : Nat) : Int)) (by kernel_rfl) rfl (by kernel_rfl) ?_
              obtain ⟨gP, oP, hadP, hcPp⟩ := hAP (by omega)
              refine x_ixO (t := 106) hadP k3 nP cP 3 1 (oP + k3) (by omega) (by omega) (by kernel_rfl) (by kernel_rfl) (by kernel_rfl) rfl (by kernel_rfl) ?_
              refine x_loadc gP (oP + k3) (.int .i64 (lP.getD k3 0)) ((by simpa using hcPp _ H.below k3 (by omega) 0 _ rfl)) (by kernel_rfl) rfl (by kernel_rfl) ?_
              refine x_val (.int .i64 ((k3 : Nat) : Int)) (by kernel_rfl) rfl (by kernel_rfl) ?_
              refine x_val (.int .i64 (lP.getD k3 0)) (by kernel_rfl) rfl (by kernel_rfl) ?_
              refine x_nil ?_
              refine x_then ?_
              refine x_seq ?_
              refine x_region ?_
              refine x_val (.pointer (some ⟨g2, 1, none⟩)) (by kernel_rfl) rfl (by kernel_rfl) ?_
              refine x_load1 H 0 g2 1 _ _ (.slice aP nP cP) rfl (by kernel_rfl) (by kernel_rfl) rfl (by kernel_rfl) ?_
              refine x_val (.int .i64 ((k3 : Nat) : Int)) (by kernel_rfl) rfl (by kernel_rfl) ?_
              refine x_val (.slice aP k3 cP) (by kernel_rfl) rfl (Eq.trans (by kernel_rfl) (slcHo (P := Try.prog) (t := 106) (n := nP) (c := cP) (h := k3) (sz := 1) hadP (by kernel_rfl) (by kernel_rfl) (by omega))) ?_
              refine x_val (.int .i64 ((k3 : Nat) : Int)) (by kernel_rfl) rfl (by kernel_rfl) ?_
              refine x_val (.int .i64 0) (by kernel_rfl) rfl (by kernel_rfl) ?_
              refine x_nil ?_
              refine x_then ?_
              refine x_block ?_
              refine x_loop (G := Nat × Bool) (fun gh a w' => match gh with | (k4, fb) => ∃ uf6 : Nat → Value, a = { tmps := #[.agg #[.int .i64 rL, .int .i64 rE, .int .i64 pL, .int .i64 pE, .int .i64 ((room : Nat) : Int), .int .i64 hv], .int .i64 rk, .slice aO nO cO, .slice aM nM cM, .agg #[.slice aR nR cR, .slice aP nP cP, .slice aB nB cB], .pointer (some ⟨g1, 0, none⟩), undef, undef, undef, .pointer (some ⟨g2, 0, none⟩), .bool false, .pointer none, .int .i64 10, .bool fb, undef, (uf3 0), undef, (uf4 0), .int .i64 ((k3 : Nat) : Int), .int .i64 (lP.getD k3 0), undef, (uf6 0), undef, undef, undef, undef, .bool true, .bool false, .slice aO nO cO, .int .i64 ((nO : Nat) : Int), .bool false, .bool false, .slice aM nM cM, .int .i64 ((nM : Nat) : Int), .bool false, .bool false, .bool false, .pointer (some ⟨g2, 0, none⟩), .slice aR nR cR, .int .i64 ((nR : Nat) : Int), .bool false, .bool false, .bool false, .pointer (some ⟨g2, 1, none⟩), .slice aP nP cP, .int .i64 ((nP : Nat) : Int), .bool false, .bool false, .bool false, .pointer (some ⟨g2, 2, none⟩), .slice aB nB cB, .int .i64 ((nB : Nat) : Int), .bool false, .bool false, .tuple #[.pointer none, .int .i64 10], .agg #[.int .i64 rL, .int .i64 rE, .int .i64 pL, .int .i64 pE, .int .i64 ((room : Nat) : Int), .int .i64 hv], .agg #[.slice aR nR cR, .slice aP nP cP, .slice aB nB cB], .tuple #[.pointer none, .int .i64 10], .pointer none, .int .i64 10, .agg #[.int .i64 rL, .int .i64 rE, .int .i64 pL, .int .i64 pE, .int .i64 ((room : Nat) : Int), .int .i64 hv], .bool true, .bool false, undef, undef, undef, undef, undef, undef, (uf2 0), (uf2 1), (uf2 2), (uf2 3), (uf2 4), (uf2 5), (uf2 6), (uf2 7), (uf2 8), (uf2 9), (uf2 10), (uf2 11), (uf2 12), (uf2 13), (uf2 14), (uf2 15), (uf2 16), (uf2 17), (uf2 18), (uf2 19), (uf2 20), (uf2 21), (uf2 22), (uf2 23), (uf2 24), (uf2 25), (uf2 26), .pointer (some ⟨g2, 0, none⟩), .slice aR nR cR, .int .i64 ((nR : Nat) : Int), .int .i64 ((k1 : Nat) : Int), .bool false, (uf3 2), (uf3 3), (uf3 4), (uf3 5), (uf3 6), (uf3 7), (uf3 8), (uf3 9), (uf3 10), (uf3 11), (uf3 12), .pointer (some ⟨g2, 2, none⟩), .slice aB nB cB, .int .i64 ((nB : Nat) : Int), .int .i64 ((k2 : Nat) : Int), .bool false, (uf4 2), (uf4 3), (uf4 4), (uf4 5), (uf4 6), (uf4 7), (uf4 8), (uf4 9), (uf4 10), (uf4 11), (uf4 12), .pointer (some ⟨g2, 1, none⟩), .slice aP nP cP, .int .i64 ((nP : Nat) : Int), .int .i64 ((k3 : Nat) : Int), .bool true, .int .i64 ((k3 : Nat) : Int), .pointer (some ⟨gP, oP + k3, none⟩), .int .i64 (lP.getD k3 0), .pointer (some ⟨g2, 1, none⟩), .slice aP nP cP, .int .i64 ((k3 : Nat) : Int), .slice aP k3 cP, .int .i64 ((k3 : Nat) : Int), .int .i64 ((k4 : Nat) : Int), (uf6 1), (uf6 2), (uf6 3), (uf6 4), (uf6 5), (uf6 6), (uf6 7), (uf6 8), (uf6 9), (uf6 10), (uf5 23), undef, undef, undef, undef, undef, undef, undef, undef, undef, undef, undef, undef, undef, undef, undef, undef, undef, undef, undef, undef, undef, undef, undef, undef, undef, undef, undef, undef, undef, undef, undef, undef, undef, undef, undef, undef, undef, undef, undef, undef, undef, undef, undef, undef, undef, undef, undef, undef, undef, undef, undef], defers := [] } ∧ Hs [] w0 w' [.blk g2 #[.slice aR nR cR, .slice aP nP cP, .slice aB nB cB] 147, .blk g1 #[.int .i64 rL, .int .i64 rE, .int .i64 pL, .int .i64 pE, .int .i64 ((room : Nat) : Int), .int .i64 hv] 80] ∧ (k4 ≤ k3) ∧ (fb = true ↔ (((((1 ≤ nR ∧ nR ≤ 8) ∧ nP = nB ∧ nP ≤ room) ∧ AllB rE lR nR) ∧ AllB pE lB nB) ∧ Dif lP k3) ∧ Dif1 lP k3 k4)) (fun gh => match gh with | (k4, fb) => k3 - k4) (0, fb) ⟨(nthV [(uf5 2), (uf5 13), (uf5 14), (uf5 15), (uf5 16), (uf5 17), (uf5 18), (uf5 19), (uf5 20), (uf5 21), (uf5 22)]), (by kernel_rfl), H, (Nat.zero_le _), (by rw [r2]; exact ⟨fun z => ⟨z, Dif1.zero⟩, And.left⟩)⟩ ?_
              clear H
              rintro ⟨k4, fb⟩ _ v24 ⟨uf6, rfl, H, r1, r2⟩
              refine x_seq ?_
              refine x_region ?_
              refine x_val (.bool (decide (((k4 : Nat) : Int) < ((k3 : Nat) : Int)))) (by kernel_rfl) rfl (by kernel_rfl) ?_
              refine x_nil ?_
              refine x_then ?_
              refine x_seq ?_
              cases h9 : decide (((k4 : Nat) : Int) < ((k3 : Nat) : Int))
              · skip
                have h9p := of_decide_eq_false h9
                refine x_f (by kernel_rfl) ?_
                refine x_exit ?_
                refine x_then_exit ?_
                refine x_then_exit ?_
                refine x_blk_exit ?_
                refine x_blk ?_
                refine x_then ?_
                refine x_region ?_
                refine x_ar (((k3 : Nat) : Int) + 1) ⟨by omega, by omega⟩ (by kernel_rfl) rfl (by kernel_rfl) ?_
                refine x_val (.int .i64 (((k3 : Nat) : Int) + 1)) (by kernel_rfl) rfl (by kernel_rfl) ?_
                refine x_nil ?_
                refine x_then ?_
                replace H := H.pick [0, 1] [.blk g2 #[.slice aR nR cR, .slice aP nP cP, .slice aB nB cB] 147, .blk g1 #[.int .i64 rL, .int .i64 rE, .int .i64 pL, .int .i64 pE, .int .i64 ((room : Nat) : Int), .int .i64 hv] 80] (by decide) (by kernel_rfl)
                have hkq : k4 = k3 := by omega
                rw [hkq] at r2
                exact ⟨(k3 + 1, fb), (by dsimp only; omega), (nthV [.int .i64 ((k3 : Nat) : Int), .int .i64 (lP.getD k3 0), (uf6 0), .bool true, .int .i64 ((k3 : Nat) : Int), .pointer (some ⟨gP, oP + k3, none⟩), .int .i64 (lP.getD k3 0), .pointer (some ⟨g2, 1, none⟩), .slice aP nP cP, .int .i64 ((k3 : Nat) : Int), .slice aP k3 cP, .int .i64 ((k3 : Nat) : Int), .int .i64 ((k4 : Nat) : Int), .bool false, (uf6 2), (uf6 3), (uf6 4), (uf6 5), (uf6 6), (uf6 7), (uf6 8), (uf6 9), (uf6 10), .int .i64 (((k3 : Nat) : Int) + 1)]), (by kernel_rfl), H, (by omega), (by rw [r2, Dif.next, and_assoc])⟩
              · skip
                have h9p := of_decide_eq_true h9
                refine x_t (by kernel_rfl) ?_
                refine x_skipc ?_
                refine x_then ?_
                refine x_seq ?_
                refine x_block ?_
                refine x_seq ?_
                refine x_region ?_
                refine x_ixO (t := 106) hadP k4 k3 cP 3 1 (oP + k4) (by omega) (by omega) (by kernel_rfl) (by kernel_rfl) (by kernel_rfl) rfl (by kernel_rfl) ?_
                refine x_loadc gP (oP + k4) (.int .i64 (lP.getD k4 0)) ((by simpa using hcPp _ H.below k4 (by omega) 0 _ rfl)) (by kernel_rfl) rfl (by kernel_rfl) ?_
                refine x_val (.int .i64 (lP.getD k4 0)) (by kernel_rfl) rfl (by kernel_rfl) ?_
                refine x_nil ?_
                refine x_then ?_
                refine x_region ?_
                refine x_val (.bool fb) (by kernel_rfl) rfl (by kernel_rfl) ?_
                refine x_val (.bool fb) (by kernel_rfl) rfl (by kernel_rfl) ?_
                cases h10 : fb
                · skip
                  refine x_skip (by kernel_rfl) ?_
                  refine x_skip (by kernel_rfl) ?_
                  refine x_skip (by kernel_rfl) ?_
                  refine x_val (.bool false) (by kernel_rfl) rfl (by kernel_rfl) ?_
                  refine x_val (.bool false) (by kernel_rfl) rfl (by kernel_rfl) ?_
                  refine x_nil ?_
                  refine x_blk ?_
                  refine x_then ?_
                  refine x_region ?_
                  refine x_ar (((k4 : Nat) : Int) + 1) ⟨by omega, by omega⟩ (by kernel_rfl) rfl (by kernel_rfl) ?_
                  refine x_val (.int .i64 (((k4 : Nat) : Int) + 1)) (by kernel_rfl) rfl (by kernel_rfl) ?_
                  refine x_nil ?_
                  refine x_then ?_
                  replace H := H.pick [0, 1] [.blk g2 #[.slice aR nR cR, .slice aP nP cP, .slice aB nB cB] 147, .blk g1 #[.int .i64 rL, .int .i64 rE, .int .i64 pL, .int .i64 pE, .int .i64 ((room : Nat) : Int), .int .i64 hv] 80] (by decide) (by kernel_rfl)
                  exact ⟨(k4 + 1, false), (by dsimp only; omega), (nthV [.int .i64 (lP.getD k4 0), .bool true, .pointer (some ⟨gP, oP + k4, none⟩), .int .i64 (lP.getD k4 0), .bool false, .bool false, undef, undef, undef, .bool false, .int .i64 (((k4 : Nat) : Int) + 1)]), (by kernel_rfl), H, (by omega), (iff_step r2 Dif1.next (by rw [h10]; first | (simp; done) | (simp only [Bool.not_eq_true', decide_eq_false_iff_not, true_and, ne_eq]; exact ⟨fun z e => z e.symm, fun z e => z e.symm⟩)))⟩
                · skip
                  refine x_val (.int .i64 (lP.getD k3 0)) (by kernel_rfl) rfl (by kernel_rfl) ?_
                  refine x_val (.int .i64 (lP.getD k4 0)) (by kernel_rfl) rfl (by kernel_rfl) ?_
                  refine x_val (.bool (!(decide ((lP.getD k3 0) = (lP.getD k4 0))))) (by kernel_rfl) rfl (by kernel_rfl) ?_
                  refine x_val (.bool (!(decide ((lP.getD k3 0) = (lP.getD k4 0))))) (by kernel_rfl) rfl (by kernel_rfl) ?_
                  refine x_val (.bool (!(decide ((lP.getD k3 0) = (lP.getD k4 0))))) (by kernel_rfl) rfl (by kernel_rfl) ?_
                  refine x_nil ?_
                  refine x_blk ?_
                  refine x_then ?_
                  refine x_region ?_
                  refine x_ar (((k4 : Nat) : Int) + 1) ⟨by omega, by omega⟩ (by kernel_rfl) rfl (by kernel_rfl) ?_
                  refine x_val (.int .i64 (((k4 : Nat) : Int) + 1)) (by kernel_rfl) rfl (by kernel_rfl) ?_
                  refine x_nil ?_
                  refine x_then ?_
                  replace H := H.pick [0, 1] [.blk g2 #[.slice aR nR cR, .slice aP nP cP, .slice aB nB cB] 147, .blk g1 #[.int .i64 rL, .int .i64 rE, .int .i64 pL, .int .i64 pE, .int .i64 ((room : Nat) : Int), .int .i64 hv] 80] (by decide) (by kernel_rfl)
                  exact ⟨(k4 + 1, (!(decide ((lP.getD k3 0) = (lP.getD k4 0))))), (by dsimp only; omega), (nthV [.int .i64 (lP.getD k4 0), .bool true, .pointer (some ⟨gP, oP + k4, none⟩), .int .i64 (lP.getD k4 0), .bool true, .bool true, .int .i64 (lP.getD k3 0), .int .i64 (lP.getD k4 0), .bool (!(decide ((lP.getD k3 0) = (lP.getD k4 0)))), .bool (!(decide ((lP.getD k3 0) = (lP.getD k4 0)))), .int .i64 (((k4 : Nat) : Int) + 1)]), (by kernel_rfl), H, (by omega), (iff_step r2 Dif1.next (by rw [h10]; first | (simp; done) | (simp only [Bool.not_eq_true', decide_eq_false_iff_not, true_and, ne_eq]; exact ⟨fun z e => z e.symm, fun z e => z e.symm⟩)))⟩
          · skip
            have h7p := of_decide_eq_true h7
            refine x_t (by kernel_rfl) ?_
            refine x_skipc ?_
            refine x_then ?_
            refine x_seq ?_
            refine x_block ?_
            refine x_seq ?_
            refine x_region ?_
            obtain ⟨gB, oB, hadB, hcB⟩ := hAB (by omega)
            refine x_ixO (t := 145) hadB k2 nB cB 86 2 (oB + k2 * 2) (by omega) (by omega) (by kernel_rfl) (by kernel_rfl) (by kernel_rfl) rfl (by kernel_rfl) ?_
            refine x_loadcn (t := 86) gB (oB + k2 * 2) [.int .i64 ((lB.getD k2 (0, 0)).1), .int .i64 ((lB.getD k2 (0, 0)).2)] (hcB _ H.below k2 (by omega)) (by kernel_rfl) rfl (by kernel_rfl) (by kernel_rfl) ?_
            refine x_box H #[.int .i64 0, .int .i64 0] 86 (by kernel_rfl) rfl (by kernel_rfl) ?_
            clear H
            intro v25 g3 H
            refine x_store (t := 86) (v := .agg #[.int .i64 ((lB.getD k2 (0, 0)).1), .int .i64 ((lB.getD k2 (0, 0)).2)]) H 0 g3 0 _ #[.int .i64 ((lB.getD k2 (0, 0)).1), .int .i64 ((lB.getD k2 (0, 0)).2)] 86 [.int .i64 ((lB.getD k2 (0, 0)).1), .int .i64 ((lB.getD k2 (0, 0)).2)] _ rfl rfl (by kernel_rfl) (by kernel_rfl) (by kernel_rfl) rfl (by kernel_rfl) (by kernel_rfl) (by kernel_rfl) (by kernel_rfl) ?_
            clear H
            intro v26 H
            refine x_nil ?_
            refine x_then ?_
            refine x_region ?_
            refine x_val (.bool fb) (by kernel_rfl) rfl (by kernel_rfl) ?_
            refine x_val (.bool fb) (by kernel_rfl) rfl (by kernel_rfl) ?_
            cases h11 : fb
            · skip
              refine x_skip (by kernel_rfl) ?_
              refine x_skip (by kernel_rfl) ?_
              refine x_skip (by kernel_rfl) ?_
              refine x_skip (by kernel_rfl) ?_
              refine x_skip (by kernel_rfl) ?_
              refine x_val (.bool false) (by kernel_rfl) rfl (by kernel_rfl) ?_
              refine x_val (.bool false) (by kernel_rfl) rfl (by kernel_rfl) ?_
              refine x_nil ?_
              refine x_blk ?_
              refine x_then ?_
              refine x_region ?_
              refine x_ar (((k2 : Nat) : Int) + 1) ⟨by omega, by omega⟩ (by kernel_rfl) rfl (by kernel_rfl) ?_
              refine x_val (.int .i64 (((k2 : Nat) : Int) + 1)) (by kernel_rfl) rfl (by kernel_rfl) ?_
              refine x_nil ?_
              refine x_then ?_
              replace H := H.pick [1, 2] [.blk g2 #[.slice aR nR cR, .slice aP nP cP, .slice aB nB cB] 147, .blk g1 #[.int .i64 rL, .int .i64 rE, .int .i64 pL, .int .i64 pE, .int .i64 ((room : Nat) : Int), .int .i64 hv] 80] (by decide) (by kernel_rfl)
              exact ⟨(k2 + 1, false), (by dsimp only; omega), (nthV [.pointer (some ⟨g3, 0, none⟩), .bool true, .pointer (some ⟨gB, oB + k2 * 2, none⟩), .agg #[.int .i64 ((lB.getD k2 (0, 0)).1), .int .i64 ((lB.getD k2 (0, 0)).2)], .bool false, .bool false, undef, undef, undef, undef, undef, .bool false, .int .i64 (((k2 : Nat) : Int) + 1)]), (by kernel_rfl), H, (by omega), (iff_step r2 AllB.next (by rw [h11]; simp))⟩
            · skip
              refine x_val (.pointer (some ⟨g1, 2, none⟩)) (by kernel_rfl) rfl (by kernel_rfl) ?_
              refine x_loadn (t := 78) H 2 g1 2 _ _ [.int .i64 pL, .int .i64 pE] rfl (by kernel_rfl) (by kernel_rfl) rfl (by kernel_rfl) (by kernel_rfl) ?_
              refine x_loadn (t := 86) H 0 g3 0 _ _ [.int .i64 ((lB.getD k2 (0, 0)).1), .int .i64 ((lB.getD k2 (0, 0)).2)] rfl (by kernel_rfl) (by kernel_rfl) rfl (by kernel_rfl) (by kernel_rfl) ?_
              refine x_callB (.agg #[.int .i64 pL, .int .i64 pE, .int .i64 ((lB.getD k2 (0, 0)).1), .int .i64 ((lB.getD k2 (0, 0)).2)]) H (by kernel_rfl) rfl (by kernel_rfl) (of_ pL pE ((lB.getD k2 (0, 0)).1) ((lB.getD k2 (0, 0)).2) _) ?_
              clear H
              intro v27 H
              refine x_callB (.bool (decide (RB pE (lB.getD k2 (0, 0))))) H (by kernel_rfl) rfl (by kernel_rfl) (Right_ pL pE ((lB.getD k2 (0, 0)).1) ((lB.getD k2 (0, 0)).2) hb.2.1 _) ?_
              clear H
              intro v28 H
              refine x_val (.bool (decide (RB pE (lB.getD k2 (0, 0))))) (by kernel_rfl) rfl (by kernel_rfl) ?_
              refine x_val (.bool (decide (RB pE (lB.getD k2 (0, 0))))) (by kernel_rfl) rfl (by kernel_rfl) ?_
              refine x_nil ?_
              refine x_blk ?_
              refine x_then ?_
              refine x_region ?_
              refine x_ar (((k2 : Nat) : Int) + 1) ⟨by omega, by omega⟩ (by kernel_rfl) rfl (by kernel_rfl) ?_
              refine x_val (.int .i64 (((k2 : Nat) : Int) + 1)) (by kernel_rfl) rfl (by kernel_rfl) ?_
              refine x_nil ?_
              refine x_then ?_
              replace H := H.pick [1, 2] [.blk g2 #[.slice aR nR cR, .slice aP nP cP, .slice aB nB cB] 147, .blk g1 #[.int .i64 rL, .int .i64 rE, .int .i64 pL, .int .i64 pE, .int .i64 ((room : Nat) : Int), .int .i64 hv] 80] (by decide) (by kernel_rfl)
              exact ⟨(k2 + 1, (decide (RB pE (lB.getD k2 (0, 0))))), (by dsimp only; omega), (nthV [.pointer (some ⟨g3, 0, none⟩), .bool true, .pointer (some ⟨gB, oB + k2 * 2, none⟩), .agg #[.int .i64 ((lB.getD k2 (0, 0)).1), .int .i64 ((lB.getD k2 (0, 0)).2)], .bool true, .bool true, .pointer (some ⟨g1, 2, none⟩), .agg #[.int .i64 pL, .int .i64 pE], .agg #[.int .i64 ((lB.getD k2 (0, 0)).1), .int .i64 ((lB.getD k2 (0, 0)).2)], .agg #[.int .i64 pL, .int .i64 pE, .int .i64 ((lB.getD k2 (0, 0)).1), .int .i64 ((lB.getD k2 (0, 0)).2)], .bool (decide (RB pE (lB.getD k2 (0, 0)))), .bool (decide (RB pE (lB.getD k2 (0, 0)))), .int .i64 (((k2 : Nat) : Int) + 1)]), (by kernel_rfl), H, (by omega), (iff_step r2 AllB.next (by rw [h11]; simp))⟩
        · skip
          have h6p := of_decide_eq_true h6
          refine x_t (by kernel_rfl) ?_
          refine x_skipc ?_
          refine x_then ?_
          refine x_seq ?_
          refine x_block ?_
          refine x_seq ?_
          refine x_region ?_
          obtain ⟨gR, oR, hadR, hcR⟩ := hAR (by omega)
          refine x_ixO (t := 145) hadR k1 nR cR 86 2 (oR + k1 * 2) (by omega) (by omega) (by kernel_rfl) (by kernel_rfl) (by kernel_rfl) rfl (by kernel_rfl) ?_
          refine x_loadcn (t := 86) gR (oR + k1 * 2) [.int .i64 ((lR.getD k1 (0, 0)).1), .int .i64 ((lR.getD k1 (0, 0)).2)] (hcR _ H.below k1 (by omega)) (by kernel_rfl) rfl (by kernel_rfl) (by kernel_rfl) ?_
          refine x_box H #[.int .i64 0, .int .i64 0] 86 (by kernel_rfl) rfl (by kernel_rfl) ?_
          clear H
          intro v29 g4 H
          refine x_store (t := 86) (v := .agg #[.int .i64 ((lR.getD k1 (0, 0)).1), .int .i64 ((lR.getD k1 (0, 0)).2)]) H 0 g4 0 _ #[.int .i64 ((lR.getD k1 (0, 0)).1), .int .i64 ((lR.getD k1 (0, 0)).2)] 86 [.int .i64 ((lR.getD k1 (0, 0)).1), .int .i64 ((lR.getD k1 (0, 0)).2)] _ rfl rfl (by kernel_rfl) (by kernel_rfl) (by kernel_rfl) rfl (by kernel_rfl) (by kernel_rfl) (by kernel_rfl) (by kernel_rfl) ?_
          clear H
          intro v30 H
          refine x_nil ?_
          refine x_then ?_
          refine x_region ?_
          refine x_val (.bool fb) (by kernel_rfl) rfl (by kernel_rfl) ?_
          refine x_val (.bool fb) (by kernel_rfl) rfl (by kernel_rfl) ?_
          cases h12 : fb
          · skip
            refine x_skip (by kernel_rfl) ?_
            refine x_skip (by kernel_rfl) ?_
            refine x_skip (by kernel_rfl) ?_
            refine x_skip (by kernel_rfl) ?_
            refine x_skip (by kernel_rfl) ?_
            refine x_val (.bool false) (by kernel_rfl) rfl (by kernel_rfl) ?_
            refine x_val (.bool false) (by kernel_rfl) rfl (by kernel_rfl) ?_
            refine x_nil ?_
            refine x_blk ?_
            refine x_then ?_
            refine x_region ?_
            refine x_ar (((k1 : Nat) : Int) + 1) ⟨by omega, by omega⟩ (by kernel_rfl) rfl (by kernel_rfl) ?_
            refine x_val (.int .i64 (((k1 : Nat) : Int) + 1)) (by kernel_rfl) rfl (by kernel_rfl) ?_
            refine x_nil ?_
            refine x_then ?_
            replace H := H.pick [1, 2] [.blk g2 #[.slice aR nR cR, .slice aP nP cP, .slice aB nB cB] 147, .blk g1 #[.int .i64 rL, .int .i64 rE, .int .i64 pL, .int .i64 pE, .int .i64 ((room : Nat) : Int), .int .i64 hv] 80] (by decide) (by kernel_rfl)
            exact ⟨(k1 + 1, false), (by dsimp only; omega), (nthV [.pointer (some ⟨g4, 0, none⟩), .bool true, .pointer (some ⟨gR, oR + k1 * 2, none⟩), .agg #[.int .i64 ((lR.getD k1 (0, 0)).1), .int .i64 ((lR.getD k1 (0, 0)).2)], .bool false, .bool false, undef, undef, undef, undef, undef, .bool false, .int .i64 (((k1 : Nat) : Int) + 1)]), (by kernel_rfl), H, (by omega), (iff_step r2 AllB.next (by rw [h12]; simp))⟩
          · skip
            refine x_val (.pointer (some ⟨g1, 0, none⟩)) (by kernel_rfl) rfl (by kernel_rfl) ?_
            refine x_loadn (t := 78) H 2 g1 0 _ _ [.int .i64 rL, .int .i64 rE] rfl (by kernel_rfl) (by kernel_rfl) rfl (by kernel_rfl) (by kernel_rfl) ?_
            refine x_loadn (t := 86) H 0 g4 0 _ _ [.int .i64 ((lR.getD k1 (0, 0)).1), .int .i64 ((lR.getD k1 (0, 0)).2)] rfl (by kernel_rfl) (by kernel_rfl) rfl (by kernel_rfl) (by kernel_rfl) ?_
            refine x_callB (.agg #[.int .i64 rL, .int .i64 rE, .int .i64 ((lR.getD k1 (0, 0)).1), .int .i64 ((lR.getD k1 (0, 0)).2)]) H (by kernel_rfl) rfl (by kernel_rfl) (of_ rL rE ((lR.getD k1 (0, 0)).1) ((lR.getD k1 (0, 0)).2) _) ?_
            clear H
            intro v31 H
            refine x_callB (.bool (decide (RB rE (lR.getD k1 (0, 0))))) H (by kernel_rfl) rfl (by kernel_rfl) (Right_ rL rE ((lR.getD k1 (0, 0)).1) ((lR.getD k1 (0, 0)).2) hb.1 _) ?_
            clear H
            intro v32 H
            refine x_val (.bool (decide (RB rE (lR.getD k1 (0, 0))))) (by kernel_rfl) rfl (by kernel_rfl) ?_
            refine x_val (.bool (decide (RB rE (lR.getD k1 (0, 0))))) (by kernel_rfl) rfl (by kernel_rfl) ?_
            refine x_nil ?_
            refine x_blk ?_
            refine x_then ?_
            refine x_region ?_
            refine x_ar (((k1 : Nat) : Int) + 1) ⟨by omega, by omega⟩ (by kernel_rfl) rfl (by kernel_rfl) ?_
            refine x_val (.int .i64 (((k1 : Nat) : Int) + 1)) (by kernel_rfl) rfl (by kernel_rfl) ?_
            refine x_nil ?_
            refine x_then ?_
            replace H := H.pick [1, 2] [.blk g2 #[.slice aR nR cR, .slice aP nP cP, .slice aB nB cB] 147, .blk g1 #[.int .i64 rL, .int .i64 rE, .int .i64 pL, .int .i64 pE, .int .i64 ((room : Nat) : Int), .int .i64 hv] 80] (by decide) (by kernel_rfl)
            exact ⟨(k1 + 1, (decide (RB rE (lR.getD k1 (0, 0))))), (by dsimp only; omega), (nthV [.pointer (some ⟨g4, 0, none⟩), .bool true, .pointer (some ⟨gR, oR + k1 * 2, none⟩), .agg #[.int .i64 ((lR.getD k1 (0, 0)).1), .int .i64 ((lR.getD k1 (0, 0)).2)], .bool true, .bool true, .pointer (some ⟨g1, 0, none⟩), .agg #[.int .i64 rL, .int .i64 rE], .agg #[.int .i64 ((lR.getD k1 (0, 0)).1), .int .i64 ((lR.getD k1 (0, 0)).2)], .agg #[.int .i64 rL, .int .i64 rE, .int .i64 ((lR.getD k1 (0, 0)).1), .int .i64 ((lR.getD k1 (0, 0)).2)], .bool (decide (RB rE (lR.getD k1 (0, 0)))), .bool (decide (RB rE (lR.getD k1 (0, 0)))), .int .i64 (((k1 : Nat) : Int) + 1)]), (by kernel_rfl), H, (by omega), (iff_step r2 AllB.next (by rw [h12]; simp))⟩
    · skip
      have hf := hfit.1 h2
      refine x_call (by kernel_rfl) rfl (by kernel_rfl) (TRes_yes rL rE pL pE hv room aR aP aB nR nP nB cR cP cB lR lP lB hlR hb hf.r.1 hf.r.2 (by omega) (by omega) hf _ (hAR.at H.below) (hAP.at H.below) (hAB.at H.below)) ?_
      rintro _ v33 ⟨p0, gr0, t0, sv0, rfl, hN'⟩
      refine ⟨_, rfl, ?_⟩
      replace H := H.more hN'
      clear hN'
      replace H : Hs [] w0 _ [.blk p0 #[.int .i64 rL, .int .i64 rE, .int .i64 pL, .int .i64 pE, .int .i64 ((room : Nat) : Int), .int .i64 hv, .slice (some ⟨gr0, 0, none⟩) nR nR, .pointer (some ⟨t0, 0, none⟩)] 187, .row (.slice (some ⟨gr0, 0, none⟩) nR nR) 86 2 nR (List.flatMap bukL lR), .blk t0 #[sv0, .int .i64 ((room : Nat) : Int), .func (.func 103) #[] #[]] 228, .row (sv0) 230 3 (List.length (zipT lP lB nP)) (List.flatMap pairLB (zipT lP lB nP)), .blk g2 #[.slice aR nR cR, .slice aP nP cP, .slice aB nB cB] 147, .blk g1 #[.int .i64 rL, .int .i64 rE, .int .i64 pL, .int .i64 pE, .int .i64 ((room : Nat) : Int), .int .i64 hv] 80] := H
      refine x_val (.tuple #[.pointer (some ⟨p0, 0, none⟩), .int .i64 0]) (by kernel_rfl) rfl (by kernel_rfl) ?_
      refine x_val (.pointer (some ⟨p0, 0, none⟩)) (by kernel_rfl) rfl (by kernel_rfl) ?_
      refine x_val (.int .i64 0) (by kernel_rfl) rfl (by kernel_rfl) ?_
      refine x_val (.pointer (some ⟨p0, 0, none⟩)) (by kernel_rfl) rfl (by kernel_rfl) ?_
      refine x_val (.int .i64 0) (by kernel_rfl) rfl (by kernel_rfl) ?_
      refine x_nil ?_
      refine x_then ?_
      refine x_seq ?_
      refine x_seq ?_
      refine x_region ?_
      refine x_loadn (t := 80) H 5 g1 0 _ _ [.int .i64 rL, .int .i64 rE, .int .i64 pL, .int .i64 pE, .int .i64 ((room : Nat) : Int), .int .i64 hv] rfl (by kernel_rfl) (by kernel_rfl) rfl (by kernel_rfl) (by kernel_rfl) ?_
      refine x_callB (.bool true) H (by kernel_rfl) rfl (by kernel_rfl) (RulRight_yes rL rE pL pE hv ((room : Nat) : Int) hb _) ?_
      clear H
      intro v34 H
      refine x_val (.bool false) (by kernel_rfl) rfl (by kernel_rfl) ?_
      refine x_nil ?_
      refine x_then ?_
      refine x_f (by kernel_rfl) ?_
      refine x_skipc ?_
      refine x_then ?_
      refine x_seq ?_
      refine x_cut (fun a w' => ∃ fb : Bool, ∃ uf7 : Nat → Value, a = { tmps := #[.agg #[.int .i64 rL, .int .i64 rE, .int .i64 pL, .int .i64 pE, .int .i64 ((room : Nat) : Int), .int .i64 hv], .int .i64 rk, .slice aO nO cO, .slice aM nM cM, .agg #[.slice aR nR cR, .slice aP nP cP, .slice aB nB cB], .pointer (some ⟨g1, 0, none⟩), undef, undef, undef, .pointer (some ⟨g2, 0, none⟩), .bool false, .pointer (some ⟨p0, 0, none⟩), .int .i64 0, .bool fb, undef, undef, undef, undef, undef, undef, undef, undef, undef, undef, undef, undef, .bool true, .bool false, .slice aO nO cO, .int .i64 ((nO : Nat) : Int), .bool false, .bool false, .slice aM nM cM, .int .i64 ((nM : Nat) : Int), .bool false, .bool false, .bool false, .pointer (some ⟨g2, 0, none⟩), .slice aR nR cR, .int .i64 ((nR : Nat) : Int), .bool false, .bool false, .bool false, .pointer (some ⟨g2, 1, none⟩), .slice aP nP cP, .int .i64 ((nP : Nat) : Int), .bool false, .bool false, .bool false, .pointer (some ⟨g2, 2, none⟩), .slice aB nB cB, .int .i64 ((nB : Nat) : Int), .bool false, .bool false, .tuple #[.pointer (some ⟨p0, 0, none⟩), .int .i64 0], .agg #[.int .i64 rL, .int .i64 rE, .int .i64 pL, .int .i64 pE, .int .i64 ((room : Nat) : Int), .int .i64 hv], .agg #[.slice aR nR cR, .slice aP nP cP, .slice aB nB cB], .tuple #[.pointer (some ⟨p0, 0, none⟩), .int .i64 0], .pointer (some ⟨p0, 0, none⟩), .int .i64 0, .agg #[.int .i64 rL, .int .i64 rE, .int .i64 pL, .int .i64 pE, .int .i64 ((room : Nat) : Int), .int .i64 hv], .bool true, .bool false, undef, undef, undef, undef, undef, undef, (uf7 0), (uf7 1), (uf7 2), (uf7 3), (uf7 4), (uf7 5), (uf7 6), (uf7 7), (uf7 8), (uf7 9), (uf7 10), (uf7 11), (uf7 12), (uf7 13), (uf7 14), (uf7 15), (uf7 16), (uf7 17), (uf7 18), (uf7 19), (uf7 20), (uf7 21), (uf7 22), (uf7 23), (uf7 24), (uf7 25), (uf7 26), undef, undef, undef, undef, undef, undef, undef, undef, undef, undef, undef, undef, undef, undef, undef, undef, undef, undef, undef, undef, undef, undef, undef, undef, undef, undef, undef, undef, undef, undef, undef, undef, undef, undef, undef, undef, undef, undef, undef, undef, undef, undef, undef, undef, undef, undef, undef, undef, undef, undef, undef, undef, undef, undef, undef, undef, undef, undef, undef, undef, undef, undef, undef, undef, undef, undef, undef, undef, undef, undef, undef, undef, undef, undef, undef, undef, undef, undef, undef, undef, undef, undef, undef, undef, undef, undef, undef, undef, undef, undef, undef, undef, undef, undef, undef, undef, undef, undef, undef, undef, undef, undef, undef, undef, undef, undef, undef, undef], defers := [] } ∧ Hs [] w0 w' [.blk p0 #[.int .i64 rL, .int .i64 rE, .int .i64 pL, .int .i64 pE, .int .i64 ((room : Nat) : Int), .int .i64 hv, .slice (some ⟨gr0, 0, none⟩) nR nR, .pointer (some ⟨t0, 0, none⟩)] 187, .row (.slice (some ⟨gr0, 0, none⟩) nR nR) 86 2 nR (List.flatMap bukL lR), .blk t0 #[sv0, .int .i64 ((room : Nat) : Int), .func (.func 103) #[] #[]] 228, .row (sv0) 230 3 (List.length (zipT lP lB nP)) (List.flatMap pairLB (zipT lP lB nP)), .blk g2 #[.slice aR nR cR, .slice aP nP cP, .slice aB nB cB] 147, .blk g1 #[.int .i64 rL, .int .i64 rE, .int .i64 pL, .int .i64 pE, .int .i64 ((room : Nat) : Int), .int .i64 hv] 80] ∧ (fb = true ↔ ((1 ≤ nR ∧ nR ≤ 8) ∧ nP = nB ∧ nP ≤ room))) ?_ ?_
      · skip
        refine x_region ?_
        refine x_val (.pointer (some ⟨g2, 0, none⟩)) (by kernel_rfl) rfl (by kernel_rfl) ?_
        refine x_load1 H 4 g2 0 _ _ (.slice aR nR cR) rfl (by kernel_rfl) (by kernel_rfl) rfl (by kernel_rfl) ?_
        refine x_val (.int .i64 ((nR : Nat) : Int)) (by kernel_rfl) rfl (by kernel_rfl) ?_
        refine x_val (.bool (decide (1 ≤ ((nR : Nat) : Int)))) (by kernel_rfl) rfl (by kernel_rfl) ?_
        refine x_val (.bool (decide (1 ≤ ((nR : Nat) : Int)))) (by kernel_rfl) rfl (by kernel_rfl) ?_
        cases h13 : decide (1 ≤ ((nR : Nat) : Int))
        · skip
          have h13p := of_decide_eq_false h13
          refine x_skip (by kernel_rfl) ?_
          refine x_skip (by kernel_rfl) ?_
          refine x_skip (by kernel_rfl) ?_
          refine x_skip (by kernel_rfl) ?_
          refine x_val (.bool false) (by kernel_rfl) rfl (by kernel_rfl) ?_
          refine x_val (.bool false) (by kernel_rfl) rfl (by kernel_rfl) ?_
          refine x_skip (by kernel_rfl) ?_
          refine x_skip (by kernel_rfl) ?_
          refine x_skip (by kernel_rfl) ?_
          refine x_skip (by kernel_rfl) ?_
          refine x_skip (by kernel_rfl) ?_
          refine x_skip (by kernel_rfl) ?_
          refine x_skip (by kernel_rfl) ?_
          refine x_val (.bool false) (by kernel_rfl) rfl (by kernel_rfl) ?_
          refine x_val (.bool false) (by kernel_rfl) rfl (by kernel_rfl) ?_
          refine x_skip (by kernel_rfl) ?_
          refine x_skip (by kernel_rfl) ?_
          refine x_skip (by kernel_rfl) ?_
          refine x_skip (by kernel_rfl) ?_
          refine x_skip (by kernel_rfl) ?_
          refine x_skip (by kernel_rfl) ?_
          refine x_val (.bool false) (by kernel_rfl) rfl (by kernel_rfl) ?_
          refine x_val (.bool false) (by kernel_rfl) rfl (by kernel_rfl) ?_
          refine x_nil ?_
          refine x_frame' { tmps := #[.agg #[.int .i64 rL, .int .i64 rE, .int .i64 pL, .int .i64 pE, .int .i64 ((room : Nat) : Int), .int .i64 hv], .int .i64 rk, .slice aO nO cO, .slice aM nM cM, .agg #[.slice aR nR cR, .slice aP nP cP, .slice aB nB cB], .pointer (some ⟨g1, 0, none⟩), undef, undef, undef, .pointer (some ⟨g2, 0, none⟩), .bool false, .pointer (some ⟨p0, 0, none⟩), .int .i64 0, .bool false, undef, undef, undef, undef, undef, undef, undef, undef, undef, undef, undef, undef, .bool true, .bool false, .slice aO nO cO, .int .i64 ((nO : Nat) : Int), .bool false, .bool false, .slice aM nM cM, .int .i64 ((nM : Nat) : Int), .bool false, .bool false, .bool false, .pointer (some ⟨g2, 0, none⟩), .slice aR nR cR, .int .i64 ((nR : Nat) : Int), .bool false, .bool false, .bool false, .pointer (some ⟨g2, 1, none⟩), .slice aP nP cP, .int .i64 ((nP : Nat) : Int), .bool false, .bool false, .bool false, .pointer (some ⟨g2, 2, none⟩), .slice aB nB cB, .int .i64 ((nB : Nat) : Int), .bool false, .bool false, .tuple #[.pointer (some ⟨p0, 0, none⟩), .int .i64 0], .agg #[.int .i64 rL, .int .i64 rE, .int .i64 pL, .int .i64 pE, .int .i64 ((room : Nat) : Int), .int .i64 hv], .agg #[.slice aR nR cR, .slice aP nP cP, .slice aB nB cB], .tuple #[.pointer (some ⟨p0, 0, none⟩), .int .i64 0], .pointer (some ⟨p0, 0, none⟩), .int .i64 0, .agg #[.int .i64 rL, .int .i64 rE, .int .i64 pL, .int .i64 pE, .int .i64 ((room : Nat) : Int), .int .i64 hv], .bool true, .bool false, undef, undef, undef, undef, undef, undef, .pointer (some ⟨g2, 0, none⟩), .slice aR nR cR, .int .i64 ((nR : Nat) : Int), .bool false, .bool false, undef, undef, undef, undef, .bool false, .bool false, undef, undef, undef, undef, undef, undef, undef, .bool false, .bool false, undef, undef, undef, undef, undef, undef, .bool false, undef, undef, undef, undef, undef, undef, undef, undef, undef, undef, undef, undef, undef, undef, undef, undef, undef, undef, undef, undef, undef, undef, undef, undef, undef, undef, undef, undef, undef, undef, undef, undef, undef, undef, undef, undef, undef, undef, undef, undef, undef, undef, undef, undef, undef, undef, undef, undef, undef, undef, undef, undef, undef, undef, undef, undef, undef, undef, undef, undef, undef, undef, undef, undef, undef, undef, undef, undef, undef, undef, undef, undef, undef, undef, undef, undef, undef, undef, undef, undef, undef, undef, undef, undef, undef, undef, undef, undef, undef, undef, undef, undef, undef, undef, undef, undef, undef, undef, undef, undef, undef, undef, undef, undef, undef, undef, undef, undef], defers := [] } (by kernel_rfl) ?_
          refine x_then ?_
          exact ⟨false, (nthV [.pointer (some ⟨g2, 0, none⟩), .slice aR nR cR, .int .i64 ((nR : Nat) : Int), .bool false, .bool false, undef, undef, undef, undef, .bool false, .bool false, undef, undef, undef, undef, undef, undef, undef, .bool false, .bool false, undef, undef, undef, undef, undef, undef, .bool false]), (by kernel_rfl), H, (by simp only [Bool.false_eq_true, decide_eq_true_eq, false_iff]; omega)⟩
        · skip
          have h13p := of_decide_eq_true h13
          refine x_val (.pointer (some ⟨g2, 0, none⟩)) (by kernel_rfl) rfl (by kernel_rfl) ?_
          refine x_load1 H 4 g2 0 _ _ (.slice aR nR cR) rfl (by kernel_rfl) (by kernel_rfl) rfl (by kernel_rfl) ?_
          refine x_val (.int .i64 ((nR : Nat) : Int)) (by kernel_rfl) rfl (by kernel_rfl) ?_
          refine x_val (.bool (decide (((nR : Nat) : Int) ≤ 8))) (by kernel_rfl) rfl (by kernel_rfl) ?_
          refine x_val (.bool (decide (((nR : Nat) : Int) ≤ 8))) (by kernel_rfl) rfl (by kernel_rfl) ?_
          refine x_val (.bool (decide (((nR : Nat) : Int) ≤ 8))) (by kernel_rfl) rfl (by kernel_rfl) ?_
          cases h14 : decide (((nR : Nat) : Int) ≤ 8)
          · skip
            have h14p := of_decide_eq_false h14
            refine x_skip (by kernel_rfl) ?_
            refine x_skip (by kernel_rfl) ?_
            refine x_skip (by kernel_rfl) ?_
            refine x_skip (by kernel_rfl) ?_
            refine x_skip (by kernel_rfl) ?_
            refine x_skip (by kernel_rfl) ?_
            refine x_skip (by kernel_rfl) ?_
            refine x_val (.bool false) (by kernel_rfl) rfl (by kernel_rfl) ?_
            refine x_val (.bool false) (by kernel_rfl) rfl (by kernel_rfl) ?_
            refine x_skip (by kernel_rfl) ?_
            refine x_skip (by kernel_rfl) ?_
            refine x_skip (by kernel_rfl) ?_
            refine x_skip (by kernel_rfl) ?_
            refine x_skip (by kernel_rfl) ?_
            refine x_skip (by kernel_rfl) ?_
            refine x_val (.bool false) (by kernel_rfl) rfl (by kernel_rfl) ?_
            refine x_val (.bool false) (by kernel_rfl) rfl (by kernel_rfl) ?_
            refine x_nil ?_
            refine x_frame' { tmps := #[.agg #[.int .i64 rL, .int .i64 rE, .int .i64 pL, .int .i64 pE, .int .i64 ((room : Nat) : Int), .int .i64 hv], .int .i64 rk, .slice aO nO cO, .slice aM nM cM, .agg #[.slice aR nR cR, .slice aP nP cP, .slice aB nB cB], .pointer (some ⟨g1, 0, none⟩), undef, undef, undef, .pointer (some ⟨g2, 0, none⟩), .bool false, .pointer (some ⟨p0, 0, none⟩), .int .i64 0, .bool false, undef, undef, undef, undef, undef, undef, undef, undef, undef, undef, undef, undef, .bool true, .bool false, .slice aO nO cO, .int .i64 ((nO : Nat) : Int), .bool false, .bool false, .slice aM nM cM, .int .i64 ((nM : Nat) : Int), .bool false, .bool false, .bool false, .pointer (some ⟨g2, 0, none⟩), .slice aR nR cR, .int .i64 ((nR : Nat) : Int), .bool false, .bool false, .bool false, .pointer (some ⟨g2, 1, none⟩), .slice aP nP cP, .int .i64 ((nP : Nat) : Int), .bool false, .bool false, .bool false, .pointer (some ⟨g2, 2, none⟩), .slice aB nB cB, .int .i64 ((nB : Nat) : Int), .bool false, .bool false, .tuple #[.pointer (some ⟨p0, 0, none⟩), .int .i64 0], .agg #[.int .i64 rL, .int .i64 rE, .int .i64 pL, .int .i64 pE, .int .i64 ((room : Nat) : Int), .int .i64 hv], .agg #[.slice aR nR cR, .slice aP nP cP, .slice aB nB cB], .tuple #[.pointer (some ⟨p0, 0, none⟩), .int .i64 0], .pointer (some ⟨p0, 0, none⟩), .int .i64 0, .agg #[.int .i64 rL, .int .i64 rE, .int .i64 pL, .int .i64 pE, .int .i64 ((room : Nat) : Int), .int .i64 hv], .bool true, .bool false, undef, undef, undef, undef, undef, undef, .pointer (some ⟨g2, 0, none⟩), .slice aR nR cR, .int .i64 ((nR : Nat) : Int), .bool true, .bool true, .pointer (some ⟨g2, 0, none⟩), .slice aR nR cR, .int .i64 ((nR : Nat) : Int), .bool false, .bool false, .bool false, undef, undef, undef, undef, undef, undef, undef, .bool false, .bool false, undef, undef, undef, undef, undef, undef, .bool false, undef, undef, undef, undef, undef, undef, undef, undef, undef, undef, undef, undef, undef, undef, undef, undef, undef, undef, undef, undef, undef, undef, undef, undef, undef, undef, undef, undef, undef, undef, undef, undef, undef, undef, undef, undef, undef, undef, undef, undef, undef, undef, undef, undef, undef, undef, undef, undef, undef, undef, undef, undef, undef, undef, undef, undef, undef, undef, undef, undef, undef, undef, undef, undef, undef, undef, undef, undef, undef, undef, undef, undef, undef, undef, undef, undef, undef, undef, undef, undef, undef, undef, undef, undef, undef, undef, undef, undef, undef, undef, undef, undef, undef, undef, undef, undef, undef, undef, undef, undef, undef, undef, undef, undef, undef, undef, undef, undef], defers := [] } (by kernel_rfl) ?_
            refine x_then ?_
            exact ⟨false, (nthV [.pointer (some ⟨g2, 0, none⟩), .slice aR nR cR, .int .i64 ((nR : Nat) : Int), .bool true, .bool true, .pointer (some ⟨g2, 0, none⟩), .slice aR nR cR, .int .i64 ((nR : Nat) : Int), .bool false, .bool false, .bool false, undef, undef, undef, undef, undef, undef, undef, .bool false, .bool false, undef, undef, undef, undef, undef, undef, .bool false]), (by kernel_rfl), H, (by simp only [Bool.false_eq_true, decide_eq_true_eq, false_iff]; omega)⟩
          · skip
            have h14p := of_decide_eq_true h14
            refine x_val (.pointer (some ⟨g2, 1, none⟩)) (by kernel_rfl) rfl (by kernel_rfl) ?_
            refine x_load1 H 4 g2 1 _ _ (.slice aP nP cP) rfl (by kernel_rfl) (by kernel_rfl) rfl (by kernel_rfl) ?_
            refine x_val (.int .i64 ((nP : Nat) : Int)) (by kernel_rfl) rfl (by kernel_rfl) ?_
            refine x_val (.pointer (some ⟨g2, 2, none⟩)) (by kernel_rfl) rfl (by kernel_rfl) ?_
            refine x_load1 H 4 g2 2 _ _ (.slice aB nB cB) rfl (by kernel_rfl) (by kernel_rfl) rfl (by kernel_rfl) ?_
            refine x_val (.int .i64 ((nB : Nat) : Int)) (by kernel_rfl) rfl (by kernel_rfl) ?_
            refine x_val (.bool (decide (((nP : Nat) : Int) = ((nB : Nat) : Int)))) (by kernel_rfl) rfl (by kernel_rfl) ?_
            refine x_val (.bool (decide (((nP : Nat) : Int) = ((nB : Nat) : Int)))) (by kernel_rfl) rfl (by kernel_rfl) ?_
            refine x_val (.bool (decide (((nP : Nat) : Int) = ((nB : Nat) : Int)))) (by kernel_rfl) rfl (by kernel_rfl) ?_
            cases h15 : decide (((nP : Nat) : Int) = ((nB : Nat) : Int))
            · skip
              have h15p := of_decide_eq_false h15
              refine x_skip (by kernel_rfl) ?_
              refine x_skip (by kernel_rfl) ?_
              refine x_skip (by kernel_rfl) ?_
              refine x_skip (by kernel_rfl) ?_
              refine x_skip (by kernel_rfl) ?_
              refine x_skip (by kernel_rfl) ?_
              refine x_val (.bool false) (by kernel_rfl) rfl (by kernel_rfl) ?_
              refine x_val (.bool false) (by kernel_rfl) rfl (by kernel_rfl) ?_
              refine x_nil ?_
              refine x_frame' { tmps := #[.agg #[.int .i64 rL, .int .i64 rE, .int .i64 pL, .int .i64 pE, .int .i64 ((room : Nat) : Int), .int .i64 hv], .int .i64 rk, .slice aO nO cO, .slice aM nM cM, .agg #[.slice aR nR cR, .slice aP nP cP, .slice aB nB cB], .pointer (some ⟨g1, 0, none⟩), undef, undef, undef, .pointer (some ⟨g2, 0, none⟩), .bool false, .pointer (some ⟨p0, 0, none⟩), .int .i64 0, .bool false, undef, undef, undef, undef, undef, undef, undef, undef, undef, undef, undef, undef, .bool true, .bool false, .slice aO nO cO, .int .i64 ((nO : Nat) : Int), .bool false, .bool false, .slice aM nM cM, .int .i64 ((nM : Nat) : Int), .bool false, .bool false, .bool false, .pointer (some ⟨g2, 0, none⟩), .slice aR nR cR, .int .i64 ((nR : Nat) : Int), .bool false, .bool false, .bool false, .pointer (some ⟨g2, 1, none⟩), .slice aP nP cP, .int .i64 ((nP : Nat) : Int), .bool false, .bool false, .bool false, .pointer (some ⟨g2, 2, none⟩), .slice aB nB cB, .int .i64 ((nB : Nat) : Int), .bool false, .bool false, .tuple #[.pointer (some ⟨p0, 0, none⟩), .int .i64 0], .agg #[.int .i64 rL, .int .i64 rE, .int .i64 pL, .int .i64 pE, .int .i64 ((room : Nat) : Int), .int .i64 hv], .agg #[.slice aR nR cR, .slice aP nP cP, .slice aB nB cB], .tuple #[.pointer (some ⟨p0, 0, none⟩), .int .i64 0], .pointer (some ⟨p0, 0, none⟩), .int .i64 0, .agg #[.int .i64 rL, .int .i64 rE, .int .i64 pL, .int .i64 pE, .int .i64 ((room : Nat) : Int), .int .i64 hv], .bool true, .bool false, undef, undef, undef, undef, undef, undef, .pointer (some ⟨g2, 0, none⟩), .slice aR nR cR, .int .i64 ((nR : Nat) : Int), .bool true, .bool true, .pointer (some ⟨g2, 0, none⟩), .slice aR nR cR, .int .i64 ((nR : Nat) : Int), .bool true, .bool true, .bool true, .pointer (some ⟨g2, 1, none⟩), .slice aP nP cP, .int .i64 ((nP : Nat) : Int), .pointer (some ⟨g2, 2, none⟩), .slice aB nB cB, .int .i64 ((nB : Nat) : Int), .bool false, .bool false, .bool false, undef, undef, undef, undef, undef, undef, .bool false, undef, undef, undef, undef, undef, undef, undef, undef, undef, undef, undef, undef, undef, undef, undef, undef, undef, undef, undef, undef, undef, undef, undef, undef, undef, undef, undef, undef, undef, undef, undef, undef, undef, undef, undef, undef, undef, undef, undef, undef, undef, undef, undef, undef, undef, undef, undef, undef, undef, undef, undef, undef, undef, undef, undef, undef, undef, undef, undef, undef, undef, undef, undef, undef, undef, undef, undef, undef, undef, undef, undef, undef, undef, undef, undef, undef, undef, undef, undef, undef, undef, undef, undef, undef, undef, undef, undef, undef, undef, undef, undef, undef, undef, undef, undef, undef, undef, undef, undef, undef, undef, undef, undef, undef, undef, undef, undef, undef], defers := [] } (by kernel_rfl) ?_
              refine x_then ?_
              exact ⟨false, (nthV [.pointer (some ⟨g2, 0, none⟩), .slice aR nR cR, .int .i64 ((nR : Nat) : Int), .bool true, .bool true, .pointer (some ⟨g2, 0, none⟩), .slice aR nR cR, .int .i64 ((nR : Nat) : Int), .bool true, .bool true, .bool true, .pointer (some ⟨g2, 1, none⟩), .slice aP nP cP, .int .i64 ((nP : Nat) : Int), .pointer (some ⟨g2, 2, none⟩), .slice aB nB cB, .int .i64 ((nB : Nat) : Int), .bool false, .bool false, .bool false, undef, undef, undef, undef, undef, undef, .bool false]), (by kernel_rfl), H, (by simp only [Bool.false_eq_true, decide_eq_true_eq, false_iff]; omega)⟩
            · skip
              have h15p := of_decide_eq_true h15
              refine x_val (.pointer (some ⟨g2, 1, none⟩)) (by kernel_rfl) rfl (by kernel_rfl) ?_
              refine x_load1 H 4 g2 1 _ _ (.slice aP nP cP) rfl (by kernel_rfl) (by kernel_rfl) rfl (by kernel_rfl) ?_
              refine x_val (.int .i64 ((nP : Nat) : Int)) (by kernel_rfl) rfl (by kernel_rfl) ?_
              refine x_val (.pointer (some ⟨g1, 4, none⟩)) (by kernel_rfl) rfl (by kernel_rfl) ?_
              refine x_load1 H 5 g1 4 _ _ (.int .i64 ((room : Nat) : Int)) rfl (by kernel_rfl) (by kernel_rfl) rfl (by kernel_rfl) ?_
              refine x_val (.bool (decide (((nP : Nat) : Int) ≤ ((room : Nat) : Int)))) (by kernel_rfl) rfl (by kernel_rfl) ?_
              refine x_val (.bool (decide (((nP : Nat) : Int) ≤ ((room : Nat) : Int)))) (by kernel_rfl) rfl (by kernel_rfl) ?_
              refine x_val (.bool (decide (((nP : Nat) : Int) ≤ ((room : Nat) : Int)))) (by kernel_rfl) rfl (by kernel_rfl) ?_
              refine x_nil ?_
              refine x_frame' { tmps := #[.agg #[.int .i64 rL, .int .i64 rE, .int .i64 pL, .int .i64 pE, .int .i64 ((room : Nat) : Int), .int .i64 hv], .int .i64 rk, .slice aO nO cO, .slice aM nM cM, .agg #[.slice aR nR cR, .slice aP nP cP, .slice aB nB cB], .pointer (some ⟨g1, 0, none⟩), undef, undef, undef, .pointer (some ⟨g2, 0, none⟩), .bool false, .pointer (some ⟨p0, 0, none⟩), .int .i64 0, .bool (decide (((nP : Nat) : Int) ≤ ((room : Nat) : Int))), undef, undef, undef, undef, undef, undef, undef, undef, undef, undef, undef, undef, .bool true, .bool false, .slice aO nO cO, .int .i64 ((nO : Nat) : Int), .bool false, .bool false, .slice aM nM cM, .int .i64 ((nM : Nat) : Int), .bool false, .bool false, .bool false, .pointer (some ⟨g2, 0, none⟩), .slice aR nR cR, .int .i64 ((nR : Nat) : Int), .bool false, .bool false, .bool false, .pointer (some ⟨g2, 1, none⟩), .slice aP nP cP, .int .i64 ((nP : Nat) : Int), .bool false, .bool false, .bool false, .pointer (some ⟨g2, 2, none⟩), .slice aB nB cB, .int .i64 ((nB : Nat) : Int), .bool false, .bool false, .tuple #[.pointer (some ⟨p0, 0, none⟩), .int .i64 0], .agg #[.int .i64 rL, .int .i64 rE, .int .i64 pL, .int .i64 pE, .int .i64 ((room : Nat) : Int), .int .i64 hv], .agg #[.slice aR nR cR, .slice aP nP cP, .slice aB nB cB], .tuple #[.pointer (some ⟨p0, 0, none⟩), .int .i64 0], .pointer (some ⟨p0, 0, none⟩), .int .i64 0, .agg #[.int .i64 rL, .int .i64 rE, .int .i64 pL, .int .i64 pE, .int .i64 ((room : Nat) : Int), .int .i64 hv], .bool true, .bool false, undef, undef, undef, undef, undef, undef, .pointer (some ⟨g2, 0, none⟩), .slice aR nR cR, .int .i64 ((nR : Nat) : Int), .bool true, .bool true, .pointer (some ⟨g2, 0, none⟩), .slice aR nR cR, .int .i64 ((nR : Nat) : Int), .bool true, .bool true, .bool true, .pointer (some ⟨g2, 1, none⟩), .slice aP nP cP, .int .i64 ((nP : Nat) : Int), .pointer (some ⟨g2, 2, none⟩), .slice aB nB cB, .int .i64 ((nB : Nat) : Int), .bool true, .bool true, .bool true, .pointer (some ⟨g2, 1, none⟩), .slice aP nP cP, .int .i64 ((nP : Nat) : Int), .pointer (some ⟨g1, 4, none⟩), .int .i64 ((room : Nat) : Int), .bool (decide (((nP : Nat) : Int) ≤ ((room : Nat) : Int))), .bool (decide (((nP : Nat) : Int) ≤ ((room : Nat) : Int))), undef, undef, undef, undef, undef, undef, undef, undef, undef, undef, undef, undef, undef, undef, undef, undef, undef, undef, undef, undef, undef, undef, undef, undef, undef, undef, undef, undef, undef, undef, undef, undef, undef, undef, undef, undef, undef, undef, undef, undef, undef, undef, undef, undef, undef, undef, undef, undef, undef, undef, undef, undef, undef, undef, undef, undef, undef, undef, undef, undef, undef, undef, undef, undef, undef, undef, undef, undef, undef, undef, undef, undef, undef, undef, undef, undef, undef, undef, undef, undef, undef, undef, undef, undef, undef, undef, undef, undef, undef, undef, undef, undef, undef, undef, undef, undef, undef, undef, undef, undef, undef, undef, undef, undef, undef, undef, undef, undef], defers := [] } (by kernel_rfl) ?_
              refine x_then ?_
              exact ⟨(decide (((nP : Nat) : Int) ≤ ((room : Nat) : Int))), (nthV [.pointer (some ⟨g2, 0, none⟩), .slice aR nR cR, .int .i64 ((nR : Nat) : Int), .bool true, .bool true, .pointer (some ⟨g2, 0, none⟩), .slice aR nR cR, .int .i64 ((nR : Nat) : Int), .bool true, .bool true, .bool true, .pointer (some ⟨g2, 1, none⟩), .slice aP nP cP, .int .i64 ((nP : Nat) : Int), .pointer (some ⟨g2, 2, none⟩), .slice aB nB cB, .int .i64 ((nB : Nat) : Int), .bool true, .bool true, .bool true, .pointer (some ⟨g2, 1, none⟩), .slice aP nP cP, .int .i64 ((nP : Nat) : Int), .pointer (some ⟨g1, 4, none⟩), .int .i64 ((room : Nat) : Int), .bool (decide (((nP : Nat) : Int) ≤ ((room : Nat) : Int))), .bool (decide (((nP : Nat) : Int) ≤ ((room : Nat) : Int)))]), (by kernel_rfl), H, (by simp only [Bool.false_eq_true, decide_eq_true_eq, false_iff]; omega)⟩
      · skip
        clear H
        rintro _ v35 ⟨fb, uf7, rfl, H, r1⟩
        refine x_then ?_
        refine x_seq ?_
        refine x_seq ?_
        refine x_region ?_
        refine x_val (.pointer (some ⟨g2, 0, none⟩)) (by kernel_rfl) rfl (by kernel_rfl) ?_
        refine x_load1 H 4 g2 0 _ _ (.slice aR nR cR) rfl (by kernel_rfl) (by kernel_rfl) rfl (by kernel_rfl) ?_
        refine x_val (.int .i64 ((nR : Nat) : Int)) (by kernel_rfl) rfl (by kernel_rfl) ?_
        refine x_val (.int .i64 0) (by kernel_rfl) rfl (by kernel_rfl) ?_
        refine x_nil ?_
        refine x_then ?_
        refine x_block ?_
        refine x_loop (G := Nat × Bool) (fun gh a w' => match gh with | (k1, fb) => ∃ uf8 : Nat → Value, a = { tmps := #[.agg #[.int .i64 rL, .int .i64 rE, .int .i64 pL, .int .i64 pE, .int .i64 ((room : Nat) : Int), .int .i64 hv], .int .i64 rk, .slice aO nO cO, .slice aM nM cM, .agg #[.slice aR nR cR, .slice aP nP cP, .slice aB nB cB], .pointer (some ⟨g1, 0, none⟩), undef, undef, undef, .pointer (some ⟨g2, 0, none⟩), .bool false, .pointer (some ⟨p0, 0, none⟩), .int .i64 0, .bool fb, undef, (uf8 0), undef, undef, undef, undef, undef, undef, undef, undef, undef, undef, .bool true, .bool false, .slice aO nO cO, .int .i64 ((nO : Nat) : Int), .bool false, .bool false, .slice aM nM cM, .int .i64 ((nM : Nat) : Int), .bool false, .bool false, .bool false, .pointer (some ⟨g2, 0, none⟩), .slice aR nR cR, .int .i64 ((nR : Nat) : Int), .bool false, .bool false, .bool false, .pointer (some ⟨g2, 1, none⟩), .slice aP nP cP, .int .i64 ((nP : Nat) : Int), .bool false, .bool false, .bool false, .pointer (some ⟨g2, 2, none⟩), .slice aB nB cB, .int .i64 ((nB : Nat) : Int), .bool false, .bool false, .tuple #[.pointer (some ⟨p0, 0, none⟩), .int .i64 0], .agg #[.int .i64 rL, .int .i64 rE, .int .i64 pL, .int .i64 pE, .int .i64 ((room : Nat) : Int), .int .i64 hv], .agg #[.slice aR nR cR, .slice aP nP cP, .slice aB nB cB], .tuple #[.pointer (some ⟨p0, 0, none⟩), .int .i64 0], .pointer (some ⟨p0, 0, none⟩), .int .i64 0, .agg #[.int .i64 rL, .int .i64 rE, .int .i64 pL, .int .i64 pE, .int .i64 ((room : Nat) : Int), .int .i64 hv], .bool true, .bool false, undef, undef, undef, undef, undef, undef, (uf7 0), (uf7 1), (uf7 2), (uf7 3), (uf7 4), (uf7 5), (uf7 6), (uf7 7), (uf7 8), (uf7 9), (uf7 10), (uf7 11), (uf7 12), (uf7 13), (uf7 14), (uf7 15), (uf7 16), (uf7 17), (uf7 18), (uf7 19), (uf7 20), (uf7 21), (uf7 22), (uf7 23), (uf7 24), (uf7 25), (uf7 26), .pointer (some ⟨g2, 0, none⟩), .slice aR nR cR, .int .i64 ((nR : Nat) : Int), .int .i64 ((k1 : Nat) : Int), (uf8 1), (uf8 2), (uf8 3), (uf8 4), (uf8 5), (uf8 6), (uf8 7), (uf8 8), (uf8 9), (uf8 10), (uf8 11), (uf8 12), undef, undef, undef, undef, undef, undef, undef, undef, undef, undef, undef, undef, undef, undef, undef, undef, undef, undef, undef, undef, undef, undef, undef, undef, undef, undef, undef, undef, undef, undef, undef, undef, undef, undef, undef, undef, undef, undef, undef, undef, undef, undef, undef, undef, undef, undef, undef, undef, undef, undef, undef, undef, undef, undef, undef, undef, undef, undef, undef, undef, undef, undef, undef, undef, undef, undef, undef, undef, undef, undef, undef, undef, undef, undef, undef, undef, undef, undef, undef, undef, undef, undef, undef, undef, undef, undef, undef, undef, undef, undef, undef, undef], defers := [] } ∧ Hs [] w0 w' [.blk p0 #[.int .i64 rL, .int .i64 rE, .int .i64 pL, .int .i64 pE, .int .i64 ((room : Nat) : Int), .int .i64 hv, .slice (some ⟨gr0, 0, none⟩) nR nR, .pointer (some ⟨t0, 0, none⟩)] 187, .row (.slice (some ⟨gr0, 0, none⟩) nR nR) 86 2 nR (List.flatMap bukL lR), .blk t0 #[sv0, .int .i64 ((room : Nat) : Int), .func (.func 103) #[] #[]] 228, .row (sv0) 230 3 (List.length (zipT lP lB nP)) (List.flatMap pairLB (zipT lP lB nP)), .blk g2 #[.slice aR nR cR, .slice aP nP cP, .slice aB nB cB] 147, .blk g1 #[.int .i64 rL, .int .i64 rE, .int .i64 pL, .int .i64 pE, .int .i64 ((room : Nat) : Int), .int .i64 hv] 80] ∧ (k1 ≤ nR) ∧ (fb = true ↔ ((1 ≤ nR ∧ nR ≤ 8) ∧ nP = nB ∧ nP ≤ room) ∧ AllB rE lR k1)) (fun gh => match gh with | (k1, fb) => nR - k1) (0, fb) ⟨(nthV [undef, undef, undef, undef, undef, undef, undef, undef, undef, undef, undef, undef, undef]), (by kernel_rfl), H, (Nat.zero_le _), (by rw [r1]; exact ⟨fun z => ⟨z, AllB.zero⟩, And.left⟩)⟩ ?_
        clear H
        rintro ⟨k1, fb⟩ _ v36 ⟨uf8, rfl, H, r1, r2⟩
        refine x_seq ?_
        refine x_region ?_
        refine x_val (.bool (decide (((k1 : Nat) : Int) < ((nR : Nat) : Int)))) (by kernel_rfl) rfl (by kernel_rfl) ?_
        refine x_nil ?_
        refine x_then ?_
        refine x_seq ?_
        cases h16 : decide (((k1 : Nat) : Int) < ((nR : Nat) : Int))
        · skip
          have h16p := of_decide_eq_false h16
          refine x_f (by kernel_rfl) ?_
          refine x_exit ?_
          refine x_then_exit ?_
          refine x_then_exit ?_
          refine x_blk_exit ?_
          refine x_then ?_
          refine x_seq ?_
          refine x_seq ?_
          refine x_region ?_
          refine x_val (.pointer (some ⟨g2, 2, none⟩)) (by kernel_rfl) rfl (by kernel_rfl) ?_
          refine x_load1 H 4 g2 2 _ _ (.slice aB nB cB) rfl (by kernel_rfl) (by kernel_rfl) rfl (by kernel_rfl) ?_
          refine x_val (.int .i64 ((nB : Nat) : Int)) (by kernel_rfl) rfl (by kernel_rfl) ?_
          refine x_val (.int .i64 0) (by kernel_rfl) rfl (by kernel_rfl) ?_
          refine x_nil ?_
          refine x_then ?_
          refine x_block ?_
          have hk1 : k1 = nR := by omega
          rw [hk1] at r2
          refine x_loop (G := Nat × Bool) (fun gh a w' => match gh with | (k2, fb) => ∃ uf9 : Nat → Value, a = { tmps := #[.agg #[.int .i64 rL, .int .i64 rE, .int .i64 pL, .int .i64 pE, .int .i64 ((room : Nat) : Int), .int .i64 hv], .int .i64 rk, .slice aO nO cO, .slice aM nM cM, .agg #[.slice aR nR cR, .slice aP nP cP, .slice aB nB cB], .pointer (some ⟨g1, 0, none⟩), undef, undef, undef, .pointer (some ⟨g2, 0, none⟩), .bool false, .pointer (some ⟨p0, 0, none⟩), .int .i64 0, .bool fb, undef, (uf8 0), undef, (uf9 0), undef, undef, undef, undef, undef, undef, undef, undef, .bool true, .bool false, .slice aO nO cO, .int .i64 ((nO : Nat) : Int), .bool false, .bool false, .slice aM nM cM, .int .i64 ((nM : Nat) : Int), .bool false, .bool false, .bool false, .pointer (some ⟨g2, 0, none⟩), .slice aR nR cR, .int .i64 ((nR : Nat) : Int), .bool false, .bool false, .bool false, .pointer (some ⟨g2, 1, none⟩), .slice aP nP cP, .int .i64 ((nP : Nat) : Int), .bool false, .bool false, .bool false, .pointer (some ⟨g2, 2, none⟩), .slice aB nB cB, .int .i64 ((nB : Nat) : Int), .bool false, .bool false, .tuple #[.pointer (some ⟨p0, 0, none⟩), .int .i64 0], .agg #[.int .i64 rL, .int .i64 rE, .int .i64 pL, .int .i64 pE, .int .i64 ((room : Nat) : Int), .int .i64 hv], .agg #[.slice aR nR cR, .slice aP nP cP, .slice aB nB cB], .tuple #[.pointer (some ⟨p0, 0, none⟩), .int .i64 0], .pointer (some ⟨p0, 0, none⟩), .int .i64 0, .agg #[.int .i64 rL, .int .i64 rE, .int .i64 pL, .int .i64 pE, .int .i64 ((room : Nat) : Int), .int .i64 hv], .bool true, .bool false, undef, undef, undef, undef, undef, undef, (uf7 0), (uf7 1), (uf7 2), (uf7 3), (uf7 4), (uf7 5), (uf7 6), (uf7 7), (uf7 8), (uf7 9), (uf7 10), (uf7 11), (uf7 12), (uf7 13), (uf7 14), (uf7 15), (uf7 16), (uf7 17), (uf7 18), (uf7 19), (uf7 20), (uf7 21), (uf7 22), (uf7 23), (uf7 24), (uf7 25), (uf7 26), .pointer (some ⟨g2, 0, none⟩), .slice aR nR cR, .int .i64 ((nR : Nat) : Int), .int .i64 ((k1 : Nat) : Int), .bool false, (uf8 2), (uf8 3), (uf8 4), (uf8 5), (uf8 6), (uf8 7), (uf8 8), (uf8 9), (uf8 10), (uf8 11), (uf8 12), .pointer (some ⟨g2, 2, none⟩), .slice aB nB cB, .int .i64 ((nB : Nat) : Int), .int .i64 ((k2 : Nat) : Int), (uf9 1), (uf9 2), (uf9 3), (uf9 4), (uf9 5), (uf9 6), (uf9 7), (uf9 8), (uf9 9), (uf9 10), (uf9 11), (uf9 12), undef, undef, undef, undef, undef, undef, undef, undef, undef, undef, undef, undef, undef, undef, undef, undef, undef, undef, undef, undef, undef, undef, undef, undef, undef, undef, undef, undef, undef, undef, undef, undef, undef, undef, undef, undef, undef, undef, undef, undef, undef, undef, undef, undef, undef, undef, undef, undef, undef, undef, undef, undef, undef, undef, undef, undef, undef, undef, undef, undef, undef, undef, undef, undef, undef, undef, undef, undef, undef, undef, undef, undef, undef, undef, undef, undef], defers := [] } ∧ Hs [] w0 w' [.blk p0 #[.int .i64 rL, .int .i64 rE, .int .i64 pL, .int .i64 pE, .int .i64 ((room : Nat) : Int), .int .i64 hv, .slice (some ⟨gr0, 0, none⟩) nR nR, .pointer (some ⟨t0, 0, none⟩)] 187, .row (.slice (some ⟨gr0, 0, none⟩) nR nR) 86 2 nR (List.flatMap bukL lR), .blk t0 #[sv0, .int .i64 ((room : Nat) : Int), .func (.func 103) #[] #[]] 228, .row (sv0) 230 3 (List.length (zipT lP lB nP)) (List.flatMap pairLB (zipT lP lB nP)), .blk g2 #[.slice aR nR cR, .slice aP nP cP, .slice aB nB cB] 147, .blk g1 #[.int .i64 rL, .int .i64 rE, .int .i64 pL, .int .i64 pE, .int .i64 ((room : Nat) : Int), .int .i64 hv] 80] ∧ (k2 ≤ nB) ∧ (fb = true ↔ (((1 ≤ nR ∧ nR ≤ 8) ∧ nP = nB ∧ nP ≤ room) ∧ AllB rE lR nR) ∧ AllB pE lB k2)) (fun gh => match gh with | (k2, fb) => nB - k2) (0, fb) ⟨(nthV [undef, undef, undef, undef, undef, undef, undef, undef, undef, undef, undef, undef, undef]), (by kernel_rfl), H, (Nat.zero_le _), (by rw [r2]; exact ⟨fun z => ⟨z, AllB.zero⟩, And.left⟩)⟩ ?_
          clear H
          rintro ⟨k2, fb⟩ _ v37 ⟨uf9, rfl, H, r1, r2⟩
          refine x_seq ?_
          refine x_region ?_
          refine x_val (.bool (decide (((k2 : Nat) : Int) < ((nB : Nat) : Int)))) (by kernel_rfl) rfl (by kernel_rfl) ?_
          refine x_nil ?_
          refine x_then ?_
          refine x_seq ?_
          cases h17 : decide (((k2 : Nat) : Int) < ((nB : Nat) : Int))
          · skip
            have h17p := of_decide_eq_false h17
            refine x_f (by kernel_rfl) ?_
            refine x_exit ?_
            refine x_then_exit ?_
            refine x_then_exit ?_
            refine x_blk_exit ?_
            refine x_then ?_
            refine x_seq ?_
            refine x_seq ?_
            refine x_region ?_
            refine x_val (.pointer (some ⟨g2, 1, none⟩)) (by kernel_rfl) rfl (by kernel_rfl) ?_
            refine x_load1 H 4 g2 1 _ _ (.slice aP nP cP) rfl (by kernel_rfl) (by kernel_rfl) rfl (by kernel_rfl) ?_
            refine x_val (.int .i64 ((nP : Nat) : Int)) (by kernel_rfl) rfl (by kernel_rfl) ?_
            refine x_val (.int .i64 0) (by kernel_rfl) rfl (by kernel_rfl) ?_
            refine x_nil ?_
            refine x_then ?_
            refine x_block ?_
            have hk2 : k2 = nB := by omega
            rw [hk2] at r2
            refine x_loop (G := Nat × Bool) (fun gh a w' => match gh with | (k3, fb) => ∃ uf10 : Nat → Value, a = { tmps := #[.agg #[.int .i64 rL, .int .i64 rE, .int .i64 pL, .int .i64 pE, .int .i64 ((room : Nat) : Int), .int .i64 hv], .int .i64 rk, .slice aO nO cO, .slice aM nM cM, .agg #[.slice aR nR cR, .slice aP nP cP, .slice aB nB cB], .pointer (some ⟨g1, 0, none⟩), undef, undef, undef, .pointer (some ⟨g2, 0, none⟩), .bool false, .pointer (some ⟨p0, 0, none⟩), .int .i64 0, .bool fb, undef, (uf8 0), undef, (uf9 0), (uf10 0), (uf10 1), undef, (uf10 2), undef, undef, undef, undef, .bool true, .bool false, .slice aO nO cO, .int .i64 ((nO : Nat) : Int), .bool false, .bool false, .slice aM nM cM, .int .i64 ((nM : Nat) : Int), .bool false, .bool false, .bool false, .pointer (some ⟨g2, 0, none⟩), .slice aR nR cR, .int .i64 ((nR : Nat) : Int), .bool false, .bool false, .bool false, .pointer (some ⟨g2, 1, none⟩), .slice aP nP cP, .int .i64 ((nP : Nat) : Int), .bool false, .bool false, .bool false, .pointer (some ⟨g2, 2, none⟩), .slice aB nB cB, .int .i64 ((nB : Nat) : Int), .bool false, .bool false, .tuple #[.pointer (some ⟨p0, 0, none⟩), .int .i64 0], .agg #[.int .i64 rL, .int .i64 rE, .int .i64 pL, .int .i64 pE, .int .i64 ((room : Nat) : Int), .int .i64 hv], .agg #[.slice aR nR cR, .slice aP nP cP, .slice aB nB cB], .tuple #[.pointer (some ⟨p0, 0, none⟩), .int .i64 0], .pointer (some ⟨p0, 0, none⟩), .int .i64 0, .agg #[.int .i64 rL, .int .i64 rE, .int .i64 pL, .int .i64 pE, .int .i64 ((room : Nat) : Int), .int .i64 hv], .bool true, .bool false, undef, undef, undef, undef, undef, undef, (uf7 0), (uf7 1), (uf7 2), (uf7 3), (uf7 4), (uf7 5), (uf7 6), (uf7 7), (uf7 8), (uf7 9), (uf7 10), (uf7 11), (uf7 12), (uf7 13), (uf7 14), (uf7 15), (uf7 16), (uf7 17), (uf7 18), (uf7 19), (uf7 20), (uf7 21), (uf7 22), (uf7 23), (uf7 24), (uf7 25), (uf7 26), .pointer (some ⟨g2, 0, none⟩), .slice aR nR cR, .int .i64 ((nR : Nat) : Int), .int .i64 ((k1 : Nat) : Int), .bool false, (uf8 2), (uf8 3), (uf8 4), (uf8 5), (uf8 6), (uf8 7), (uf8 8), (uf8 9), (uf8 10), (uf8 11), (uf8 12), .pointer (some ⟨g2, 2, none⟩), .slice aB nB cB, .int .i64 ((nB : Nat) : Int), .int .i64 ((k2 : Nat) : Int), .bool false, (uf9 2), (uf9 3), (uf9 4), (uf9 5), (uf9 6), (uf9 7), (uf9 8), (uf9 9), (uf9 10), (uf9 11), (uf9 12), .pointer (some ⟨g2, 1, none⟩), .slice aP nP cP, .int .i64 ((nP : Nat) : Int), .int .i64 ((k3 : Nat) : Int), (uf10 3), (uf10 4), (uf10 5), (uf10 6), (uf10 7), (uf10 8), (uf10 9), (uf10 10), (uf10 11), (uf10 12), (uf10 13), (uf10 14), (uf10 15), (uf10 16), (uf10 17), (uf10 18), (uf10 19), (uf10 20), (uf10 21), (uf10 22), (uf10 23), undef, undef, undef, undef, undef, undef, undef, undef, undef, undef, undef, undef, undef, undef, undef, undef, undef, undef, undef, undef, undef, undef, undef, undef, undef, undef, undef, undef, undef, undef, undef, undef, undef, undef, undef, undef, undef, undef, undef, undef, undef, undef, undef, undef, undef, undef, undef, undef, undef, undef, undef], defers := [] } ∧ Hs [] w0 w' [.blk p0 #[.int .i64 rL, .int .i64 rE, .int .i64 pL, .int .i64 pE, .int .i64 ((room : Nat) : Int), .int .i64 hv, .slice (some ⟨gr0, 0, none⟩) nR nR, .pointer (some ⟨t0, 0, none⟩)] 187, .row (.slice (some ⟨gr0, 0, none⟩) nR nR) 86 2 nR (List.flatMap bukL lR), .blk t0 #[sv0, .int .i64 ((room : Nat) : Int), .func (.func 103) #[] #[]] 228, .row (sv0) 230 3 (List.length (zipT lP lB nP)) (List.flatMap pairLB (zipT lP lB nP)), .blk g2 #[.slice aR nR cR, .slice aP nP cP, .slice aB nB cB] 147, .blk g1 #[.int .i64 rL, .int .i64 rE, .int .i64 pL, .int .i64 pE, .int .i64 ((room : Nat) : Int), .int .i64 hv] 80] ∧ (k3 ≤ nP) ∧ (fb = true ↔ ((((1 ≤ nR ∧ nR ≤ 8) ∧ nP = nB ∧ nP ≤ room) ∧ AllB rE lR nR) ∧ AllB pE lB nB) ∧ Dif lP k3)) (fun gh => match gh with | (k3, fb) => nP - k3) (0, fb) ⟨(nthV [undef, undef, undef, undef, undef, undef, undef, undef, undef, undef, undef, undef, undef, undef, undef, undef, undef, undef, undef, undef, undef, undef, undef, undef]), (by kernel_rfl), H, (Nat.zero_le _), (by rw [r2]; exact ⟨fun z => ⟨z, Dif.zero⟩, And.left⟩)⟩ ?_
            clear H
            rintro ⟨k3, fb⟩ _ v38 ⟨uf10, rfl, H, r1, r2⟩
            refine x_seq ?_
            refine x_region ?_
            refine x_val (.bool (decide (((k3 : Nat) : Int) < ((nP : Nat) : Int)))) (by kernel_rfl) rfl (by kernel_rfl) ?_
            refine x_nil ?_
            refine x_then ?_
            refine x_seq ?_
            cases h18 : decide (((k3 : Nat) : Int) < ((nP : Nat) : Int))
            · skip
              have h18p := of_decide_eq_false h18
              refine x_f (by kernel_rfl) ?_
              refine x_exit ?_
              refine x_then_exit ?_
              refine x_then_exit ?_
              refine x_blk_exit ?_
              refine x_then ?_
              refine x_seq ?_
              refine x_seq ?_
              refine x_region ?_
              have hk3 : k3 = nP := by omega
              rw [hk3] at r2
              have hfe : fb = true ↔ FitT room rE pE lR lP lB nR nP nB := by rw [r2]; exact ⟨fun ⟨⟨⟨⟨a1, a2, a3⟩, b1⟩, b2⟩, b3⟩ => ⟨a1, a2, a3, b1, b2, b3⟩, fun z => ⟨⟨⟨⟨z.r, z.n, z.m⟩, z.a⟩, z.b⟩, z.u⟩⟩
              obtain rfl : fb = true := hfe.2 hf
              skip
              refine x_val (.bool true) (by kernel_rfl) rfl (by kernel_rfl) ?_
              refine x_val (.int .i64 0) (by kernel_rfl) rfl (by kernel_rfl) ?_
              refine x_val (.bool true) (by kernel_rfl) rfl (by kernel_rfl) ?_
              refine x_val (.bool false) (by kernel_rfl) rfl (by kernel_rfl) ?_
              refine x_val (.bool false) (by kernel_rfl) rfl (by kernel_rfl) ?_
              refine x_val (.bool true) (by kernel_rfl) rfl (by kernel_rfl) ?_
              refine x_val (.bool false) (by kernel_rfl) rfl (by kernel_rfl) ?_
              refine x_val (.bool false) (by kernel_rfl) rfl (by kernel_rfl) ?_
              refine x_skip (by kernel_rfl) ?_
              refine x_skip (by kernel_rfl) ?_
              refine x_skip (by kernel_rfl) ?_
              refine x_skip (by kernel_rfl) ?_
              refine x_skip (by kernel_rfl) ?_
              refine x_skip (by kernel_rfl) ?_
              refine x_val (.bool false) (by kernel_rfl) rfl (by kernel_rfl) ?_
              refine x_val (.bool false) (by kernel_rfl) rfl (by kernel_rfl) ?_
              refine x_nil ?_
              refine x_then ?_
              refine x_f (by kernel_rfl) ?_
              refine x_skipc ?_
              refine x_then ?_
              replace H := H.pick [5, 4] [.blk g1 #[.int .i64 rL, .int .i64 rE, .int .i64 pL, .int .i64 pE, .int .i64 ((room : Nat) : Int), .int .i64 hv] 80, .blk g2 #[.slice aR nR cR, .slice aP nP cP, .slice aB nB cB] 147] (by decide) (by kernel_rfl)
              exact hSp1 _ _ ⟨(nthV [.bool false, .pointer (some ⟨p0, 0, none⟩), .int .i64 0, .bool true, (uf8 0), (uf9 0), (uf10 0), (uf10 1), (uf10 2), .tuple #[.pointer (some ⟨p0, 0, none⟩), .int .i64 0], .agg #[.int .i64 rL, .int .i64 rE, .int .i64 pL, .int .i64 pE, .int .i64 ((room : Nat) : Int), .int .i64 hv], .agg #[.slice aR nR cR, .slice aP nP cP, .slice aB nB cB], .tuple #[.pointer (some ⟨p0, 0, none⟩), .int .i64 0], .pointer (some ⟨p0, 0, none⟩), .int .i64 0, .agg #[.int .i64 rL, .int .i64 rE, .int .i64 pL, .int .i64 pE, .int .i64 ((room : Nat) : Int), .int .i64 hv], .bool true, .bool false, undef, undef, undef, undef, undef, undef, (uf7 0), (uf7 1), (uf7 2), (uf7 3), (uf7 4), (uf7 5), (uf7 6), (uf7 7), (uf7 8), (uf7 9), (uf7 10), (uf7 11), (uf7 12), (uf7 13), (uf7 14), (uf7 15), (uf7 16), (uf7 17), (uf7 18), (uf7 19), (uf7 20), (uf7 21), (uf7 22), (uf7 23), (uf7 24), (uf7 25), (uf7 26), .pointer (some ⟨g2, 0, none⟩), .slice aR nR cR, .int .i64 ((nR : Nat) : Int), .int .i64 ((k1 : Nat) : Int), .bool false, (uf8 2), (uf8 3), (uf8 4), (uf8 5), (uf8 6), (uf8 7), (uf8 8), (uf8 9), (uf8 10), (uf8 11), (uf8 12), .pointer (some ⟨g2, 2, none⟩), .slice aB nB cB, .int .i64 ((nB : Nat) : Int), .int .i64 ((k2 : Nat) : Int), .bool false, (uf9 2), (uf9 3), (uf9 4), (uf9 5), (uf9 6), (uf9 7), (uf9 8), (uf9 9), (uf9 10), (uf9 11), (uf9 12), .pointer (some ⟨g2, 1, none⟩), .slice aP nP cP, .int .i64 ((nP : Nat) : Int), .int .i64 ((k3 : Nat) : Int), .bool false, (uf10 4), (uf10 5), (uf10 6), (uf10 7), (uf10 8), (uf10 9), (uf10 10), (uf10 11), (uf10 12), (uf10 13), (uf10 14), (uf10 15), (uf10 16), (uf10 17), (uf10 18), (uf10 19), (uf10 20), (uf10 21), (uf10 22), (uf10 23), .bool true, .int .i64 0, .bool true, .bool false, .bool false, .bool true, .bool false, .bool false, undef, undef, undef, undef, undef, undef, .bool false, .bool false]), (by kernel_rfl), H⟩
            · skip
              have h18p := of_decide_eq_true h18
              refine x_t (by kernel_rfl) ?_
              refine x_skipc ?_
              refine x_then ?_
              refine x_seq ?_
              refine x_block ?_
              refine x_seq ?_
              refine x_region ?_
              refine x_val (.int .i64 ((k3 : Nat) : Int)) (by kernel_rfl) rfl (by kernel_rfl) ?_
              obtain ⟨gP, oP, hadP, hcPp⟩ := hAP (by omega)
              refine x_ixO (t := 106) hadP k3 nP cP 3 1 (oP + k3) (by omega) (by omega) (by kernel_rfl) (by kernel_rfl) (by kernel_rfl) rfl (by kernel_rfl) ?_
              refine x_loadc gP (oP + k3) (.int .i64 (lP.getD k3 0)) ((by simpa using hcPp _ H.below k3 (by omega) 0 _ rfl)) (by kernel_rfl) rfl (by kernel_rfl) ?_
              refine x_val (.int .i64 ((k3 : Nat) : Int)) (by kernel_rfl) rfl (by kernel_rfl) ?_
              refine x_val (.int .i64 (lP.getD k3 0)) (by kernel_rfl) rfl (by kernel_rfl) ?_
              refine x_nil ?_
              refine x_then ?_
              refine x_seq ?_
              refine x_region ?_
              refine x_val (.pointer (some ⟨g2, 1, none⟩)) (by kernel_rfl) rfl (by kernel_rfl) ?_
              refine x_load1 H 4 g2 1 _ _ (.slice aP nP cP) rfl (by kernel_rfl) (by kernel_rfl) rfl (by kernel_rfl) ?_
              refine x_val (.int .i64 ((k3 : Nat) : Int)) (by kernel_rfl) rfl (by kernel_rfl) ?_
              refine x_val (.slice aP k3 cP) (by kernel_rfl) rfl (Eq.trans (by kernel_rfl) (slcHo (P := Try.prog) (t := 106) (n := nP) (c := cP) (h := k3) (sz := 1) hadP (by kernel_rfl) (by kernel_rfl) (by omega))) ?_
              refine x_val (.int .i64 ((k3 : Nat) : Int)) (by kernel_rfl) rfl (by kernel_rfl) ?_
              refine x_val (.int .i64 0) (by kernel_rfl) rfl (by kernel_rfl) ?_
              refine x_nil ?_
              refine x_then ?_
              refine x_block ?_
              refine x_loop (G := Nat × Bool) (fun gh a w' => match gh with | (k4, fb) => ∃ uf11 : Nat → Value, a = { tmps := #[.agg #[.int .i64 rL, .int .i64 rE, .int .i64 pL, .int .i64 pE, .int .i64 ((room : Nat) : Int), .int .i64 hv], .int .i64 rk, .slice aO nO cO, .slice aM nM cM, .agg #[.slice aR nR cR, .slice aP nP cP, .slice aB nB cB], .pointer (some ⟨g1, 0, none⟩), undef, undef, undef, .pointer (some ⟨g2, 0, none⟩), .bool false, .pointer (some ⟨p0, 0, none⟩), .int .i64 0, .bool fb, undef, (uf8 0), undef, (uf9 0), .int .i64 ((k3 : Nat) : Int), .int .i64 (lP.getD k3 0), undef, (uf11 0), undef, undef, undef, undef, .bool true, .bool false, .slice aO nO cO, .int .i64 ((nO : Nat) : Int), .bool false, .bool false, .slice aM nM cM, .int .i64 ((nM : Nat) : Int), .bool false, .bool false, .bool false, .pointer (some ⟨g2, 0, none⟩), .slice aR nR cR, .int .i64 ((nR : Nat) : Int), .bool false, .bool false, .bool false, .pointer (some ⟨g2, 1, none⟩), .slice aP nP cP, .int .i64 ((nP : Nat) : Int), .bool false, .bool false, .bool false, .pointer (some ⟨g2, 2, none⟩), .slice aB nB cB, .int .i64 ((nB : Nat) : Int), .bool false, .bool false, .tuple #[.pointer (some ⟨p0, 0, none⟩), .int .i64 0], .agg #[.int .i64 rL, .int .i64 rE, .int .i64 pL, .int .i64 pE, .int .i64 ((room : Nat) : Int), .int .i64 hv], .agg #[.slice aR nR cR, .slice aP nP cP, .slice aB nB cB], .tuple #[.pointer (some ⟨p0, 0, none⟩), .int .i64 0], .pointer (some ⟨p0, 0, none⟩), .int .i64 0, .agg #[.int .i64 rL, .int .i64 rE, .int .i64 pL, .int .i64 pE, .int .i64 ((room : Nat) : Int), .int .i64 hv], .bool true, .bool false, undef, undef, undef, undef, undef, undef, (uf7 0), (uf7 1), (uf7 2), (uf7 3), (uf7 4), (uf7 5), (uf7 6), (uf7 7), (uf7 8), (uf7 9), (uf7 10), (uf7 11), (uf7 12), (uf7 13), (uf7 14), (uf7 15), (uf7 16), (uf7 17), (uf7 18), (uf7 19), (uf7 20), (uf7 21), (uf7 22), (uf7 23), (uf7 24), (uf7 25), (uf7 26), .pointer (some ⟨g2, 0, none⟩), .slice aR nR cR, .int .i64 ((nR : Nat) : Int), .int .i64 ((k1 : Nat) : Int), .bool false, (uf8 2), (uf8 3), (uf8 4), (uf8 5), (uf8 6), (uf8 7), (uf8 8), (uf8 9), (uf8 10), (uf8 11), (uf8 12), .pointer (some ⟨g2, 2, none⟩), .slice aB nB cB, .int .i64 ((nB : Nat) : Int), .int .i64 ((k2 : Nat) : Int), .bool false, (uf9 2), (uf9 3), (uf9 4), (uf9 5), (uf9 6), (uf9 7), (uf9 8), (uf9 9), (uf9 10), (uf9 11), (uf9 12), .pointer (some ⟨g2, 1, none⟩), .slice aP nP cP, .int .i64 ((nP : Nat) : Int), .int .i64 ((k3 : Nat) : Int), .bool true, .int .i64 ((k3 : Nat) : Int), .pointer (some ⟨gP, oP + k3, none⟩), .int .i64 (lP.getD k3 0), .pointer (some ⟨g2, 1, none⟩), .slice aP nP cP, .int .i64 ((k3 : Nat) : Int), .slice aP k3 cP, .int .i64 ((k3 : Nat) : Int), .int .i64 ((k4 : Nat) : Int), (uf11 1), (uf11 2), (uf11 3), (uf11 4), (uf11 5), (uf11 6), (uf11 7), (uf11 8), (uf11 9), (uf11 10), (uf10 23), undef, undef, undef, undef, undef, undef, undef, undef, undef, undef, undef, undef, undef, undef, undef, undef, undef, undef, undef, undef, undef, undef, undef, undef, undef, undef, undef, undef, undef, undef, undef, undef, undef, undef, undef, undef, undef, undef, undef, undef, undef, undef, undef, undef, undef, undef, undef, undef, undef, undef, undef], defers := [] } ∧ Hs [] w0 w' [.blk p0 #[.int .i64 rL, .int .i64 rE, .int .i64 pL, .int .i64 pE, .int .i64 ((room : Nat) : Int), .int .i64 hv, .slice (some ⟨gr0, 0, none⟩) nR nR, .pointer (some ⟨t0, 0, none⟩)] 187, .row (.slice (some ⟨gr0, 0, none⟩) nR nR) 86 2 nR (List.flatMap bukL lR), .blk t0 #[sv0, .int .i64 ((room : Nat) : Int), .func (.func 103) #[] #[]] 228, .row (sv0) 230 3 (List.length (zipT lP lB nP)) (List.flatMap pairLB (zipT lP lB nP)), .blk g2 #[.slice aR nR cR, .slice aP nP cP, .slice aB nB cB] 147, .blk g1 #[.int .i64 rL, .int .i64 rE, .int .i64 pL, .int .i64 pE, .int .i64 ((room : Nat) : Int), .int .i64 hv] 80] ∧ (k4 ≤ k3) ∧ (fb = true ↔ (((((1 ≤ nR ∧ nR ≤ 8) ∧ nP = nB ∧ nP ≤ room) ∧ AllB rE lR nR) ∧ AllB pE lB nB) ∧ Dif lP k3) ∧ Dif1 lP k3 k4)) (fun gh => match gh with | (k4, fb) => k3 - k4) (0, fb) ⟨(nthV [(uf10 2), (uf10 13), (uf10 14), (uf10 15), (uf10 16), (uf10 17), (uf10 18), (uf10 19), (uf10 20), (uf10 21), (uf10 22)]), (by kernel_rfl), H, (Nat.zero_le _), (by rw [r2]; exact ⟨fun z => ⟨z, Dif1.zero⟩, And.left⟩)⟩ ?_
              clear H
              rintro ⟨k4, fb⟩ _ v39 ⟨uf11, rfl, H, r1, r2⟩
              refine x_seq ?_
              refine x_region ?_
              refine x_val (.bool (decide (((k4 : Nat) : Int) < ((k3 : Nat) : Int)))) (by kernel_rfl) rfl (by kernel_rfl) ?_
              refine x_nil ?_
              refine x_then ?_
              refine x_seq ?_
              cases h19 : decide (((k4 : Nat) : Int) < ((k3 : Nat) : Int))
              · skip
                have h19p := of_decide_eq_false h19
                refine x_f (by kernel_rfl) ?_
                refine x_exit ?_
                refine x_then_exit ?_
                refine x_then_exit ?_
                refine x_blk_exit ?_
                refine x_blk ?_
                refine x_then ?_
                refine x_region ?_
                refine x_ar (((k3 : Nat) : Int) + 1) ⟨by omega, by omega⟩ (by kernel_rfl) rfl (by kernel_rfl) ?_
                refine x_val (.int .i64 (((k3 : Nat) : Int) + 1)) (by kernel_rfl) rfl (by kernel_rfl) ?_
                refine x_nil ?_
                refine x_then ?_
                replace H := H.pick [0, 1, 2, 3, 4, 5] [.blk p0 #[.int .i64 rL, .int .i64 rE, .int .i64 pL, .int .i64 pE, .int .i64 ((room : Nat) : Int), .int .i64 hv, .slice (some ⟨gr0, 0, none⟩) nR nR, .pointer (some ⟨t0, 0, none⟩)] 187, .row (.slice (some ⟨gr0, 0, none⟩) nR nR) 86 2 nR (List.flatMap bukL lR), .blk t0 #[sv0, .int .i64 ((room : Nat) : Int), .func (.func 103) #[] #[]] 228, .row (sv0) 230 3 (List.length (zipT lP lB nP)) (List.flatMap pairLB (zipT lP lB nP)), .blk g2 #[.slice aR nR cR, .slice aP nP cP, .slice aB nB cB] 147, .blk g1 #[.int .i64 rL, .int .i64 rE, .int .i64 pL, .int .i64 pE, .int .i64 ((room : Nat) : Int), .int .i64 hv] 80] (by decide) (by kernel_rfl)
                have hkq : k4 = k3 := by omega
                rw [hkq] at r2
                exact ⟨(k3 + 1, fb), (by dsimp only; omega), (nthV [.int .i64 ((k3 : Nat) : Int), .int .i64 (lP.getD k3 0), (uf11 0), .bool true, .int .i64 ((k3 : Nat) : Int), .pointer (some ⟨gP, oP + k3, none⟩), .int .i64 (lP.getD k3 0), .pointer (some ⟨g2, 1, none⟩), .slice aP nP cP, .int .i64 ((k3 : Nat) : Int), .slice aP k3 cP, .int .i64 ((k3 : Nat) : Int), .int .i64 ((k4 : Nat) : Int), .bool false, (uf11 2), (uf11 3), (uf11 4), (uf11 5), (uf11 6), (uf11 7), (uf11 8), (uf11 9), (uf11 10), .int .i64 (((k3 : Nat) : Int) + 1)]), (by kernel_rfl), H, (by omega), (by rw [r2, Dif.next, and_assoc])⟩
              · skip
                have h19p := of_decide_eq_true h19
                refine x_t (by kernel_rfl) ?_
                refine x_skipc ?_
                refine x_then ?_
                refine x_seq ?_
                refine x_block ?_
                refine x_seq ?_
                refine x_region ?_
                refine x_ixO (t := 106) hadP k4 k3 cP 3 1 (oP + k4) (by omega) (by omega) (by kernel_rfl) (by kernel_rfl) (by kernel_rfl) rfl (by kernel_rfl) ?_
                refine x_loadc gP (oP + k4) (.int .i64 (lP.getD k4 0)) ((by simpa using hcPp _ H.below k4 (by omega) 0 _ rfl)) (by kernel_rfl) rfl (by kernel_rfl) ?_
                refine x_val (.int .i64 (lP.getD k4 0)) (by kernel_rfl) rfl (by kernel_rfl) ?_
                refine x_nil ?_
                refine x_then ?_
                refine x_region ?_
                refine x_val (.bool fb) (by kernel_rfl) rfl (by kernel_rfl) ?_
                refine x_val (.bool fb) (by kernel_rfl) rfl (by kernel_rfl) ?_
                cases h20 : fb
                · skip
                  refine x_skip (by kernel_rfl) ?_
                  refine x_skip (by kernel_rfl) ?_
                  refine x_skip (by kernel_rfl) ?_
                  refine x_val (.bool false) (by kernel_rfl) rfl (by kernel_rfl) ?_
                  refine x_val (.bool false) (by kernel_rfl) rfl (by kernel_rfl) ?_
                  refine x_nil ?_
                  refine x_blk ?_
                  refine x_then ?_
                  refine x_region ?_
                  refine x_ar (((k4 : Nat) : Int) + 1) ⟨by omega, by omega⟩ (by kernel_rfl) rfl (by kernel_rfl) ?_
                  refine x_val (.int .i64 (((k4 : Nat) : Int) + 1)) (by kernel_rfl) rfl (by kernel_rfl) ?_
                  refine x_nil ?_
                  refine x_then ?_
                  replace H := H.pick [0, 1, 2, 3, 4, 5] [.blk p0 #[.int .i64 rL, .int .i64 rE, .int .i64 pL, .int .i64 pE, .int .i64 ((room : Nat) : Int), .int .i64 hv, .slice (some ⟨gr0, 0, none⟩) nR nR, .pointer (some ⟨t0, 0, none⟩)] 187, .row (.slice (some ⟨gr0, 0, none⟩) nR nR) 86 2 nR (List.flatMap bukL lR), .blk t0 #[sv0, .int .i64 ((room : Nat) : Int), .func (.func 103) #[] #[]] 228, .row (sv0) 230 3 (List.length (zipT lP lB nP)) (List.flatMap pairLB (zipT lP lB nP)), .blk g2 #[.slice aR nR cR, .slice aP nP cP, .slice aB nB cB] 147, .blk g1 #[.int .i64 rL, .int .i64 rE, .int .i64 pL, .int .i64 pE, .int .i64 ((room : Nat) : Int), .int .i64 hv] 80] (by decide) (by kernel_rfl)
                  exact ⟨(k4 + 1, false), (by dsimp only; omega), (nthV [.int .i64 (lP.getD k4 0), .bool true, .pointer (some ⟨gP, oP + k4, none⟩), .int .i64 (lP.getD k4 0), .bool false, .bool false, undef, undef, undef, .bool false, .int .i64 (((k4 : Nat) : Int) + 1)]), (by kernel_rfl), H, (by omega), (iff_step r2 Dif1.next (by rw [h20]; first | (simp; done) | (simp only [Bool.not_eq_true', decide_eq_false_iff_not, true_and, ne_eq]; exact ⟨fun z e => z e.symm, fun z e => z e.symm⟩)))⟩
                · skip
                  refine x_val (.int .i64 (lP.getD k3 0)) (by kernel_rfl) rfl (by kernel_rfl) ?_
                  refine x_val (.int .i64 (lP.getD k4 0)) (by kernel_rfl) rfl (by kernel_rfl) ?_
                  refine x_val (.bool (!(decide ((lP.getD k3 0) = (lP.getD k4 0))))) (by kernel_rfl) rfl (by kernel_rfl) ?_
                  refine x_val (.bool (!(decide ((lP.getD k3 0) = (lP.getD k4 0))))) (by kernel_rfl) rfl (by kernel_rfl) ?_
                  refine x_val (.bool (!(decide ((lP.getD k3 0) = (lP.getD k4 0))))) (by kernel_rfl) rfl (by kernel_rfl) ?_
                  refine x_nil ?_
                  refine x_blk ?_
                  refine x_then ?_
                  refine x_region ?_
                  refine x_ar (((k4 : Nat) : Int) + 1) ⟨by omega, by omega⟩ (by kernel_rfl) rfl (by kernel_rfl) ?_
                  refine x_val (.int .i64 (((k4 : Nat) : Int) + 1)) (by kernel_rfl) rfl (by kernel_rfl) ?_
                  refine x_nil ?_
                  refine x_then ?_
                  replace H := H.pick [0, 1, 2, 3, 4, 5] [.blk p0 #[.int .i64 rL, .int .i64 rE, .int .i64 pL, .int .i64 pE, .int .i64 ((room : Nat) : Int), .int .i64 hv, .slice (some ⟨gr0, 0, none⟩) nR nR, .pointer (some ⟨t0, 0, none⟩)] 187, .row (.slice (some ⟨gr0, 0, none⟩) nR nR) 86 2 nR (List.flatMap bukL lR), .blk t0 #[sv0, .int .i64 ((room : Nat) : Int), .func (.func 103) #[] #[]] 228, .row (sv0) 230 3 (List.length (zipT lP lB nP)) (List.flatMap pairLB (zipT lP lB nP)), .blk g2 #[.slice aR nR cR, .slice aP nP cP, .slice aB nB cB] 147, .blk g1 #[.int .i64 rL, .int .i64 rE, .int .i64 pL, .int .i64 pE, .int .i64 ((room : Nat) : Int), .int .i64 hv] 80] (by decide) (by kernel_rfl)
                  exact ⟨(k4 + 1, (!(decide ((lP.getD k3 0) = (lP.getD k4 0))))), (by dsimp only; omega), (nthV [.int .i64 (lP.getD k4 0), .bool true, .pointer (some ⟨gP, oP + k4, none⟩), .int .i64 (lP.getD k4 0), .bool true, .bool true, .int .i64 (lP.getD k3 0), .int .i64 (lP.getD k4 0), .bool (!(decide ((lP.getD k3 0) = (lP.getD k4 0)))), .bool (!(decide ((lP.getD k3 0) = (lP.getD k4 0)))), .int .i64 (((k4 : Nat) : Int) + 1)]), (by kernel_rfl), H, (by omega), (iff_step r2 Dif1.next (by rw [h20]; first | (simp; done) | (simp only [Bool.not_eq_true', decide_eq_false_iff_not, true_and, ne_eq]; exact ⟨fun z e => z e.symm, fun z e => z e.symm⟩)))⟩
          · skip
            have h17p := of_decide_eq_true h17
            refine x_t (by kernel_rfl) ?_
            refine x_skipc ?_
            refine x_then ?_
            refine x_seq ?_
            refine x_block ?_
            refine x_seq ?_
            refine x_region ?_
            obtain ⟨gB, oB, hadB, hcB⟩ := hAB (by omega)
            refine x_ixO (t := 145) hadB k2 nB cB 86 2 (oB + k2 * 2) (by omega) (by omega) (by kernel_rfl) (by kernel_rfl) (by kernel_rfl) rfl (by kernel_rfl) ?_
            refine x_loadcn (t := 86) gB (oB + k2 * 2) [.int .i64 ((lB.getD k2 (0, 0)).1), .int .i64 ((lB.getD k2 (0, 0)).2)] (hcB _ H.below k2 (by omega)) (by kernel_rfl) rfl (by kernel_rfl) (by kernel_rfl) ?_
            refine x_box H #[.int .i64 0, .int .i64 0] 86 (by kernel_rfl) rfl (by kernel_rfl) ?_
            clear H
            intro v40 g5 H
            refine x_store (t := 86) (v := .agg #[.int .i64 ((lB.getD k2 (0, 0)).1), .int .i64 ((lB.getD k2 (0, 0)).2)]) H 0 g5 0 _ #[.int .i64 ((lB.getD k2 (0, 0)).1), .int .i64 ((lB.getD k2 (0, 0)).2)] 86 [.int .i64 ((lB.getD k2 (0, 0)).1), .int .i64 ((lB.getD k2 (0, 0)).2)] _ rfl rfl (by kernel_rfl) (by kernel_rfl) (by kernel_rfl) rfl (by kernel_rfl) (by kernel_rfl) (by kernel_rfl) (by kernel_rfl) ?_
            clear H
            intro v41 H
            refine x_nil ?_
            refine x_then ?_
            refine x_region ?_
            refine x_val (.bool fb) (by kernel_rfl) rfl (by kernel_rfl) ?_
            refine x_val (.bool fb) (by kernel_rfl) rfl (by kernel_rfl) ?_
            cases h21 : fb
            · skip
              refine x_skip (by kernel_rfl) ?_
              refine x_skip (by kernel_rfl) ?_
              refine x_skip (by kernel_rfl) ?_
              refine x_skip (by kernel_rfl) ?_
              refine x_skip (by kernel_rfl) ?_
              refine x_val (.bool false) (by kernel_rfl) rfl (by kernel_rfl) ?_
              refine x_val (.bool false) (by kernel_rfl) rfl (by kernel_rfl) ?_
              refine x_nil ?_
              refine x_blk ?_
              refine x_then ?_
              refine x_region ?_
              refine x_ar (((k2 : Nat) : Int) + 1) ⟨by omega, by omega⟩ (by kernel_rfl) rfl (by kernel_rfl) ?_
              refine x_val (.int .i64 (((k2 : Nat) : Int) + 1)) (by kernel_rfl) rfl (by kernel_rfl) ?_
              refine x_nil ?_
              refine x_then ?_
              replace H := H.pick [1, 2, 3, 4, 5, 6] [.blk p0 #[.int .i64 rL, .int .i64 rE, .int .i64 pL, .int .i64 pE, .int .i64 ((room : Nat) : Int), .int .i64 hv, .slice (some ⟨gr0, 0, none⟩) nR nR, .pointer (some ⟨t0, 0, none⟩)] 187, .row (.slice (some ⟨gr0, 0, none⟩) nR nR) 86 2 nR (List.flatMap bukL lR), .blk t0 #[sv0, .int .i64 ((room : Nat) : Int), .func (.func 103) #[] #[]] 228, .row (sv0) 230 3 (List.length (zipT lP lB nP)) (List.flatMap pairLB (zipT lP lB nP)), .blk g2 #[.slice aR nR cR, .slice aP nP cP, .slice aB nB cB] 147, .blk g1 #[.int .i64 rL, .int .i64 rE, .int .i64 pL, .int .i64 pE, .int .i64 ((room : Nat) : Int), .int .i64 hv] 80] (by decide) (by kernel_rfl)
              exact ⟨(k2 + 1, false), (by dsimp only; omega), (nthV [.pointer (some ⟨g5, 0, none⟩), .bool true, .pointer (some ⟨gB, oB + k2 * 2, none⟩), .agg #[.int .i64 ((lB.getD k2 (0, 0)).1), .int .i64 ((lB.getD k2 (0, 0)).2)], .bool false, .bool false, undef, undef, undef, undef, undef, .bool false, .int .i64 (((k2 : Nat) : Int) + 1)]), (by kernel_rfl), H, (by omega), (iff_step r2 AllB.next (by rw [h21]; simp))⟩
            · skip
              refine x_val (.pointer (some ⟨g1, 2, none⟩)) (by kernel_rfl) rfl (by kernel_rfl) ?_
              refine x_loadn (t := 78) H 6 g1 2 _ _ [.int .i64 pL, .int .i64 pE] rfl (by kernel_rfl) (by kernel_rfl) rfl (by kernel_rfl) (by kernel_rfl) ?_
              refine x_loadn (t := 86) H 0 g5 0 _ _ [.int .i64 ((lB.getD k2 (0, 0)).1), .int .i64 ((lB.getD k2 (0, 0)).2)] rfl (by kernel_rfl) (by kernel_rfl) rfl (by kernel_rfl) (by kernel_rfl) ?_
              refine x_callB (.agg #[.int .i64 pL, .int .i64 pE, .int .i64 ((lB.getD k2 (0, 0)).1), .int .i64 ((lB.getD k2 (0, 0)).2)]) H (by kernel_rfl) rfl (by kernel_rfl) (of_ pL pE ((lB.getD k2 (0, 0)).1) ((lB.getD k2 (0, 0)).2) _) ?_
              clear H
              intro v42 H
              refine x_callB (.bool (decide (RB pE (lB.getD k2 (0, 0))))) H (by kernel_rfl) rfl (by kernel_rfl) (Right_ pL pE ((lB.getD k2 (0, 0)).1) ((lB.getD k2 (0, 0)).2) hb.2.1 _) ?_
              clear H
              intro v43 H
              refine x_val (.bool (decide (RB pE (lB.getD k2 (0, 0))))) (by kernel_rfl) rfl (by kernel_rfl) ?_
              refine x_val (.bool (decide (RB pE (lB.getD k2 (0, 0))))) (by kernel_rfl) rfl (by kernel_rfl) ?_
              refine x_nil ?_
              refine x_blk ?_
              refine x_then ?_
              refine x_region ?_
              refine x_ar (((k2 : Nat) : Int) + 1) ⟨by omega, by omega⟩ (by kernel_rfl) rfl (by kernel_rfl) ?_
              refine x_val (.int .i64 (((k2 : Nat) : Int) + 1)) (by kernel_rfl) rfl (by kernel_rfl) ?_
              refine x_nil ?_
              refine x_then ?_
              replace H := H.pick [1, 2, 3, 4, 5, 6] [.blk p0 #[.int .i64 rL, .int .i64 rE, .int .i64 pL, .int .i64 pE, .int .i64 ((room : Nat) : Int), .int .i64 hv, .slice (some ⟨gr0, 0, none⟩) nR nR, .pointer (some ⟨t0, 0, none⟩)] 187, .row (.slice (some ⟨gr0, 0, none⟩) nR nR) 86 2 nR (List.flatMap bukL lR), .blk t0 #[sv0, .int .i64 ((room : Nat) : Int), .func (.func 103) #[] #[]] 228, .row (sv0) 230 3 (List.length (zipT lP lB nP)) (List.flatMap pairLB (zipT lP lB nP)), .blk g2 #[.slice aR nR cR, .slice aP nP cP, .slice aB nB cB] 147, .blk g1 #[.int .i64 rL, .int .i64 rE, .int .i64 pL, .int .i64 pE, .int .i64 ((room : Nat) : Int), .int .i64 hv] 80] (by decide) (by kernel_rfl)
              exact ⟨(k2 + 1, (decide (RB pE (lB.getD k2 (0, 0))))), (by dsimp only; omega), (nthV [.pointer (some ⟨g5, 0, none⟩), .bool true, .pointer (some ⟨gB, oB + k2 * 2, none⟩), .agg #[.int .i64 ((lB.getD k2 (0, 0)).1), .int .i64 ((lB.getD k2 (0, 0)).2)], .bool true, .bool true, .pointer (some ⟨g1, 2, none⟩), .agg #[.int .i64 pL, .int .i64 pE], .agg #[.int .i64 ((lB.getD k2 (0, 0)).1), .int .i64 ((lB.getD k2 (0, 0)).2)], .agg #[.int .i64 pL, .int .i64 pE, .int .i64 ((lB.getD k2 (0, 0)).1), .int .i64 ((lB.getD k2 (0, 0)).2)], .bool (decide (RB pE (lB.getD k2 (0, 0)))), .bool (decide (RB pE (lB.getD k2 (0, 0)))), .int .i64 (((k2 : Nat) : Int) + 1)]), (by kernel_rfl), H, (by omega), (iff_step r2 AllB.next (by rw [h21]; simp))⟩
        · skip
          have h16p := of_decide_eq_true h16
          refine x_t (by kernel_rfl) ?_
          refine x_skipc ?_
          refine x_then ?_
          refine x_seq ?_
          refine x_block ?_
          refine x_seq ?_
          refine x_region ?_
          obtain ⟨gR, oR, hadR, hcR⟩ := hAR (by omega)
          refine x_ixO (t := 145) hadR k1 nR cR 86 2 (oR + k1 * 2) (by omega) (by omega) (by kernel_rfl) (by kernel_rfl) (by kernel_rfl) rfl (by kernel_rfl) ?_
          refine x_loadcn (t := 86) gR (oR + k1 * 2) [.int .i64 ((lR.getD k1 (0, 0)).1), .int .i64 ((lR.getD k1 (0, 0)).2)] (hcR _ H.below k1 (by omega)) (by kernel_rfl) rfl (by kernel_rfl) (by kernel_rfl) ?_
          refine x_box H #[.int .i64 0, .int .i64 0] 86 (by kernel_rfl) rfl (by kernel_rfl) ?_
          clear H
          intro v44 g6 H
          refine x_store (t := 86) (v := .agg #[.int .i64 ((lR.getD k1 (0, 0)).1), .int .i64 ((lR.getD k1 (0, 0)).2)]) H 0 g6 0 _ #[.int .i64 ((lR.getD k1 (0, 0)).1), .int .i64 ((lR.getD k1 (0, 0)).2)] 86 [.int .i64 ((lR.getD k1 (0, 0)).1), .int .i64 ((lR.getD k1 (0, 0)).2)] _ rfl rfl (by kernel_rfl) (by kernel_rfl) (by kernel_rfl) rfl (by kernel_rfl) (by kernel_rfl) (by kernel_rfl) (by kernel_rfl) ?_
          clear H
          intro v45 H
          refine x_nil ?_
          refine x_then ?_
          refine x_region ?_
          refine x_val (.bool fb) (by kernel_rfl) rfl (by kernel_rfl) ?_
          refine x_val (.bool fb) (by kernel_rfl) rfl (by kernel_rfl) ?_
          cases h22 : fb
          · skip
            refine x_skip (by kernel_rfl) ?_
            refine x_skip (by kernel_rfl) ?_
            refine x_skip (by kernel_rfl) ?_
            refine x_skip (by kernel_rfl) ?_
            refine x_skip (by kernel_rfl) ?_
            refine x_val (.bool false) (by kernel_rfl) rfl (by kernel_rfl) ?_
            refine x_val (.bool false) (by kernel_rfl) rfl (by kernel_rfl) ?_
            refine x_nil ?_
            refine x_blk ?_
            refine x_then ?_
            refine x_region ?_
            refine x_ar (((k1 : Nat) : Int) + 1) ⟨by omega, by omega⟩ (by kernel_rfl) rfl (by kernel_rfl) ?_
            refine x_val (.int .i64 (((k1 : Nat) : Int) + 1)) (by kernel_rfl) rfl (by kernel_rfl) ?_
            refine x_nil ?_
            refine x_then ?_
            replace H := H.pick [1, 2, 3, 4, 5, 6] [.blk p0 #[.int .i64 rL, .int .i64 rE, .int .i64 pL, .int .i64 pE, .int .i64 ((room : Nat) : Int), .int .i64 hv, .slice (some ⟨gr0, 0, none⟩) nR nR, .pointer (some ⟨t0, 0, none⟩)] 187, .row (.slice (some ⟨gr0, 0, none⟩) nR nR) 86 2 nR (List.flatMap bukL lR), .blk t0 #[sv0, .int .i64 ((room : Nat) : Int), .func (.func 103) #[] #[]] 228, .row (sv0) 230 3 (List.length (zipT lP lB nP)) (List.flatMap pairLB (zipT lP lB nP)), .blk g2 #[.slice aR nR cR, .slice aP nP cP, .slice aB nB cB] 147, .blk g1 #[.int .i64 rL, .int .i64 rE, .int .i64 pL, .int .i64 pE, .int .i64 ((room : Nat) : Int), .int .i64 hv] 80] (by decide) (by kernel_rfl)
            exact ⟨(k1 + 1, false), (by dsimp only; omega), (nthV [.pointer (some ⟨g6, 0, none⟩), .bool true, .pointer (some ⟨gR, oR + k1 * 2, none⟩), .agg #[.int .i64 ((lR.getD k1 (0, 0)).1), .int .i64 ((lR.getD k1 (0, 0)).2)], .bool false, .bool false, undef, undef, undef, undef, undef, .bool false, .int .i64 (((k1 : Nat) : Int) + 1)]), (by kernel_rfl), H, (by omega), (iff_step r2 AllB.next (by rw [h22]; simp))⟩
          · skip
            refine x_val (.pointer (some ⟨g1, 0, none⟩)) (by kernel_rfl) rfl (by kernel_rfl) ?_
            refine x_loadn (t := 78) H 6 g1 0 _ _ [.int .i64 rL, .int .i64 rE] rfl (by kernel_rfl) (by kernel_rfl) rfl (by kernel_rfl) (by kernel_rfl) ?_
            refine x_loadn (t := 86) H 0 g6 0 _ _ [.int .i64 ((lR.getD k1 (0, 0)).1), .int .i64 ((lR.getD k1 (0, 0)).2)] rfl (by kernel_rfl) (by kernel_rfl) rfl (by kernel_rfl) (by kernel_rfl) ?_
            refine x_callB (.agg #[.int .i64 rL, .int .i64 rE, .int .i64 ((lR.getD k1 (0, 0)).1), .int .i64 ((lR.getD k1 (0, 0)).2)]) H (by kernel_rfl) rfl (by kernel_rfl) (of_ rL rE ((lR.getD k1 (0, 0)).1) ((lR.getD k1 (0, 0)).2) _) ?_
            clear H
            intro v46 H
            refine x_callB (.bool (decide (RB rE (lR.getD k1 (0, 0))))) H (by kernel_rfl) rfl (by kernel_rfl) (Right_ rL rE ((lR.getD k1 (0, 0)).1) ((lR.getD k1 (0, 0)).2) hb.1 _) ?_
            clear H
            intro v47 H
            refine x_val (.bool (decide (RB rE (lR.getD k1 (0, 0))))) (by kernel_rfl) rfl (by kernel_rfl) ?_
            refine x_val (.bool (decide (RB rE (lR.getD k1 (0, 0))))) (by kernel_rfl) rfl (by kernel_rfl) ?_
            refine x_nil ?_
            refine x_blk ?_
            refine x_then ?_
            refine x_region ?_
            refine x_ar (((k1 : Nat) : Int) + 1) ⟨by omega, by omega⟩ (by kernel_rfl) rfl (by kernel_rfl) ?_
            refine x_val (.int .i64 (((k1 : Nat) : Int) + 1)) (by kernel_rfl) rfl (by kernel_rfl) ?_
            refine x_nil ?_
            refine x_then ?_
            replace H := H.pick [1, 2, 3, 4, 5, 6] [.blk p0 #[.int .i64 rL, .int .i64 rE, .int .i64 pL, .int .i64 pE, .int .i64 ((room : Nat) : Int), .int .i64 hv, .slice (some ⟨gr0, 0, none⟩) nR nR, .pointer (some ⟨t0, 0, none⟩)] 187, .row (.slice (some ⟨gr0, 0, none⟩) nR nR) 86 2 nR (List.flatMap bukL lR), .blk t0 #[sv0, .int .i64 ((room : Nat) : Int), .func (.func 103) #[] #[]] 228, .row (sv0) 230 3 (List.length (zipT lP lB nP)) (List.flatMap pairLB (zipT lP lB nP)), .blk g2 #[.slice aR nR cR, .slice aP nP cP, .slice aB nB cB] 147, .blk g1 #[.int .i64 rL, .int .i64 rE, .int .i64 pL, .int .i64 pE, .int .i64 ((room : Nat) : Int), .int .i64 hv] 80] (by decide) (by kernel_rfl)
            exact ⟨(k1 + 1, (decide (RB rE (lR.getD k1 (0, 0))))), (by dsimp only; omega), (nthV [.pointer (some ⟨g6, 0, none⟩), .bool true, .pointer (some ⟨gR, oR + k1 * 2, none⟩), .agg #[.int .i64 ((lR.getD k1 (0, 0)).1), .int .i64 ((lR.getD k1 (0, 0)).2)], .bool true, .bool true, .pointer (some ⟨g1, 0, none⟩), .agg #[.int .i64 rL, .int .i64 rE], .agg #[.int .i64 ((lR.getD k1 (0, 0)).1), .int .i64 ((lR.getD k1 (0, 0)).2)], .agg #[.int .i64 rL, .int .i64 rE, .int .i64 ((lR.getD k1 (0, 0)).1), .int .i64 ((lR.getD k1 (0, 0)).2)], .bool (decide (RB rE (lR.getD k1 (0, 0)))), .bool (decide (RB rE (lR.getD k1 (0, 0)))), .int .i64 (((k1 : Nat) : Int) + 1)]), (by kernel_rfl), H, (by omega), (iff_step r2 AllB.next (by rw [h22]; simp))⟩

end Go.Proofs.Ytgpalgbdacoagaa
