/- The law TrackPlays, walked. -/
import Derived.Test.YtgpalgbdacoagaaTrkK2
import Derived.Test.YtgpalgbdacoagaaTrkM
namespace Go.Proofs.Ytgpalgbdacoagaa
open Go Go.RowKit
set_option linter.unusedVariables false
set_option linter.unusedSimpArgs false

theorem DRight0 (L E : Int) (h : RR L E) (w0 : World) : Calls Try.prog 61 #[.agg #[.int .i64 L, .int .i64 E, .int .i64 0, .int .i64 0]] w0 fun e w' => e = .returned (.bool true) ∧ Below w0.heap.size w0 w' := by
  have q := DRight L E 0 0 w0
  rw [decide_eq_true (show RR L E ∧ RB E (0, 0) from ⟨h, RB.zero h.2.2.1⟩)] at q
  exact q

set_option maxRecDepth 100000 in
set_option maxHeartbeats 4000000 in
theorem plays18_bad (rL rE pL pE hv room ranks page : Int) (ad : Option Addr) (nA cA : Nat) (hb : ¬ Rul rL rE pL pE room hv) (w0 : World) :
    Calls Try.prog 10 #[.agg #[.int .i64 rL, .int .i64 rE, .int .i64 pL, .int .i64 pE, .int .i64 room, .int .i64 hv], .int .i64 ranks, .slice ad nA cA, .int .i64 page] w0 fun e w' => e = .returned (.bool true) ∧ Below w0.heap.size w0 w' := by
  refine x_enter Try.func10 rfl #[.agg #[.int .i64 rL, .int .i64 rE, .int .i64 pL, .int .i64 pE, .int .i64 room, .int .i64 hv], .int .i64 ranks, .slice ad nA cA, .int .i64 page, undef, undef, undef, undef, undef, undef, undef, undef, undef, undef, undef, undef, undef, undef, undef, undef, undef, undef, undef, undef, undef, undef, undef, undef, undef, undef, undef, undef, undef, undef, undef, undef, undef, undef, undef, undef, undef, undef, undef, undef, undef, undef, undef, undef, undef, undef, undef, undef, undef, undef, undef, undef, undef, undef, undef, undef, undef, undef, undef, undef, undef, undef, undef, undef, undef, undef, undef, undef, undef, undef, undef, undef, undef, undef, undef, undef, undef, undef, undef, undef, undef, undef, undef, undef, undef, undef, undef, undef, undef, undef, undef, undef, undef, undef, undef, undef, undef, undef, undef, undef, undef, undef, undef, undef, undef, undef, undef, undef, undef, undef, undef, undef, undef, undef, undef, undef, undef, undef, undef, undef, undef, undef, undef, undef, undef, undef, undef, undef, undef, undef, undef, undef, undef, undef, undef, undef, undef, undef, undef, undef, undef, undef, undef, undef, undef, undef, undef] (by kernel_rfl) ?_
  have H := Hs.nil w0
  refine x_seq ?_
  refine x_region ?_
  refine x_box H #[.int .i64 rL, .int .i64 rE, .int .i64 pL, .int .i64 pE, .int .i64 room, .int .i64 hv] 80 (by kernel_rfl) rfl (by kernel_rfl) ?_
  clear H
  intro v1 g1 H
  refine x_val (.bool false) (by kernel_rfl) rfl (by kernel_rfl) ?_
  refine x_nil ?_
  refine x_then ?_
  refine x_seq ?_
  refine x_seq ?_
  refine x_region ?_
  refine x_callB (.bool true) H (by kernel_rfl) rfl (by kernel_rfl) (anchor18 _) ?_
  clear H
  intro v2 H
  refine x_val (.bool false) (by kernel_rfl) rfl (by kernel_rfl) ?_
  refine x_nil ?_
  refine x_then ?_
  refine x_f (by kernel_rfl) ?_
  refine x_skipc ?_
  refine x_then ?_
  refine x_seq ?_
  refine x_cut (fun a w' => ∃ ga1 : Nat, ∃ ga2 : Nat, ∃ uf1 : Nat → Value, a = { tmps := #[.agg #[.int .i64 rL, .int .i64 rE, .int .i64 pL, .int .i64 pE, .int .i64 room, .int .i64 hv], .int .i64 ranks, .slice ad nA cA, .int .i64 page, .pointer (some ⟨g1, 0, none⟩), undef, undef, undef, .bool false, .pointer (some ⟨ga1, 0, none⟩), .pointer (some ⟨ga2, 0, none⟩), undef, undef, undef, undef, undef, undef, undef, undef, undef, .bool true, .bool false, (uf1 0), (uf1 1), (uf1 2), (uf1 3), (uf1 4), (uf1 5), (uf1 6), (uf1 7), undef, undef, undef, undef, undef, undef, undef, undef, undef, undef, undef, undef, undef, undef, undef, undef, undef, undef, undef, undef, undef, undef, undef, undef, undef, undef, undef, undef, undef, undef, undef, undef, undef, undef, undef, undef, undef, undef, undef, undef, undef, undef, undef, undef, undef, undef, undef, undef, undef, undef, undef, undef, undef, undef, undef, undef, undef, undef, undef, undef, undef, undef, undef, undef, undef, undef, undef, undef, undef, undef, undef, undef, undef, undef, undef, undef, undef, undef, undef, undef, undef, undef, undef, undef, undef, undef, undef, undef, undef, undef, undef, undef, undef, undef, undef, undef, undef, undef, undef, undef, undef, undef, undef, undef, undef, undef, undef, undef, undef, undef, undef, undef, undef, undef, undef, undef, undef, undef, undef, undef, undef], defers := [] } ∧ Hs [] w0 w' [.blk ga1 #[.int .i64 rL, .int .i64 rE, .int .i64 0, .int .i64 0] 119, .blk ga2 #[.int .i64 pL, .int .i64 pE, .int .i64 0, .int .i64 0] 119, .blk g1 #[.int .i64 rL, .int .i64 rE, .int .i64 pL, .int .i64 pE, .int .i64 room, .int .i64 hv] 80]) ?_ ?_
  · skip
    refine x_region_s 12 (fun w' => Hs [] w0 w' [.blk g1 #[.int .i64 rL, .int .i64 rE, .int .i64 pL, .int .i64 pE, .int .i64 room, .int .i64 hv] 80]) (fun w' => Hs [] w0 w' [.blk g1 #[.int .i64 rL, .int .i64 rE, .int .i64 pL, .int .i64 pE, .int .i64 room, .int .i64 hv] 80]) (by kernel_rfl) (by kernel_rfl) (by kernel_rfl) hsShut (fun _ h => h.pick [0] _ (by decide) (by kernel_rfl)) H.drew ?_
    refine s_quiet 0 rfl (by kernel_rfl) (y_val (.pointer (some ⟨g1, 0, none⟩)) (by kernel_rfl) (fun _ => by kernel_rfl)) ?_
    refine s_quiet 1 rfl (by kernel_rfl) (y_loadn (t := 78) 0 g1 0 #[.int .i64 rL, .int .i64 rE, .int .i64 pL, .int .i64 pE, .int .i64 room, .int .i64 hv] 80 [.int .i64 rL, .int .i64 rE] (by kernel_rfl) (by kernel_rfl) (by kernel_rfl) (by kernel_rfl) (by kernel_rfl)) ?_
    refine s_quiet 2 rfl (by kernel_rfl) (y_val (.agg #[.int .i64 0, .int .i64 0]) (by kernel_rfl) (fun _ => by kernel_rfl)) ?_
    refine s_quiet 3 rfl (by kernel_rfl) (y_callB (.agg #[.int .i64 rL, .int .i64 rE, .int .i64 0, .int .i64 0]) (by kernel_rfl) (fun _ => by kernel_rfl) (fun _ => (ofB rL rE 0 0 _))) ?_
    refine s_quiet 4 rfl (by kernel_rfl) (y_val (.pointer (some ⟨g1, 2, none⟩)) (by kernel_rfl) (fun _ => by kernel_rfl)) ?_
    refine s_quiet 5 rfl (by kernel_rfl) (y_loadn (t := 78) 0 g1 2 #[.int .i64 rL, .int .i64 rE, .int .i64 pL, .int .i64 pE, .int .i64 room, .int .i64 hv] 80 [.int .i64 pL, .int .i64 pE] (by kernel_rfl) (by kernel_rfl) (by kernel_rfl) (by kernel_rfl) (by kernel_rfl)) ?_
    refine s_quiet 6 rfl (by kernel_rfl) (y_val (.agg #[.int .i64 0, .int .i64 0]) (by kernel_rfl) (fun _ => by kernel_rfl)) ?_
    refine s_quiet 7 rfl (by kernel_rfl) (y_callB (.agg #[.int .i64 pL, .int .i64 pE, .int .i64 0, .int .i64 0]) (by kernel_rfl) (fun _ => by kernel_rfl) (fun _ => (ofB pL pE 0 0 _))) ?_
    refine s_two 8 9 rfl rfl (by kernel_rfl) rfl rfl ?_ ?_
    · skip
      clear H
      intro v3 H
      refine x_box H #[.int .i64 0, .int .i64 0, .int .i64 0, .int .i64 0] 119 (by kernel_rfl) rfl (by kernel_rfl) ?_
      clear H
      intro v4 g2 H
      refine x_nil ?_
      refine x_then ?_
      refine ⟨fun w' => Hs [] w0 w' [.blk g1 #[.int .i64 rL, .int .i64 rE, .int .i64 pL, .int .i64 pE, .int .i64 room, .int .i64 hv] 80], fun w' => Hs [] w0 w' [.blk g2 #[.int .i64 0, .int .i64 0, .int .i64 0, .int .i64 0] 119, .blk g1 #[.int .i64 rL, .int .i64 rE, .int .i64 pL, .int .i64 pE, .int .i64 room, .int .i64 hv] 80], H, hsShut, fun _ h => h.pick [1] _ (by decide) (by kernel_rfl), fun _ h => h.pick [0] _ (by decide) (by kernel_rfl), ?_⟩
      refine s_one 9 rfl (by kernel_rfl) rfl ?_
      clear H
      intro v5 H
      refine x_box H #[.int .i64 0, .int .i64 0, .int .i64 0, .int .i64 0] 119 (by kernel_rfl) rfl (by kernel_rfl) ?_
      clear H
      intro v6 g3 H
      refine x_nil ?_
      refine x_then ?_
      refine ⟨fun w' => Hs [] w0 w' [.blk g1 #[.int .i64 rL, .int .i64 rE, .int .i64 pL, .int .i64 pE, .int .i64 room, .int .i64 hv] 80], fun w' => Hs [] w0 w' [.blk g3 #[.int .i64 0, .int .i64 0, .int .i64 0, .int .i64 0] 119, .blk g2 #[.int .i64 0, .int .i64 0, .int .i64 0, .int .i64 0] 119, .blk g1 #[.int .i64 rL, .int .i64 rE, .int .i64 pL, .int .i64 pE, .int .i64 room, .int .i64 hv] 80], H, hsShut, fun _ h => h.pick [2] _ (by decide) (by kernel_rfl), fun _ h => h.pick [0] _ (by decide) (by kernel_rfl), ?_⟩
      refine s_one 10 rfl (by kernel_rfl) rfl ?_
      clear H
      intro v7 H
      refine x_store (t := 119) (v := .agg #[.int .i64 rL, .int .i64 rE, .int .i64 0, .int .i64 0]) H 1 g2 0 _ #[.int .i64 rL, .int .i64 rE, .int .i64 0, .int .i64 0] 119 [.int .i64 rL, .int .i64 rE, .int .i64 0, .int .i64 0] _ rfl rfl (by kernel_rfl) (by kernel_rfl) (by kernel_rfl) rfl (by kernel_rfl) (by kernel_rfl) (by kernel_rfl) (by kernel_rfl) ?_
      clear H
      intro v8 H
      refine x_nil ?_
      refine x_then ?_
      refine ⟨fun w' => Hs [] w0 w' [.blk g2 #[.int .i64 rL, .int .i64 rE, .int .i64 0, .int .i64 0] 119, .blk g1 #[.int .i64 rL, .int .i64 rE, .int .i64 pL, .int .i64 pE, .int .i64 room, .int .i64 hv] 80], fun w' => Hs [] w0 w' [.blk g3 #[.int .i64 0, .int .i64 0, .int .i64 0, .int .i64 0] 119, .blk g2 #[.int .i64 rL, .int .i64 rE, .int .i64 0, .int .i64 0] 119, .blk g1 #[.int .i64 rL, .int .i64 rE, .int .i64 pL, .int .i64 pE, .int .i64 room, .int .i64 hv] 80], H, hsShut, fun _ h => h.pick [1, 2] _ (by decide) (by kernel_rfl), fun _ h => h.pick [1] _ (by decide) (by kernel_rfl), ?_⟩
      refine s_one 11 rfl (by kernel_rfl) rfl ?_
      clear H
      intro v9 H
      refine x_store (t := 119) (v := .agg #[.int .i64 pL, .int .i64 pE, .int .i64 0, .int .i64 0]) H 0 g3 0 _ #[.int .i64 pL, .int .i64 pE, .int .i64 0, .int .i64 0] 119 [.int .i64 pL, .int .i64 pE, .int .i64 0, .int .i64 0] _ rfl rfl (by kernel_rfl) (by kernel_rfl) (by kernel_rfl) rfl (by kernel_rfl) (by kernel_rfl) (by kernel_rfl) (by kernel_rfl) ?_
      clear H
      intro v10 H
      refine x_nil ?_
      refine x_then ?_
      refine ⟨fun w' => Hs [] w0 w' [.blk g3 #[.int .i64 pL, .int .i64 pE, .int .i64 0, .int .i64 0] 119, .blk g2 #[.int .i64 rL, .int .i64 rE, .int .i64 0, .int .i64 0] 119, .blk g1 #[.int .i64 rL, .int .i64 rE, .int .i64 pL, .int .i64 pE, .int .i64 room, .int .i64 hv] 80], fun w' => Hs [] w0 w' [.blk g3 #[.int .i64 pL, .int .i64 pE, .int .i64 0, .int .i64 0] 119, .blk g2 #[.int .i64 rL, .int .i64 rE, .int .i64 0, .int .i64 0] 119, .blk g1 #[.int .i64 rL, .int .i64 rE, .int .i64 pL, .int .i64 pE, .int .i64 room, .int .i64 hv] 80], H, hsShut, fun _ h => h.pick [0, 1, 2] _ (by decide) (by kernel_rfl), fun _ h => h.pick [1, 2] _ (by decide) (by kernel_rfl), ?_⟩
      refine s_done (by kernel_rfl) ?_
      clear H
      intro v11 H
      refine x_then ?_
      replace H := H.pick [1, 0, 2] [.blk g2 #[.int .i64 rL, .int .i64 rE, .int .i64 0, .int .i64 0] 119, .blk g3 #[.int .i64 pL, .int .i64 pE, .int .i64 0, .int .i64 0] 119, .blk g1 #[.int .i64 rL, .int .i64 rE, .int .i64 pL, .int .i64 pE, .int .i64 room, .int .i64 hv] 80] (by decide) (by kernel_rfl)
      exact ⟨g2, g3, (nthV [.pointer (some ⟨g1, 0, none⟩), .agg #[.int .i64 rL, .int .i64 rE], .agg #[.int .i64 0, .int .i64 0], .agg #[.int .i64 rL, .int .i64 rE, .int .i64 0, .int .i64 0], .pointer (some ⟨g1, 2, none⟩), .agg #[.int .i64 pL, .int .i64 pE], .agg #[.int .i64 0, .int .i64 0], .agg #[.int .i64 pL, .int .i64 pE, .int .i64 0, .int .i64 0]]), (by kernel_rfl), H⟩
    · skip
      clear H
      intro v12 H
      refine x_box H #[.int .i64 0, .int .i64 0, .int .i64 0, .int .i64 0] 119 (by kernel_rfl) rfl (by kernel_rfl) ?_
      clear H
      intro v13 g4 H
      refine x_nil ?_
      refine x_then ?_
      refine ⟨fun w' => Hs [] w0 w' [.blk g1 #[.int .i64 rL, .int .i64 rE, .int .i64 pL, .int .i64 pE, .int .i64 room, .int .i64 hv] 80], fun w' => Hs [] w0 w' [.blk g4 #[.int .i64 0, .int .i64 0, .int .i64 0, .int .i64 0] 119, .blk g1 #[.int .i64 rL, .int .i64 rE, .int .i64 pL, .int .i64 pE, .int .i64 room, .int .i64 hv] 80], H, hsShut, fun _ h => h.pick [1] _ (by decide) (by kernel_rfl), fun _ h => h.pick [0] _ (by decide) (by kernel_rfl), ?_⟩
      refine s_one 8 rfl (by kernel_rfl) rfl ?_
      clear H
      intro v14 H
      refine x_box H #[.int .i64 0, .int .i64 0, .int .i64 0, .int .i64 0] 119 (by kernel_rfl) rfl (by kernel_rfl) ?_
      clear H
      intro v15 g5 H
      refine x_nil ?_
      refine x_then ?_
      refine ⟨fun w' => Hs [] w0 w' [.blk g1 #[.int .i64 rL, .int .i64 rE, .int .i64 pL, .int .i64 pE, .int .i64 room, .int .i64 hv] 80], fun w' => Hs [] w0 w' [.blk g5 #[.int .i64 0, .int .i64 0, .int .i64 0, .int .i64 0] 119, .blk g4 #[.int .i64 0, .int .i64 0, .int .i64 0, .int .i64 0] 119, .blk g1 #[.int .i64 rL, .int .i64 rE, .int .i64 pL, .int .i64 pE, .int .i64 room, .int .i64 hv] 80], H, hsShut, fun _ h => h.pick [2] _ (by decide) (by kernel_rfl), fun _ h => h.pick [0] _ (by decide) (by kernel_rfl), ?_⟩
      refine s_one 10 rfl (by kernel_rfl) rfl ?_
      clear H
      intro v16 H
      refine x_store (t := 119) (v := .agg #[.int .i64 rL, .int .i64 rE, .int .i64 0, .int .i64 0]) H 0 g5 0 _ #[.int .i64 rL, .int .i64 rE, .int .i64 0, .int .i64 0] 119 [.int .i64 rL, .int .i64 rE, .int .i64 0, .int .i64 0] [.blk g5 #[.int .i64 rL, .int .i64 rE, .int .i64 0, .int .i64 0] 119, .blk g4 #[.int .i64 0, .int .i64 0, .int .i64 0, .int .i64 0] 119, .blk g1 #[.int .i64 rL, .int .i64 rE, .int .i64 pL, .int .i64 pE, .int .i64 room, .int .i64 hv] 80] rfl rfl (by kernel_rfl) (by kernel_rfl) (by kernel_rfl) (by kernel_rfl) (by kernel_rfl) (by kernel_rfl) (by kernel_rfl) (by kernel_rfl) ?_
      clear H
      intro v17 H
      refine x_nil ?_
      refine x_then ?_
      refine ⟨fun w' => Hs [] w0 w' [.blk g1 #[.int .i64 rL, .int .i64 rE, .int .i64 pL, .int .i64 pE, .int .i64 room, .int .i64 hv] 80], fun w' => Hs [] w0 w' [.blk g5 #[.int .i64 rL, .int .i64 rE, .int .i64 0, .int .i64 0] 119, .blk g4 #[.int .i64 0, .int .i64 0, .int .i64 0, .int .i64 0] 119, .blk g1 #[.int .i64 rL, .int .i64 rE, .int .i64 pL, .int .i64 pE, .int .i64 room, .int .i64 hv] 80], H, hsShut, fun _ h => h.pick [2] _ (by decide) (by kernel_rfl), fun _ h => h.pick [0] _ (by decide) (by kernel_rfl), ?_⟩
      refine s_one 11 rfl (by kernel_rfl) rfl ?_
      clear H
      intro v18 H
      refine x_store (t := 119) (v := .agg #[.int .i64 pL, .int .i64 pE, .int .i64 0, .int .i64 0]) H 1 g4 0 _ #[.int .i64 pL, .int .i64 pE, .int .i64 0, .int .i64 0] 119 [.int .i64 pL, .int .i64 pE, .int .i64 0, .int .i64 0] _ rfl rfl (by kernel_rfl) (by kernel_rfl) (by kernel_rfl) rfl (by kernel_rfl) (by kernel_rfl) (by kernel_rfl) (by kernel_rfl) ?_
      clear H
      intro v19 H
      refine x_nil ?_
      refine x_then ?_
      refine ⟨fun w' => Hs [] w0 w' [.blk g1 #[.int .i64 rL, .int .i64 rE, .int .i64 pL, .int .i64 pE, .int .i64 room, .int .i64 hv] 80], fun w' => Hs [] w0 w' [.blk g5 #[.int .i64 rL, .int .i64 rE, .int .i64 0, .int .i64 0] 119, .blk g4 #[.int .i64 pL, .int .i64 pE, .int .i64 0, .int .i64 0] 119, .blk g1 #[.int .i64 rL, .int .i64 rE, .int .i64 pL, .int .i64 pE, .int .i64 room, .int .i64 hv] 80], H, hsShut, fun _ h => h.pick [2] _ (by decide) (by kernel_rfl), fun _ h => h.pick [0] _ (by decide) (by kernel_rfl), ?_⟩
      refine s_done (by kernel_rfl) ?_
      clear H
      intro v20 H
      refine x_then ?_
      replace H := H.pick [0, 1, 2] [.blk g5 #[.int .i64 rL, .int .i64 rE, .int .i64 0, .int .i64 0] 119, .blk g4 #[.int .i64 pL, .int .i64 pE, .int .i64 0, .int .i64 0] 119, .blk g1 #[.int .i64 rL, .int .i64 rE, .int .i64 pL, .int .i64 pE, .int .i64 room, .int .i64 hv] 80] (by decide) (by kernel_rfl)
      exact ⟨g5, g4, (nthV [.pointer (some ⟨g1, 0, none⟩), .agg #[.int .i64 rL, .int .i64 rE], .agg #[.int .i64 0, .int .i64 0], .agg #[.int .i64 rL, .int .i64 rE, .int .i64 0, .int .i64 0], .pointer (some ⟨g1, 2, none⟩), .agg #[.int .i64 pL, .int .i64 pE], .agg #[.int .i64 0, .int .i64 0], .agg #[.int .i64 pL, .int .i64 pE, .int .i64 0, .int .i64 0]]), (by kernel_rfl), H⟩
  · skip
    clear H
    rintro _ v21 ⟨ga1, ga2, uf1, rfl, H⟩
    refine x_then ?_
    refine x_seq ?_
    refine x_cut (fun a w' => ∃ rb : Bool, ∃ uf2 : Nat → Value, a = { tmps := #[.agg #[.int .i64 rL, .int .i64 rE, .int .i64 pL, .int .i64 pE, .int .i64 room, .int .i64 hv], .int .i64 ranks, .slice ad nA cA, .int .i64 page, .pointer (some ⟨g1, 0, none⟩), undef, undef, undef, .bool false, .pointer (some ⟨ga1, 0, none⟩), .pointer (some ⟨ga2, 0, none⟩), .bool rb, undef, undef, undef, undef, undef, undef, undef, undef, .bool true, .bool false, (uf1 0), (uf1 1), (uf1 2), (uf1 3), (uf1 4), (uf1 5), (uf1 6), (uf1 7), (uf2 0), (uf2 1), (uf2 2), (uf2 3), (uf2 4), (uf2 5), (uf2 6), (uf2 7), (uf2 8), (uf2 9), (uf2 10), (uf2 11), (uf2 12), (uf2 13), (uf2 14), (uf2 15), (uf2 16), (uf2 17), (uf2 18), (uf2 19), (uf2 20), (uf2 21), (uf2 22), (uf2 23), (uf2 24), (uf2 25), undef, undef, undef, undef, undef, undef, undef, undef, undef, undef, undef, undef, undef, undef, undef, undef, undef, undef, undef, undef, undef, undef, undef, undef, undef, undef, undef, undef, undef, undef, undef, undef, undef, undef, undef, undef, undef, undef, undef, undef, undef, undef, undef, undef, undef, undef, undef, undef, undef, undef, undef, undef, undef, undef, undef, undef, undef, undef, undef, undef, undef, undef, undef, undef, undef, undef, undef, undef, undef, undef, undef, undef, undef, undef, undef, undef, undef, undef, undef, undef, undef, undef, undef, undef, undef, undef, undef, undef, undef, undef, undef, undef, undef, undef, undef], defers := [] } ∧ Hs [] w0 w' [.blk ga1 #[.int .i64 rL, .int .i64 rE, .int .i64 0, .int .i64 0] 119, .blk ga2 #[.int .i64 pL, .int .i64 pE, .int .i64 0, .int .i64 0] 119, .blk g1 #[.int .i64 rL, .int .i64 rE, .int .i64 pL, .int .i64 pE, .int .i64 room, .int .i64 hv] 80] ∧ (rb = true ↔ Rul rL rE pL pE room hv)) ?_ ?_
    · skip
      refine x_region ?_
      refine x_loadn (t := 119) H 0 ga1 0 _ _ [.int .i64 rL, .int .i64 rE, .int .i64 0, .int .i64 0] rfl (by kernel_rfl) (by kernel_rfl) rfl (by kernel_rfl) (by kernel_rfl) ?_
      refine x_callB (.bool (decide (RR rL rE ∧ RB rE (0, 0)))) H (by kernel_rfl) rfl (by kernel_rfl) (DRight rL rE 0 0 _) ?_
      clear H
      intro v22 H
      refine x_val (.bool (decide (RR rL rE ∧ RB rE (0, 0)))) (by kernel_rfl) rfl (by kernel_rfl) ?_
      cases h1 : decide (RR rL rE ∧ RB rE (0, 0))
      · skip
        have h1p := of_decide_eq_false h1
        refine x_skip (by kernel_rfl) ?_
        refine x_skip (by kernel_rfl) ?_
        refine x_val (.bool false) (by kernel_rfl) rfl (by kernel_rfl) ?_
        refine x_val (.bool false) (by kernel_rfl) rfl (by kernel_rfl) ?_
        refine x_skip (by kernel_rfl) ?_
        refine x_skip (by kernel_rfl) ?_
        refine x_skip (by kernel_rfl) ?_
        refine x_val (.bool false) (by kernel_rfl) rfl (by kernel_rfl) ?_
        refine x_val (.bool false) (by kernel_rfl) rfl (by kernel_rfl) ?_
        refine x_skip (by kernel_rfl) ?_
        refine x_skip (by kernel_rfl) ?_
        refine x_skip (by kernel_rfl) ?_
        refine x_val (.bool false) (by kernel_rfl) rfl (by kernel_rfl) ?_
        refine x_val (.bool false) (by kernel_rfl) rfl (by kernel_rfl) ?_
        refine x_skip (by kernel_rfl) ?_
        refine x_skip (by kernel_rfl) ?_
        refine x_skip (by kernel_rfl) ?_
        refine x_val (.bool false) (by kernel_rfl) rfl (by kernel_rfl) ?_
        refine x_val (.bool false) (by kernel_rfl) rfl (by kernel_rfl) ?_
        refine x_skip (by kernel_rfl) ?_
        refine x_skip (by kernel_rfl) ?_
        refine x_skip (by kernel_rfl) ?_
        refine x_val (.bool false) (by kernel_rfl) rfl (by kernel_rfl) ?_
        refine x_val (.bool false) (by kernel_rfl) rfl (by kernel_rfl) ?_
        refine x_nil ?_
        refine x_then ?_
        exact ⟨false, (nthV [.agg #[.int .i64 rL, .int .i64 rE, .int .i64 0, .int .i64 0], .bool false, .bool false, undef, undef, .bool false, .bool false, undef, undef, undef, .bool false, .bool false, undef, undef, undef, .bool false, .bool false, undef, undef, undef, .bool false, .bool false, undef, undef, undef, .bool false]), (by kernel_rfl), H, (by simp only [Bool.false_eq_true, false_iff]; unfold Rul RR at *; omega)⟩
      · skip
        have h1p := of_decide_eq_true h1
        refine x_loadn (t := 119) H 1 ga2 0 _ _ [.int .i64 pL, .int .i64 pE, .int .i64 0, .int .i64 0] rfl (by kernel_rfl) (by kernel_rfl) rfl (by kernel_rfl) (by kernel_rfl) ?_
        refine x_callB (.bool (decide (RR pL pE ∧ RB pE (0, 0)))) H (by kernel_rfl) rfl (by kernel_rfl) (DRight pL pE 0 0 _) ?_
        clear H
        intro v23 H
        refine x_val (.bool (decide (RR pL pE ∧ RB pE (0, 0)))) (by kernel_rfl) rfl (by kernel_rfl) ?_
        refine x_val (.bool (decide (RR pL pE ∧ RB pE (0, 0)))) (by kernel_rfl) rfl (by kernel_rfl) ?_
        cases h2 : decide (RR pL pE ∧ RB pE (0, 0))
        · skip
          have h2p := of_decide_eq_false h2
          refine x_skip (by kernel_rfl) ?_
          refine x_skip (by kernel_rfl) ?_
          refine x_skip (by kernel_rfl) ?_
          refine x_val (.bool false) (by kernel_rfl) rfl (by kernel_rfl) ?_
          refine x_val (.bool false) (by kernel_rfl) rfl (by kernel_rfl) ?_
          refine x_skip (by kernel_rfl) ?_
          refine x_skip (by kernel_rfl) ?_
          refine x_skip (by kernel_rfl) ?_
          refine x_val (.bool false) (by kernel_rfl) rfl (by kernel_rfl) ?_
          refine x_val (.bool false) (by kernel_rfl) rfl (by kernel_rfl) ?_
          refine x_skip (by kernel_rfl) ?_
          refine x_skip (by kernel_rfl) ?_
          refine x_skip (by kernel_rfl) ?_
          refine x_val (.bool false) (by kernel_rfl) rfl (by kernel_rfl) ?_
          refine x_val (.bool false) (by kernel_rfl) rfl (by kernel_rfl) ?_
          refine x_skip (by kernel_rfl) ?_
          refine x_skip (by kernel_rfl) ?_
          refine x_skip (by kernel_rfl) ?_
          refine x_val (.bool false) (by kernel_rfl) rfl (by kernel_rfl) ?_
          refine x_val (.bool false) (by kernel_rfl) rfl (by kernel_rfl) ?_
          refine x_nil ?_
          refine x_then ?_
          exact ⟨false, (nthV [.agg #[.int .i64 rL, .int .i64 rE, .int .i64 0, .int .i64 0], .bool true, .bool true, .agg #[.int .i64 pL, .int .i64 pE, .int .i64 0, .int .i64 0], .bool false, .bool false, .bool false, undef, undef, undef, .bool false, .bool false, undef, undef, undef, .bool false, .bool false, undef, undef, undef, .bool false, .bool false, undef, undef, undef, .bool false]), (by kernel_rfl), H, (by simp only [Bool.false_eq_true, false_iff]; unfold Rul RR at *; omega)⟩
        · skip
          have h2p := of_decide_eq_true h2
          refine x_val (.pointer (some ⟨g1, 4, none⟩)) (by kernel_rfl) rfl (by kernel_rfl) ?_
          refine x_load1 H 2 g1 4 _ _ (.int .i64 room) rfl (by kernel_rfl) (by kernel_rfl) rfl (by kernel_rfl) ?_
          refine x_val (.bool (decide (1 ≤ room))) (by kernel_rfl) rfl (by kernel_rfl) ?_
          refine x_val (.bool (decide (1 ≤ room))) (by kernel_rfl) rfl (by kernel_rfl) ?_
          refine x_val (.bool (decide (1 ≤ room))) (by kernel_rfl) rfl (by kernel_rfl) ?_
          cases h3 : decide (1 ≤ room)
          · skip
            have h3p := of_decide_eq_false h3
            refine x_skip (by kernel_rfl) ?_
            refine x_skip (by kernel_rfl) ?_
            refine x_skip (by kernel_rfl) ?_
            refine x_val (.bool false) (by kernel_rfl) rfl (by kernel_rfl) ?_
            refine x_val (.bool false) (by kernel_rfl) rfl (by kernel_rfl) ?_
            refine x_skip (by kernel_rfl) ?_
            refine x_skip (by kernel_rfl) ?_
            refine x_skip (by kernel_rfl) ?_
            refine x_val (.bool false) (by kernel_rfl) rfl (by kernel_rfl) ?_
            refine x_val (.bool false) (by kernel_rfl) rfl (by kernel_rfl) ?_
            refine x_skip (by kernel_rfl) ?_
            refine x_skip (by kernel_rfl) ?_
            refine x_skip (by kernel_rfl) ?_
            refine x_val (.bool false) (by kernel_rfl) rfl (by kernel_rfl) ?_
            refine x_val (.bool false) (by kernel_rfl) rfl (by kernel_rfl) ?_
            refine x_nil ?_
            refine x_then ?_
            exact ⟨false, (nthV [.agg #[.int .i64 rL, .int .i64 rE, .int .i64 0, .int .i64 0], .bool true, .bool true, .agg #[.int .i64 pL, .int .i64 pE, .int .i64 0, .int .i64 0], .bool true, .bool true, .bool true, .pointer (some ⟨g1, 4, none⟩), .int .i64 room, .bool false, .bool false, .bool false, undef, undef, undef, .bool false, .bool false, undef, undef, undef, .bool false, .bool false, undef, undef, undef, .bool false]), (by kernel_rfl), H, (by simp only [Bool.false_eq_true, false_iff]; unfold Rul RR at *; omega)⟩
          · skip
            have h3p := of_decide_eq_true h3
            refine x_val (.pointer (some ⟨g1, 4, none⟩)) (by kernel_rfl) rfl (by kernel_rfl) ?_
            refine x_load1 H 2 g1 4 _ _ (.int .i64 room) rfl (by kernel_rfl) (by kernel_rfl) rfl (by kernel_rfl) ?_
            refine x_val (.bool (decide (room ≤ 256))) (by kernel_rfl) rfl (by kernel_rfl) ?_
            refine x_val (.bool (decide (room ≤ 256))) (by kernel_rfl) rfl (by kernel_rfl) ?_
            refine x_val (.bool (decide (room ≤ 256))) (by kernel_rfl) rfl (by kernel_rfl) ?_
            cases h4 : decide (room ≤ 256)
            · skip
              have h4p := of_decide_eq_false h4
              refine x_skip (by kernel_rfl) ?_
              refine x_skip (by kernel_rfl) ?_
              refine x_skip (by kernel_rfl) ?_
              refine x_val (.bool false) (by kernel_rfl) rfl (by kernel_rfl) ?_
              refine x_val (.bool false) (by kernel_rfl) rfl (by kernel_rfl) ?_
              refine x_skip (by kernel_rfl) ?_
              refine x_skip (by kernel_rfl) ?_
              refine x_skip (by kernel_rfl) ?_
              refine x_val (.bool false) (by kernel_rfl) rfl (by kernel_rfl) ?_
              refine x_val (.bool false) (by kernel_rfl) rfl (by kernel_rfl) ?_
              refine x_nil ?_
              refine x_then ?_
              exact ⟨false, (nthV [.agg #[.int .i64 rL, .int .i64 rE, .int .i64 0, .int .i64 0], .bool true, .bool true, .agg #[.int .i64 pL, .int .i64 pE, .int .i64 0, .int .i64 0], .bool true, .bool true, .bool true, .pointer (some ⟨g1, 4, none⟩), .int .i64 room, .bool true, .bool true, .bool true, .pointer (some ⟨g1, 4, none⟩), .int .i64 room, .bool false, .bool false, .bool false, undef, undef, undef, .bool false, .bool false, undef, undef, undef, .bool false]), (by kernel_rfl), H, (by simp only [Bool.false_eq_true, false_iff]; unfold Rul RR at *; omega)⟩
            · skip
              have h4p := of_decide_eq_true h4
              refine x_val (.pointer (some ⟨g1, 5, none⟩)) (by kernel_rfl) rfl (by kernel_rfl) ?_
              refine x_load1 H 2 g1 5 _ _ (.int .i64 hv) rfl (by kernel_rfl) (by kernel_rfl) rfl (by kernel_rfl) ?_
              refine x_val (.bool (decide (1 ≤ hv))) (by kernel_rfl) rfl (by kernel_rfl) ?_
              refine x_val (.bool (decide (1 ≤ hv))) (by kernel_rfl) rfl (by kernel_rfl) ?_
              refine x_val (.bool (decide (1 ≤ hv))) (by kernel_rfl) rfl (by kernel_rfl) ?_
              cases h5 : decide (1 ≤ hv)
              · skip
                have h5p := of_decide_eq_false h5
                refine x_skip (by kernel_rfl) ?_
                refine x_skip (by kernel_rfl) ?_
                refine x_skip (by kernel_rfl) ?_
                refine x_val (.bool false) (by kernel_rfl) rfl (by kernel_rfl) ?_
                refine x_val (.bool false) (by kernel_rfl) rfl (by kernel_rfl) ?_
                refine x_nil ?_
                refine x_then ?_
                exact ⟨false, (nthV [.agg #[.int .i64 rL, .int .i64 rE, .int .i64 0, .int .i64 0], .bool true, .bool true, .agg #[.int .i64 pL, .int .i64 pE, .int .i64 0, .int .i64 0], .bool true, .bool true, .bool true, .pointer (some ⟨g1, 4, none⟩), .int .i64 room, .bool true, .bool true, .bool true, .pointer (some ⟨g1, 4, none⟩), .int .i64 room, .bool true, .bool true, .bool true, .pointer (some ⟨g1, 5, none⟩), .int .i64 hv, .bool false, .bool false, .bool false, undef, undef, undef, .bool false]), (by kernel_rfl), H, (by simp only [Bool.false_eq_true, false_iff]; unfold Rul RR at *; omega)⟩
              · skip
                have h5p := of_decide_eq_true h5
                refine x_val (.pointer (some ⟨g1, 5, none⟩)) (by kernel_rfl) rfl (by kernel_rfl) ?_
                refine x_load1 H 2 g1 5 _ _ (.int .i64 hv) rfl (by kernel_rfl) (by kernel_rfl) rfl (by kernel_rfl) ?_
                refine x_val (.bool (decide (hv ≤ 65536))) (by kernel_rfl) rfl (by kernel_rfl) ?_
                refine x_val (.bool (decide (hv ≤ 65536))) (by kernel_rfl) rfl (by kernel_rfl) ?_
                refine x_val (.bool (decide (hv ≤ 65536))) (by kernel_rfl) rfl (by kernel_rfl) ?_
                refine x_nil ?_
                refine x_then ?_
                exact ⟨(decide (hv ≤ 65536)), (nthV [.agg #[.int .i64 rL, .int .i64 rE, .int .i64 0, .int .i64 0], .bool true, .bool true, .agg #[.int .i64 pL, .int .i64 pE, .int .i64 0, .int .i64 0], .bool true, .bool true, .bool true, .pointer (some ⟨g1, 4, none⟩), .int .i64 room, .bool true, .bool true, .bool true, .pointer (some ⟨g1, 4, none⟩), .int .i64 room, .bool true, .bool true, .bool true, .pointer (some ⟨g1, 5, none⟩), .int .i64 hv, .bool true, .bool true, .bool true, .pointer (some ⟨g1, 5, none⟩), .int .i64 hv, .bool (decide (hv ≤ 65536)), .bool (decide (hv ≤ 65536))]), (by kernel_rfl), H, (by simp only [decide_eq_true_eq, decide_eq_false_iff_not, Bool.false_eq_true, false_iff, true_iff]; unfold Rul RR at *; omega)⟩
    · skip
      clear H
      rintro _ v24 ⟨rb, uf2, rfl, H, r1⟩
      refine x_then ?_
      refine x_seq ?_
      refine x_region ?_
      refine x_loadn (t := 80) H 2 g1 0 _ _ [.int .i64 rL, .int .i64 rE, .int .i64 pL, .int .i64 pE, .int .i64 room, .int .i64 hv] rfl (by kernel_rfl) (by kernel_rfl) rfl (by kernel_rfl) (by kernel_rfl) ?_
      refine x_val (.int .i64 ranks) (by kernel_rfl) rfl (by kernel_rfl) ?_
      refine x_callB (.tuple #[.pointer none, .int .i64 22]) H (by kernel_rfl) rfl (by kernel_rfl) (TkNew_bad rL rE pL pE room hv ranks hb _) ?_
      clear H
      intro v25 H
      refine x_val (.tuple #[.pointer none, .int .i64 22]) (by kernel_rfl) rfl (by kernel_rfl) ?_
      refine x_val (.pointer none) (by kernel_rfl) rfl (by kernel_rfl) ?_
      refine x_val (.int .i64 22) (by kernel_rfl) rfl (by kernel_rfl) ?_
      refine x_val (.pointer none) (by kernel_rfl) rfl (by kernel_rfl) ?_
      refine x_val (.int .i64 22) (by kernel_rfl) rfl (by kernel_rfl) ?_
      refine x_nil ?_
      refine x_then ?_
      refine x_seq ?_
      refine x_block ?_
      refine x_seq ?_
      refine x_region ?_
      refine x_loadn (t := 80) H 2 g1 0 _ _ [.int .i64 rL, .int .i64 rE, .int .i64 pL, .int .i64 pE, .int .i64 room, .int .i64 hv] rfl (by kernel_rfl) (by kernel_rfl) rfl (by kernel_rfl) (by kernel_rfl) ?_
      refine x_callB (.bool false) H (by kernel_rfl) rfl (by kernel_rfl) (RulRight_no rL rE pL pE hv room hb _) ?_
      clear H
      intro v26 H
      refine x_val (.bool rb) (by kernel_rfl) rfl (by kernel_rfl) ?_
      refine x_val (.bool (false != rb)) (by kernel_rfl) rfl (by kernel_rfl) ?_
      refine x_val (.bool (false != rb)) (by kernel_rfl) rfl (by kernel_rfl) ?_
      refine x_nil ?_
      refine x_then ?_
      cases h6 : false != rb
      · skip
        refine x_f (by kernel_rfl) ?_
        refine x_seq ?_
        refine x_region ?_
        refine x_val (.bool rb) (by kernel_rfl) rfl (by kernel_rfl) ?_
        refine x_val (.bool (!rb)) (by kernel_rfl) rfl (by kernel_rfl) ?_
        refine x_val (.bool (!rb)) (by kernel_rfl) rfl (by kernel_rfl) ?_
        refine x_nil ?_
        refine x_then ?_
        cases h7 : rb
        · skip
          refine x_t (by kernel_rfl) ?_
          refine x_seq ?_
          refine x_region ?_
          refine x_val (.int .i64 22) (by kernel_rfl) rfl (by kernel_rfl) ?_
          refine x_val (.bool true) (by kernel_rfl) rfl (by kernel_rfl) ?_
          refine x_val (.bool true) (by kernel_rfl) rfl (by kernel_rfl) ?_
          refine x_val (.pointer none) (by kernel_rfl) rfl (by kernel_rfl) ?_
          refine x_val (.bool true) (by kernel_rfl) rfl (by kernel_rfl) ?_
          refine x_val (.bool true) (by kernel_rfl) rfl (by kernel_rfl) ?_
          refine x_val (.bool true) (by kernel_rfl) rfl (by kernel_rfl) ?_
          refine x_nil ?_
          refine x_then ?_
          refine x_retc ?_
          refine x_blk_ret ?_
          refine x_then_ret ?_
          refine x_ret (.bool true) (by kernel_rfl) (by kernel_rfl) ?_
          exact ⟨rfl, H.below⟩
        · skip
          exact absurd (r1.1 h7) hb
      · skip
        exact absurd (r1.1 (by simpa using h6)) hb

set_option maxRecDepth 100000 in
set_option maxHeartbeats 4000000 in
theorem plays18_rng (rL rE pL pE hv room ranks page : Int) (ad : Option Addr) (nA cA : Nat) (hR : Rul rL rE pL pE room hv) (hk : ranks < 1 ∨ 8 < ranks) (w0 : World) :
    Calls Try.prog 10 #[.agg #[.int .i64 rL, .int .i64 rE, .int .i64 pL, .int .i64 pE, .int .i64 room, .int .i64 hv], .int .i64 ranks, .slice ad nA cA, .int .i64 page] w0 fun e w' => e = .returned (.bool true) ∧ Below w0.heap.size w0 w' := by
  refine x_enter Try.func10 rfl #[.agg #[.int .i64 rL, .int .i64 rE, .int .i64 pL, .int .i64 pE, .int .i64 room, .int .i64 hv], .int .i64 ranks, .slice ad nA cA, .int .i64 page, undef, undef, undef, undef, undef, undef, undef, undef, undef, undef, undef, undef, undef, undef, undef, undef, undef, undef, undef, undef, undef, undef, undef, undef, undef, undef, undef, undef, undef, undef, undef, undef, undef, undef, undef, undef, undef, undef, undef, undef, undef, undef, undef, undef, undef, undef, undef, undef, undef, undef, undef, undef, undef, undef, undef, undef, undef, undef, undef, undef, undef, undef, undef, undef, undef, undef, undef, undef, undef, undef, undef, undef, undef, undef, undef, undef, undef, undef, undef, undef, undef, undef, undef, undef, undef, undef, undef, undef, undef, undef, undef, undef, undef, undef, undef, undef, undef, undef, undef, undef, undef, undef, undef, undef, undef, undef, undef, undef, undef, undef, undef, undef, undef, undef, undef, undef, undef, undef, undef, undef, undef, undef, undef, undef, undef, undef, undef, undef, undef, undef, undef, undef, undef, undef, undef, undef, undef, undef, undef, undef, undef, undef, undef, undef, undef, undef, undef] (by kernel_rfl) ?_
  have H := Hs.nil w0
  have qr0 : decide (1 ≤ room) = true := decide_eq_true hR.2.2.1.1
  have qr1 : decide (room ≤ 256) = true := decide_eq_true hR.2.2.1.2
  have qr2 : decide (1 ≤ hv) = true := decide_eq_true hR.2.2.2.1
  have qr3 : decide (hv ≤ 65536) = true := decide_eq_true hR.2.2.2.2
  refine x_seq ?_
  refine x_region ?_
  refine x_box H #[.int .i64 rL, .int .i64 rE, .int .i64 pL, .int .i64 pE, .int .i64 room, .int .i64 hv] 80 (by kernel_rfl) rfl (by kernel_rfl) ?_
  clear H
  intro v1 g1 H
  refine x_val (.bool false) (by kernel_rfl) rfl (by kernel_rfl) ?_
  refine x_nil ?_
  refine x_then ?_
  refine x_seq ?_
  refine x_seq ?_
  refine x_region ?_
  refine x_callB (.bool true) H (by kernel_rfl) rfl (by kernel_rfl) (anchor18 _) ?_
  clear H
  intro v2 H
  refine x_val (.bool false) (by kernel_rfl) rfl (by kernel_rfl) ?_
  refine x_nil ?_
  refine x_then ?_
  refine x_f (by kernel_rfl) ?_
  refine x_skipc ?_
  refine x_then ?_
  refine x_seq ?_
  refine x_cut (fun a w' => ∃ ga1 : Nat, ∃ ga2 : Nat, ∃ uf1 : Nat → Value, a = { tmps := #[.agg #[.int .i64 rL, .int .i64 rE, .int .i64 pL, .int .i64 pE, .int .i64 room, .int .i64 hv], .int .i64 ranks, .slice ad nA cA, .int .i64 page, .pointer (some ⟨g1, 0, none⟩), undef, undef, undef, .bool false, .pointer (some ⟨ga1, 0, none⟩), .pointer (some ⟨ga2, 0, none⟩), undef, undef, undef, undef, undef, undef, undef, undef, undef, .bool true, .bool false, (uf1 0), (uf1 1), (uf1 2), (uf1 3), (uf1 4), (uf1 5), (uf1 6), (uf1 7), undef, undef, undef, undef, undef, undef, undef, undef, undef, undef, undef, undef, undef, undef, undef, undef, undef, undef, undef, undef, undef, undef, undef, undef, undef, undef, undef, undef, undef, undef, undef, undef, undef, undef, undef, undef, undef, undef, undef, undef, undef, undef, undef, undef, undef, undef, undef, undef, undef, undef, undef, undef, undef, undef, undef, undef, undef, undef, undef, undef, undef, undef, undef, undef, undef, undef, undef, undef, undef, undef, undef, undef, undef, undef, undef, undef, undef, undef, undef, undef, undef, undef, undef, undef, undef, undef, undef, undef, undef, undef, undef, undef, undef, undef, undef, undef, undef, undef, undef, undef, undef, undef, undef, undef, undef, undef, undef, undef, undef, undef, undef, undef, undef, undef, undef, undef, undef, undef, undef, undef, undef], defers := [] } ∧ Hs [] w0 w' [.blk ga1 #[.int .i64 rL, .int .i64 rE, .int .i64 0, .int .i64 0] 119, .blk ga2 #[.int .i64 pL, .int .i64 pE, .int .i64 0, .int .i64 0] 119, .blk g1 #[.int .i64 rL, .int .i64 rE, .int .i64 pL, .int .i64 pE, .int .i64 room, .int .i64 hv] 80]) ?_ ?_
  · skip
    refine x_region_s 12 (fun w' => Hs [] w0 w' [.blk g1 #[.int .i64 rL, .int .i64 rE, .int .i64 pL, .int .i64 pE, .int .i64 room, .int .i64 hv] 80]) (fun w' => Hs [] w0 w' [.blk g1 #[.int .i64 rL, .int .i64 rE, .int .i64 pL, .int .i64 pE, .int .i64 room, .int .i64 hv] 80]) (by kernel_rfl) (by kernel_rfl) (by kernel_rfl) hsShut (fun _ h => h.pick [0] _ (by decide) (by kernel_rfl)) H.drew ?_
    refine s_quiet 0 rfl (by kernel_rfl) (y_val (.pointer (some ⟨g1, 0, none⟩)) (by kernel_rfl) (fun _ => by kernel_rfl)) ?_
    refine s_quiet 1 rfl (by kernel_rfl) (y_loadn (t := 78) 0 g1 0 #[.int .i64 rL, .int .i64 rE, .int .i64 pL, .int .i64 pE, .int .i64 room, .int .i64 hv] 80 [.int .i64 rL, .int .i64 rE] (by kernel_rfl) (by kernel_rfl) (by kernel_rfl) (by kernel_rfl) (by kernel_rfl)) ?_
    refine s_quiet 2 rfl (by kernel_rfl) (y_val (.agg #[.int .i64 0, .int .i64 0]) (by kernel_rfl) (fun _ => by kernel_rfl)) ?_
    refine s_quiet 3 rfl (by kernel_rfl) (y_callB (.agg #[.int .i64 rL, .int .i64 rE, .int .i64 0, .int .i64 0]) (by kernel_rfl) (fun _ => by kernel_rfl) (fun _ => (ofB rL rE 0 0 _))) ?_
    refine s_quiet 4 rfl (by kernel_rfl) (y_val (.pointer (some ⟨g1, 2, none⟩)) (by kernel_rfl) (fun _ => by kernel_rfl)) ?_
    refine s_quiet 5 rfl (by kernel_rfl) (y_loadn (t := 78) 0 g1 2 #[.int .i64 rL, .int .i64 rE, .int .i64 pL, .int .i64 pE, .int .i64 room, .int .i64 hv] 80 [.int .i64 pL, .int .i64 pE] (by kernel_rfl) (by kernel_rfl) (by kernel_rfl) (by kernel_rfl) (by kernel_rfl)) ?_
    refine s_quiet 6 rfl (by kernel_rfl) (y_val (.agg #[.int .i64 0, .int .i64 0]) (by kernel_rfl) (fun _ => by kernel_rfl)) ?_
    refine s_quiet 7 rfl (by kernel_rfl) (y_callB (.agg #[.int .i64 pL, .int .i64 pE, .int .i64 0, .int .i64 0]) (by kernel_rfl) (fun _ => by kernel_rfl) (fun _ => (ofB pL pE 0 0 _))) ?_
    refine s_two 8 9 rfl rfl (by kernel_rfl) rfl rfl ?_ ?_
    · skip
      clear H
      intro v3 H
      refine x_box H #[.int .i64 0, .int .i64 0, .int .i64 0, .int .i64 0] 119 (by kernel_rfl) rfl (by kernel_rfl) ?_
      clear H
      intro v4 g2 H
      refine x_nil ?_
      refine x_then ?_
      refine ⟨fun w' => Hs [] w0 w' [.blk g1 #[.int .i64 rL, .int .i64 rE, .int .i64 pL, .int .i64 pE, .int .i64 room, .int .i64 hv] 80], fun w' => Hs [] w0 w' [.blk g2 #[.int .i64 0, .int .i64 0, .int .i64 0, .int .i64 0] 119, .blk g1 #[.int .i64 rL, .int .i64 rE, .int .i64 pL, .int .i64 pE, .int .i64 room, .int .i64 hv] 80], H, hsShut, fun _ h => h.pick [1] _ (by decide) (by kernel_rfl), fun _ h => h.pick [0] _ (by decide) (by kernel_rfl), ?_⟩
      refine s_one 9 rfl (by kernel_rfl) rfl ?_
      clear H
      intro v5 H
      refine x_box H #[.int .i64 0, .int .i64 0, .int .i64 0, .int .i64 0] 119 (by kernel_rfl) rfl (by kernel_rfl) ?_
      clear H
      intro v6 g3 H
      refine x_nil ?_
      refine x_then ?_
      refine ⟨fun w' => Hs [] w0 w' [.blk g1 #[.int .i64 rL, .int .i64 rE, .int .i64 pL, .int .i64 pE, .int .i64 room, .int .i64 hv] 80], fun w' => Hs [] w0 w' [.blk g3 #[.int .i64 0, .int .i64 0, .int .i64 0, .int .i64 0] 119, .blk g2 #[.int .i64 0, .int .i64 0, .int .i64 0, .int .i64 0] 119, .blk g1 #[.int .i64 rL, .int .i64 rE, .int .i64 pL, .int .i64 pE, .int .i64 room, .int .i64 hv] 80], H, hsShut, fun _ h => h.pick [2] _ (by decide) (by kernel_rfl), fun _ h => h.pick [0] _ (by decide) (by kernel_rfl), ?_⟩
      refine s_one 10 rfl (by kernel_rfl) rfl ?_
      clear H
      intro v7 H
      refine x_store (t := 119) (v := .agg #[.int .i64 rL, .int .i64 rE, .int .i64 0, .int .i64 0]) H 1 g2 0 _ #[.int .i64 rL, .int .i64 rE, .int .i64 0, .int .i64 0] 119 [.int .i64 rL, .int .i64 rE, .int .i64 0, .int .i64 0] _ rfl rfl (by kernel_rfl) (by kernel_rfl) (by kernel_rfl) rfl (by kernel_rfl) (by kernel_rfl) (by kernel_rfl) (by kernel_rfl) ?_
      clear H
      intro v8 H
      refine x_nil ?_
      refine x_then ?_
      refine ⟨fun w' => Hs [] w0 w' [.blk g2 #[.int .i64 rL, .int .i64 rE, .int .i64 0, .int .i64 0] 119, .blk g1 #[.int .i64 rL, .int .i64 rE, .int .i64 pL, .int .i64 pE, .int .i64 room, .int .i64 hv] 80], fun w' => Hs [] w0 w' [.blk g3 #[.int .i64 0, .int .i64 0, .int .i64 0, .int .i64 0] 119, .blk g2 #[.int .i64 rL, .int .i64 rE, .int .i64 0, .int .i64 0] 119, .blk g1 #[.int .i64 rL, .int .i64 rE, .int .i64 pL, .int .i64 pE, .int .i64 room, .int .i64 hv] 80], H, hsShut, fun _ h => h.pick [1, 2] _ (by decide) (by kernel_rfl), fun _ h => h.pick [1] _ (by decide) (by kernel_rfl), ?_⟩
      refine s_one 11 rfl (by kernel_rfl) rfl ?_
      clear H
      intro v9 H
      refine x_store (t := 119) (v := .agg #[.int .i64 pL, .int .i64 pE, .int .i64 0, .int .i64 0]) H 0 g3 0 _ #[.int .i64 pL, .int .i64 pE, .int .i64 0, .int .i64 0] 119 [.int .i64 pL, .int .i64 pE, .int .i64 0, .int .i64 0] _ rfl rfl (by kernel_rfl) (by kernel_rfl) (by kernel_rfl) rfl (by kernel_rfl) (by kernel_rfl) (by kernel_rfl) (by kernel_rfl) ?_
      clear H
      intro v10 H
      refine x_nil ?_
      refine x_then ?_
      refine ⟨fun w' => Hs [] w0 w' [.blk g3 #[.int .i64 pL, .int .i64 pE, .int .i64 0, .int .i64 0] 119, .blk g2 #[.int .i64 rL, .int .i64 rE, .int .i64 0, .int .i64 0] 119, .blk g1 #[.int .i64 rL, .int .i64 rE, .int .i64 pL, .int .i64 pE, .int .i64 room, .int .i64 hv] 80], fun w' => Hs [] w0 w' [.blk g3 #[.int .i64 pL, .int .i64 pE, .int .i64 0, .int .i64 0] 119, .blk g2 #[.int .i64 rL, .int .i64 rE, .int .i64 0, .int .i64 0] 119, .blk g1 #[.int .i64 rL, .int .i64 rE, .int .i64 pL, .int .i64 pE, .int .i64 room, .int .i64 hv] 80], H, hsShut, fun _ h => h.pick [0, 1, 2] _ (by decide) (by kernel_rfl), fun _ h => h.pick [1, 2] _ (by decide) (by kernel_rfl), ?_⟩
      refine s_done (by kernel_rfl) ?_
      clear H
      intro v11 H
      refine x_then ?_
      replace H := H.pick [1, 0, 2] [.blk g2 #[.int .i64 rL, .int .i64 rE, .int .i64 0, .int .i64 0] 119, .blk g3 #[.int .i64 pL, .int .i64 pE, .int .i64 0, .int .i64 0] 119, .blk g1 #[.int .i64 rL, .int .i64 rE, .int .i64 pL, .int .i64 pE, .int .i64 room, .int .i64 hv] 80] (by decide) (by kernel_rfl)
      exact ⟨g2, g3, (nthV [.pointer (some ⟨g1, 0, none⟩), .agg #[.int .i64 rL, .int .i64 rE], .agg #[.int .i64 0, .int .i64 0], .agg #[.int .i64 rL, .int .i64 rE, .int .i64 0, .int .i64 0], .pointer (some ⟨g1, 2, none⟩), .agg #[.int .i64 pL, .int .i64 pE], .agg #[.int .i64 0, .int .i64 0], .agg #[.int .i64 pL, .int .i64 pE, .int .i64 0, .int .i64 0]]), (by kernel_rfl), H⟩
    · skip
      clear H
      intro v12 H
      refine x_box H #[.int .i64 0, .int .i64 0, .int .i64 0, .int .i64 0] 119 (by kernel_rfl) rfl (by kernel_rfl) ?_
      clear H
      intro v13 g4 H
      refine x_nil ?_
      refine x_then ?_
      refine ⟨fun w' => Hs [] w0 w' [.blk g1 #[.int .i64 rL, .int .i64 rE, .int .i64 pL, .int .i64 pE, .int .i64 room, .int .i64 hv] 80], fun w' => Hs [] w0 w' [.blk g4 #[.int .i64 0, .int .i64 0, .int .i64 0, .int .i64 0] 119, .blk g1 #[.int .i64 rL, .int .i64 rE, .int .i64 pL, .int .i64 pE, .int .i64 room, .int .i64 hv] 80], H, hsShut, fun _ h => h.pick [1] _ (by decide) (by kernel_rfl), fun _ h => h.pick [0] _ (by decide) (by kernel_rfl), ?_⟩
      refine s_one 8 rfl (by kernel_rfl) rfl ?_
      clear H
      intro v14 H
      refine x_box H #[.int .i64 0, .int .i64 0, .int .i64 0, .int .i64 0] 119 (by kernel_rfl) rfl (by kernel_rfl) ?_
      clear H
      intro v15 g5 H
      refine x_nil ?_
      refine x_then ?_
      refine ⟨fun w' => Hs [] w0 w' [.blk g1 #[.int .i64 rL, .int .i64 rE, .int .i64 pL, .int .i64 pE, .int .i64 room, .int .i64 hv] 80], fun w' => Hs [] w0 w' [.blk g5 #[.int .i64 0, .int .i64 0, .int .i64 0, .int .i64 0] 119, .blk g4 #[.int .i64 0, .int .i64 0, .int .i64 0, .int .i64 0] 119, .blk g1 #[.int .i64 rL, .int .i64 rE, .int .i64 pL, .int .i64 pE, .int .i64 room, .int .i64 hv] 80], H, hsShut, fun _ h => h.pick [2] _ (by decide) (by kernel_rfl), fun _ h => h.pick [0] _ (by decide) (by kernel_rfl), ?_⟩
      refine s_one 10 rfl (by kernel_rfl) rfl ?_
      clear H
      intro v16 H
      refine x_store (t := 119) (v := .agg #[.int .i64 rL, .int .i64 rE, .int .i64 0, .int .i64 0]) H 0 g5 0 _ #[.int .i64 rL, .int .i64 rE, .int .i64 0, .int .i64 0] 119 [.int .i64 rL, .int .i64 rE, .int .i64 0, .int .i64 0] [.blk g5 #[.int .i64 rL, .int .i64 rE, .int .i64 0, .int .i64 0] 119, .blk g4 #[.int .i64 0, .int .i64 0, .int .i64 0, .int .i64 0] 119, .blk g1 #[.int .i64 rL, .int .i64 rE, .int .i64 pL, .int .i64 pE, .int .i64 room, .int .i64 hv] 80] rfl rfl (by kernel_rfl) (by kernel_rfl) (by kernel_rfl) (by kernel_rfl) (by kernel_rfl) (by kernel_rfl) (by kernel_rfl) (by kernel_rfl) ?_
      clear H
      intro v17 H
      refine x_nil ?_
      refine x_then ?_
      refine ⟨fun w' => Hs [] w0 w' [.blk g1 #[.int .i64 rL, .int .i64 rE, .int .i64 pL, .int .i64 pE, .int .i64 room, .int .i64 hv] 80], fun w' => Hs [] w0 w' [.blk g5 #[.int .i64 rL, .int .i64 rE, .int .i64 0, .int .i64 0] 119, .blk g4 #[.int .i64 0, .int .i64 0, .int .i64 0, .int .i64 0] 119, .blk g1 #[.int .i64 rL, .int .i64 rE, .int .i64 pL, .int .i64 pE, .int .i64 room, .int .i64 hv] 80], H, hsShut, fun _ h => h.pick [2] _ (by decide) (by kernel_rfl), fun _ h => h.pick [0] _ (by decide) (by kernel_rfl), ?_⟩
      refine s_one 11 rfl (by kernel_rfl) rfl ?_
      clear H
      intro v18 H
      refine x_store (t := 119) (v := .agg #[.int .i64 pL, .int .i64 pE, .int .i64 0, .int .i64 0]) H 1 g4 0 _ #[.int .i64 pL, .int .i64 pE, .int .i64 0, .int .i64 0] 119 [.int .i64 pL, .int .i64 pE, .int .i64 0, .int .i64 0] _ rfl rfl (by kernel_rfl) (by kernel_rfl) (by kernel_rfl) rfl (by kernel_rfl) (by kernel_rfl) (by kernel_rfl) (by kernel_rfl) ?_
      clear H
      intro v19 H
      refine x_nil ?_
      refine x_then ?_
      refine ⟨fun w' => Hs [] w0 w' [.blk g1 #[.int .i64 rL, .int .i64 rE, .int .i64 pL, .int .i64 pE, .int .i64 room, .int .i64 hv] 80], fun w' => Hs [] w0 w' [.blk g5 #[.int .i64 rL, .int .i64 rE, .int .i64 0, .int .i64 0] 119, .blk g4 #[.int .i64 pL, .int .i64 pE, .int .i64 0, .int .i64 0] 119, .blk g1 #[.int .i64 rL, .int .i64 rE, .int .i64 pL, .int .i64 pE, .int .i64 room, .int .i64 hv] 80], H, hsShut, fun _ h => h.pick [2] _ (by decide) (by kernel_rfl), fun _ h => h.pick [0] _ (by decide) (by kernel_rfl), ?_⟩
      refine s_done (by kernel_rfl) ?_
      clear H
      intro v20 H
      refine x_then ?_
      replace H := H.pick [0, 1, 2] [.blk g5 #[.int .i64 rL, .int .i64 rE, .int .i64 0, .int .i64 0] 119, .blk g4 #[.int .i64 pL, .int .i64 pE, .int .i64 0, .int .i64 0] 119, .blk g1 #[.int .i64 rL, .int .i64 rE, .int .i64 pL, .int .i64 pE, .int .i64 room, .int .i64 hv] 80] (by decide) (by kernel_rfl)
      exact ⟨g5, g4, (nthV [.pointer (some ⟨g1, 0, none⟩), .agg #[.int .i64 rL, .int .i64 rE], .agg #[.int .i64 0, .int .i64 0], .agg #[.int .i64 rL, .int .i64 rE, .int .i64 0, .int .i64 0], .pointer (some ⟨g1, 2, none⟩), .agg #[.int .i64 pL, .int .i64 pE], .agg #[.int .i64 0, .int .i64 0], .agg #[.int .i64 pL, .int .i64 pE, .int .i64 0, .int .i64 0]]), (by kernel_rfl), H⟩
  · skip
    clear H
    rintro _ v21 ⟨ga1, ga2, uf1, rfl, H⟩
    refine x_then ?_
    refine x_seq ?_
    refine x_region ?_
    refine x_loadn (t := 119) H 0 ga1 0 _ _ [.int .i64 rL, .int .i64 rE, .int .i64 0, .int .i64 0] rfl (by kernel_rfl) (by kernel_rfl) rfl (by kernel_rfl) (by kernel_rfl) ?_
    refine x_callB (.bool true) H (by kernel_rfl) rfl (by kernel_rfl) (DRight0 rL rE hR.1 _) ?_
    clear H
    intro v22 H
    refine x_val (.bool true) (by kernel_rfl) rfl (by kernel_rfl) ?_
    refine x_loadn (t := 119) H 1 ga2 0 _ _ [.int .i64 pL, .int .i64 pE, .int .i64 0, .int .i64 0] rfl (by kernel_rfl) (by kernel_rfl) rfl (by kernel_rfl) (by kernel_rfl) ?_
    refine x_callB (.bool true) H (by kernel_rfl) rfl (by kernel_rfl) (DRight0 pL pE hR.2.1 _) ?_
    clear H
    intro v23 H
    refine x_val (.bool true) (by kernel_rfl) rfl (by kernel_rfl) ?_
    refine x_val (.bool true) (by kernel_rfl) rfl (by kernel_rfl) ?_
    refine x_val (.pointer (some ⟨g1, 4, none⟩)) (by kernel_rfl) rfl (by kernel_rfl) ?_
    refine x_load1 H 2 g1 4 _ _ (.int .i64 room) rfl (by kernel_rfl) (by kernel_rfl) rfl (by kernel_rfl) ?_
    refine x_val (.bool (decide (1 ≤ room))) (by kernel_rfl) rfl (by kernel_rfl) ?_
    refine x_val (.bool (decide (1 ≤ room))) (by kernel_rfl) rfl (by kernel_rfl) ?_
    refine x_val (.bool (decide (1 ≤ room))) (by kernel_rfl) rfl (by kernel_rfl) ?_
    rw [qr0]
    refine x_val (.pointer (some ⟨g1, 4, none⟩)) (by kernel_rfl) rfl (by kernel_rfl) ?_
    refine x_load1 H 2 g1 4 _ _ (.int .i64 room) rfl (by kernel_rfl) (by kernel_rfl) rfl (by kernel_rfl) ?_
    refine x_val (.bool (decide (room ≤ 256))) (by kernel_rfl) rfl (by kernel_rfl) ?_
    refine x_val (.bool (decide (room ≤ 256))) (by kernel_rfl) rfl (by kernel_rfl) ?_
    refine x_val (.bool (decide (room ≤ 256))) (by kernel_rfl) rfl (by kernel_rfl) ?_
    rw [qr1]
    refine x_val (.pointer (some ⟨g1, 5, none⟩)) (by kernel_rfl) rfl (by kernel_rfl) ?_
    refine x_load1 H 2 g1 5 _ _ (.int .i64 hv) rfl (by kernel_rfl) (by kernel_rfl) rfl (by kernel_rfl) ?_
    refine x_val (.bool (decide (1 ≤ hv))) (by kernel_rfl) rfl (by kernel_rfl) ?_
    refine x_val (.bool (decide (1 ≤ hv))) (by kernel_rfl) rfl (by kernel_rfl) ?_
    refine x_val (.bool (decide (1 ≤ hv))) (by kernel_rfl) rfl (by kernel_rfl) ?_
    rw [qr2]
    refine x_val (.pointer (some ⟨g1, 5, none⟩)) (by kernel_rfl) rfl (by kernel_rfl) ?_
    refine x_load1 H 2 g1 5 _ _ (.int .i64 hv) rfl (by kernel_rfl) (by kernel_rfl) rfl (by kernel_rfl) ?_
    refine x_val (.bool (decide (hv ≤ 65536))) (by kernel_rfl) rfl (by kernel_rfl) ?_
    refine x_val (.bool (decide (hv ≤ 65536))) (by kernel_rfl) rfl (by kernel_rfl) ?_
    refine x_val (.bool (decide (hv ≤ 65536))) (by kernel_rfl) rfl (by kernel_rfl) ?_
    refine x_nil ?_
    refine x_then ?_
    refine x_seq ?_
    refine x_region ?_
    refine x_loadn (t := 80) H 2 g1 0 _ _ [.int .i64 rL, .int .i64 rE, .int .i64 pL, .int .i64 pE, .int .i64 room, .int .i64 hv] rfl (by kernel_rfl) (by kernel_rfl) rfl (by kernel_rfl) (by kernel_rfl) ?_
    refine x_val (.int .i64 ranks) (by kernel_rfl) rfl (by kernel_rfl) ?_
    refine x_callB (.tuple #[.pointer none, .int .i64 12]) H (by kernel_rfl) rfl (by kernel_rfl) (TkNew_rng rL rE pL pE room hv ranks hR hk _) ?_
    clear H
    intro v24 H
    refine x_val (.tuple #[.pointer none, .int .i64 12]) (by kernel_rfl) rfl (by kernel_rfl) ?_
    refine x_val (.pointer none) (by kernel_rfl) rfl (by kernel_rfl) ?_
    refine x_val (.int .i64 12) (by kernel_rfl) rfl (by kernel_rfl) ?_
    refine x_val (.pointer none) (by kernel_rfl) rfl (by kernel_rfl) ?_
    refine x_val (.int .i64 12) (by kernel_rfl) rfl (by kernel_rfl) ?_
    refine x_nil ?_
    refine x_then ?_
    refine x_seq ?_
    refine x_block ?_
    refine x_seq ?_
    refine x_region ?_
    refine x_loadn (t := 80) H 2 g1 0 _ _ [.int .i64 rL, .int .i64 rE, .int .i64 pL, .int .i64 pE, .int .i64 room, .int .i64 hv] rfl (by kernel_rfl) (by kernel_rfl) rfl (by kernel_rfl) (by kernel_rfl) ?_
    refine x_callB (.bool true) H (by kernel_rfl) rfl (by kernel_rfl) (RulRight_yes rL rE pL pE hv room hR _) ?_
    clear H
    intro v25 H
    refine x_val (.bool (decide (hv ≤ 65536))) (by kernel_rfl) rfl (by kernel_rfl) ?_
    refine x_val (.bool (true != (decide (hv ≤ 65536)))) (by kernel_rfl) rfl (by kernel_rfl) ?_
    refine x_val (.bool (true != (decide (hv ≤ 65536)))) (by kernel_rfl) rfl (by kernel_rfl) ?_
    refine x_nil ?_
    refine x_then ?_
    cases h1 : true != (decide (hv ≤ 65536))
    · skip
      refine x_f (by kernel_rfl) ?_
      refine x_seq ?_
      refine x_region ?_
      refine x_val (.bool (decide (hv ≤ 65536))) (by kernel_rfl) rfl (by kernel_rfl) ?_
      refine x_val (.bool (!(decide (hv ≤ 65536)))) (by kernel_rfl) rfl (by kernel_rfl) ?_
      refine x_val (.bool (!(decide (hv ≤ 65536)))) (by kernel_rfl) rfl (by kernel_rfl) ?_
      refine x_nil ?_
      refine x_then ?_
      rw [qr3]
      refine x_f (by kernel_rfl) ?_
      refine x_seq ?_
      refine x_region ?_
      refine x_val (.int .i64 ranks) (by kernel_rfl) rfl (by kernel_rfl) ?_
      refine x_val (.bool (decide (ranks < 1))) (by kernel_rfl) rfl (by kernel_rfl) ?_
      refine x_val (.bool (decide (ranks < 1))) (by kernel_rfl) rfl (by kernel_rfl) ?_
      cases h2 : decide (ranks < 1)
      · skip
        have h2p := of_decide_eq_false h2
        refine x_val (.int .i64 ranks) (by kernel_rfl) rfl (by kernel_rfl) ?_
        refine x_val (.bool (decide (8 < ranks))) (by kernel_rfl) rfl (by kernel_rfl) ?_
        refine x_val (.bool (decide (8 < ranks))) (by kernel_rfl) rfl (by kernel_rfl) ?_
        refine x_val (.bool (decide (8 < ranks))) (by kernel_rfl) rfl (by kernel_rfl) ?_
        refine x_nil ?_
        refine x_then ?_
        cases h3 : decide (8 < ranks)
        · skip
          have h3p := of_decide_eq_false h3
          refine x_f (by kernel_rfl) ?_
          refine x_seq ?_
          refine x_region ?_
          refine x_val (.int .i64 12) (by kernel_rfl) rfl (by kernel_rfl) ?_
          refine x_val (.bool true) (by kernel_rfl) rfl (by kernel_rfl) ?_
          refine x_val (.bool true) (by kernel_rfl) rfl (by kernel_rfl) ?_
          refine x_skip (by kernel_rfl) ?_
          refine x_skip (by kernel_rfl) ?_
          refine x_val (.bool true) (by kernel_rfl) rfl (by kernel_rfl) ?_
          refine x_val (.bool true) (by kernel_rfl) rfl (by kernel_rfl) ?_
          refine x_nil ?_
          refine x_then ?_
          refine x_t (by kernel_rfl) ?_
          refine x_seq ?_
          refine x_region ?_
          refine x_val (.bool false) (by kernel_rfl) rfl (by kernel_rfl) ?_
          refine x_nil ?_
          refine x_then ?_
          refine x_retc ?_
          refine x_blk_ret ?_
          refine x_then_ret ?_
          refine x_ret (.bool false) (by kernel_rfl) (by kernel_rfl) ?_
          exfalso; omega
        · skip
          have h3p := of_decide_eq_true h3
          refine x_t (by kernel_rfl) ?_
          refine x_seq ?_
          refine x_region ?_
          refine x_val (.int .i64 12) (by kernel_rfl) rfl (by kernel_rfl) ?_
          refine x_val (.bool true) (by kernel_rfl) rfl (by kernel_rfl) ?_
          refine x_val (.bool true) (by kernel_rfl) rfl (by kernel_rfl) ?_
          refine x_val (.pointer none) (by kernel_rfl) rfl (by kernel_rfl) ?_
          refine x_val (.bool true) (by kernel_rfl) rfl (by kernel_rfl) ?_
          refine x_val (.bool true) (by kernel_rfl) rfl (by kernel_rfl) ?_
          refine x_val (.bool true) (by kernel_rfl) rfl (by kernel_rfl) ?_
          refine x_nil ?_
          refine x_then ?_
          refine x_retc ?_
          refine x_blk_ret ?_
          refine x_then_ret ?_
          refine x_ret (.bool true) (by kernel_rfl) (by kernel_rfl) ?_
          exact ⟨rfl, H.below⟩
      · skip
        have h2p := of_decide_eq_true h2
        refine x_skip (by kernel_rfl) ?_
        refine x_skip (by kernel_rfl) ?_
        refine x_val (.bool true) (by kernel_rfl) rfl (by kernel_rfl) ?_
        refine x_val (.bool true) (by kernel_rfl) rfl (by kernel_rfl) ?_
        refine x_nil ?_
        refine x_then ?_
        refine x_t (by kernel_rfl) ?_
        refine x_seq ?_
        refine x_region ?_
        refine x_val (.int .i64 12) (by kernel_rfl) rfl (by kernel_rfl) ?_
        refine x_val (.bool true) (by kernel_rfl) rfl (by kernel_rfl) ?_
        refine x_val (.bool true) (by kernel_rfl) rfl (by kernel_rfl) ?_
        refine x_val (.pointer none) (by kernel_rfl) rfl (by kernel_rfl) ?_
        refine x_val (.bool true) (by kernel_rfl) rfl (by kernel_rfl) ?_
        refine x_val (.bool true) (by kernel_rfl) rfl (by kernel_rfl) ?_
        refine x_val (.bool true) (by kernel_rfl) rfl (by kernel_rfl) ?_
        refine x_nil ?_
        refine x_then ?_
        refine x_retc ?_
        refine x_blk_ret ?_
        refine x_then_ret ?_
        refine x_ret (.bool true) (by kernel_rfl) (by kernel_rfl) ?_
        exact ⟨rfl, H.below⟩
    · skip
      exact absurd h1 (by rw [qr3]; decide)

theorem tsame {M : List Nat} {p t gr : Nat} {sv rv pv : Value} {rs : List Buk} {xs : List PairB} {ranks room : Nat} {rL rE pL pE hv : Int} (hk : TOk ranks room rE pE rs xs) (hP : TP ranks room rL rE pL pE) (hu : UnlB xs) (w0 : World) (H0 : Hs M w0 w0 [.blk p #[.int .i64 rL, .int .i64 rE, .int .i64 pL, .int .i64 pE, .int .i64 ((room : Nat) : Int), .int .i64 hv, .slice (some ⟨gr, 0, none⟩) ranks ranks, .pointer (some ⟨t, 0, none⟩)] 187, .row (.slice (some ⟨gr, 0, none⟩) ranks ranks) 86 2 ranks (List.flatMap bukL rs), .blk t #[sv, .int .i64 ((room : Nat) : Int), .func (.func 103) #[] #[]] 228, .row (sv) 230 3 (List.length xs) (List.flatMap pairLB xs), .row (rv) 119 4 (List.length rs) (List.flatMap (dbL rL rE) rs), .row (pv) 206 5 (List.length xs) (List.flatMap (dpL pL pE) xs)]) : Calls Try.prog 65 #[.pointer (some ⟨p, 0, none⟩), .agg #[rv, pv, .int .i64 pL, .int .i64 pE, .int .i64 0, .int .i64 0, .int .i64 ((room : Nat) : Int)], .agg #[.int .i64 rL, .int .i64 rE, .int .i64 pL, .int .i64 pE, .int .i64 ((room : Nat) : Int), .int .i64 hv]] w0 fun e w' => e = .returned (.bool true) ∧ Hs M w0 w' [.blk p #[.int .i64 rL, .int .i64 rE, .int .i64 pL, .int .i64 pE, .int .i64 ((room : Nat) : Int), .int .i64 hv, .slice (some ⟨gr, 0, none⟩) ranks ranks, .pointer (some ⟨t, 0, none⟩)] 187, .row (.slice (some ⟨gr, 0, none⟩) ranks ranks) 86 2 ranks (List.flatMap bukL rs), .blk t #[sv, .int .i64 ((room : Nat) : Int), .func (.func 103) #[] #[]] 228, .row (sv) 230 3 (List.length xs) (List.flatMap pairLB xs), .row (rv) 119 4 (List.length rs) (List.flatMap (dbL rL rE) rs), .row (pv) 206 5 (List.length xs) (List.flatMap (dpL pL pE) xs)] := by
  have hkn := hk.n
  have hP1 := hP.one
  rcases H0.rowForm 4 rfl with ⟨rfl, h0⟩ | ⟨gd, capd, rfl, hcd, _⟩
  · omega
  · exact tsame_s hk hP hu w0 H0

set_option maxRecDepth 100000 in
set_option maxHeartbeats 4000000 in
theorem plays18_yes (rL rE pL pE hv : Int) (room ranks : Nat) (ad : Option Addr) (nA cA : Nat) (page : Int) (hR : Rul rL rE pL pE ((room : Nat) : Int) hv) (hn1 : 1 ≤ ranks) (hn2 : ranks ≤ 8) (l : List Int4) (w0 : World) (hA : RAt int4L 4 (0, 0, 0, 0) w0 ad nA l) :
    Calls Try.prog 10 #[.agg #[.int .i64 rL, .int .i64 rE, .int .i64 pL, .int .i64 pE, .int .i64 ((room : Nat) : Int), .int .i64 hv], .int .i64 ((ranks : Nat) : Int), .slice ad nA cA, .int .i64 page] w0 fun e w' => e = .returned (.bool true) ∧ Below w0.heap.size w0 w' := by
  refine x_enter Try.func10 rfl #[.agg #[.int .i64 rL, .int .i64 rE, .int .i64 pL, .int .i64 pE, .int .i64 ((room : Nat) : Int), .int .i64 hv], .int .i64 ((ranks : Nat) : Int), .slice ad nA cA, .int .i64 page, undef, undef, undef, undef, undef, undef, undef, undef, undef, undef, undef, undef, undef, undef, undef, undef, undef, undef, undef, undef, undef, undef, undef, undef, undef, undef, undef, undef, undef, undef, undef, undef, undef, undef, undef, undef, undef, undef, undef, undef, undef, undef, undef, undef, undef, undef, undef, undef, undef, undef, undef, undef, undef, undef, undef, undef, undef, undef, undef, undef, undef, undef, undef, undef, undef, undef, undef, undef, undef, undef, undef, undef, undef, undef, undef, undef, undef, undef, undef, undef, undef, undef, undef, undef, undef, undef, undef, undef, undef, undef, undef, undef, undef, undef, undef, undef, undef, undef, undef, undef, undef, undef, undef, undef, undef, undef, undef, undef, undef, undef, undef, undef, undef, undef, undef, undef, undef, undef, undef, undef, undef, undef, undef, undef, undef, undef, undef, undef, undef, undef, undef, undef, undef, undef, undef, undef, undef, undef, undef, undef, undef, undef, undef, undef, undef, undef, undef] (by kernel_rfl) ?_
  have H := Hs.nil w0
  have qr0 : decide (1 ≤ ((room : Nat) : Int)) = true := decide_eq_true hR.2.2.1.1
  have qr1 : decide (((room : Nat) : Int) ≤ 256) = true := decide_eq_true hR.2.2.1.2
  have qr2 : decide (1 ≤ hv) = true := decide_eq_true hR.2.2.2.1
  have qr3 : decide (hv ≤ 65536) = true := decide_eq_true hR.2.2.2.2
  have qk1 : decide (((ranks : Nat) : Int) < 1) = false := decide_eq_false (by omega)
  have qk2 : decide (8 < ((ranks : Nat) : Int)) = false := decide_eq_false (by omega)
  refine x_seq ?_
  refine x_region ?_
  refine x_box H #[.int .i64 rL, .int .i64 rE, .int .i64 pL, .int .i64 pE, .int .i64 ((room : Nat) : Int), .int .i64 hv] 80 (by kernel_rfl) rfl (by kernel_rfl) ?_
  clear H
  intro v1 g1 H
  refine x_val (.bool false) (by kernel_rfl) rfl (by kernel_rfl) ?_
  refine x_nil ?_
  refine x_then ?_
  refine x_seq ?_
  refine x_seq ?_
  refine x_region ?_
  refine x_callB (.bool true) H (by kernel_rfl) rfl (by kernel_rfl) (anchor18 _) ?_
  clear H
  intro v2 H
  refine x_val (.bool false) (by kernel_rfl) rfl (by kernel_rfl) ?_
  refine x_nil ?_
  refine x_then ?_
  refine x_f (by kernel_rfl) ?_
  refine x_skipc ?_
  refine x_then ?_
  refine x_seq ?_
  refine x_cut (fun a w' => ∃ ga1 : Nat, ∃ ga2 : Nat, ∃ uf1 : Nat → Value, a = { tmps := #[.agg #[.int .i64 rL, .int .i64 rE, .int .i64 pL, .int .i64 pE, .int .i64 ((room : Nat) : Int), .int .i64 hv], .int .i64 ((ranks : Nat) : Int), .slice ad nA cA, .int .i64 page, .pointer (some ⟨g1, 0, none⟩), undef, undef, undef, .bool false, .pointer (some ⟨ga1, 0, none⟩), .pointer (some ⟨ga2, 0, none⟩), undef, undef, undef, undef, undef, undef, undef, undef, undef, .bool true, .bool false, (uf1 0), (uf1 1), (uf1 2), (uf1 3), (uf1 4), (uf1 5), (uf1 6), (uf1 7), undef, undef, undef, undef, undef, undef, undef, undef, undef, undef, undef, undef, undef, undef, undef, undef, undef, undef, undef, undef, undef, undef, undef, undef, undef, undef, undef, undef, undef, undef, undef, undef, undef, undef, undef, undef, undef, undef, undef, undef, undef, undef, undef, undef, undef, undef, undef, undef, undef, undef, undef, undef, undef, undef, undef, undef, undef, undef, undef, undef, undef, undef, undef, undef, undef, undef, undef, undef, undef, undef, undef, undef, undef, undef, undef, undef, undef, undef, undef, undef, undef, undef, undef, undef, undef, undef, undef, undef, undef, undef, undef, undef, undef, undef, undef, undef, undef, undef, undef, undef, undef, undef, undef, undef, undef, undef, undef, undef, undef, undef, undef, undef, undef, undef, undef, undef, undef, undef, undef, undef, undef], defers := [] } ∧ Hs [] w0 w' [.blk ga1 #[.int .i64 rL, .int .i64 rE, .int .i64 0, .int .i64 0] 119, .blk ga2 #[.int .i64 pL, .int .i64 pE, .int .i64 0, .int .i64 0] 119, .blk g1 #[.int .i64 rL, .int .i64 rE, .int .i64 pL, .int .i64 pE, .int .i64 ((room : Nat) : Int), .int .i64 hv] 80]) ?_ ?_
  · skip
    refine x_region_s 12 (fun w' => Hs [] w0 w' [.blk g1 #[.int .i64 rL, .int .i64 rE, .int .i64 pL, .int .i64 pE, .int .i64 ((room : Nat) : Int), .int .i64 hv] 80]) (fun w' => Hs [] w0 w' [.blk g1 #[.int .i64 rL, .int .i64 rE, .int .i64 pL, .int .i64 pE, .int .i64 ((room : Nat) : Int), .int .i64 hv] 80]) (by kernel_rfl) (by kernel_rfl) (by kernel_rfl) hsShut (fun _ h => h.pick [0] _ (by decide) (by kernel_rfl)) H.drew ?_
    refine s_quiet 0 rfl (by kernel_rfl) (y_val (.pointer (some ⟨g1, 0, none⟩)) (by kernel_rfl) (fun _ => by kernel_rfl)) ?_
    refine s_quiet 1 rfl (by kernel_rfl) (y_loadn (t := 78) 0 g1 0 #[.int .i64 rL, .int .i64 rE, .int .i64 pL, .int .i64 pE, .int .i64 ((room : Nat) : Int), .int .i64 hv] 80 [.int .i64 rL, .int .i64 rE] (by kernel_rfl) (by kernel_rfl) (by kernel_rfl) (by kernel_rfl) (by kernel_rfl)) ?_
    refine s_quiet 2 rfl (by kernel_rfl) (y_val (.agg #[.int .i64 0, .int .i64 0]) (by kernel_rfl) (fun _ => by kernel_rfl)) ?_
    refine s_quiet 3 rfl (by kernel_rfl) (y_callB (.agg #[.int .i64 rL, .int .i64 rE, .int .i64 0, .int .i64 0]) (by kernel_rfl) (fun _ => by kernel_rfl) (fun _ => (ofB rL rE 0 0 _))) ?_
    refine s_quiet 4 rfl (by kernel_rfl) (y_val (.pointer (some ⟨g1, 2, none⟩)) (by kernel_rfl) (fun _ => by kernel_rfl)) ?_
    refine s_quiet 5 rfl (by kernel_rfl) (y_loadn (t := 78) 0 g1 2 #[.int .i64 rL, .int .i64 rE, .int .i64 pL, .int .i64 pE, .int .i64 ((room : Nat) : Int), .int .i64 hv] 80 [.int .i64 pL, .int .i64 pE] (by kernel_rfl) (by kernel_rfl) (by kernel_rfl) (by kernel_rfl) (by kernel_rfl)) ?_
    refine s_quiet 6 rfl (by kernel_rfl) (y_val (.agg #[.int .i64 0, .int .i64 0]) (by kernel_rfl) (fun _ => by kernel_rfl)) ?_
    refine s_quiet 7 rfl (by kernel_rfl) (y_callB (.agg #[.int .i64 pL, .int .i64 pE, .int .i64 0, .int .i64 0]) (by kernel_rfl) (fun _ => by kernel_rfl) (fun _ => (ofB pL pE 0 0 _))) ?_
    refine s_two 8 9 rfl rfl (by kernel_rfl) rfl rfl ?_ ?_
    · skip
      clear H
      intro v3 H
      refine x_box H #[.int .i64 0, .int .i64 0, .int .i64 0, .int .i64 0] 119 (by kernel_rfl) rfl (by kernel_rfl) ?_
      clear H
      intro v4 g2 H
      refine x_nil ?_
      refine x_then ?_
      refine ⟨fun w' => Hs [] w0 w' [.blk g1 #[.int .i64 rL, .int .i64 rE, .int .i64 pL, .int .i64 pE, .int .i64 ((room : Nat) : Int), .int .i64 hv] 80], fun w' => Hs [] w0 w' [.blk g2 #[.int .i64 0, .int .i64 0, .int .i64 0, .int .i64 0] 119, .blk g1 #[.int .i64 rL, .int .i64 rE, .int .i64 pL, .int .i64 pE, .int .i64 ((room : Nat) : Int), .int .i64 hv] 80], H, hsShut, fun _ h => h.pick [1] _ (by decide) (by kernel_rfl), fun _ h => h.pick [0] _ (by decide) (by kernel_rfl), ?_⟩
      refine s_one 9 rfl (by kernel_rfl) rfl ?_
      clear H
      intro v5 H
      refine x_box H #[.int .i64 0, .int .i64 0, .int .i64 0, .int .i64 0] 119 (by kernel_rfl) rfl (by kernel_rfl) ?_
      clear H
      intro v6 g3 H
      refine x_nil ?_
      refine x_then ?_
      refine ⟨fun w' => Hs [] w0 w' [.blk g1 #[.int .i64 rL, .int .i64 rE, .int .i64 pL, .int .i64 pE, .int .i64 ((room : Nat) : Int), .int .i64 hv] 80], fun w' => Hs [] w0 w' [.blk g3 #[.int .i64 0, .int .i64 0, .int .i64 0, .int .i64 0] 119, .blk g2 #[.int .i64 0, .int .i64 0, .int .i64 0, .int .i64 0] 119, .blk g1 #[.int .i64 rL, .int .i64 rE, .int .i64 pL, .int .i64 pE, .int .i64 ((room : Nat) : Int), .int .i64 hv] 80], H, hsShut, fun _ h => h.pick [2] _ (by decide) (by kernel_rfl), fun _ h => h.pick [0] _ (by decide) (by kernel_rfl), ?_⟩
      refine s_one 10 rfl (by kernel_rfl) rfl ?_
      clear H
      intro v7 H
      refine x_store (t := 119) (v := .agg #[.int .i64 rL, .int .i64 rE, .int .i64 0, .int .i64 0]) H 1 g2 0 _ #[.int .i64 rL, .int .i64 rE, .int .i64 0, .int .i64 0] 119 [.int .i64 rL, .int .i64 rE, .int .i64 0, .int .i64 0] _ rfl rfl (by kernel_rfl) (by kernel_rfl) (by kernel_rfl) rfl (by kernel_rfl) (by kernel_rfl) (by kernel_rfl) (by kernel_rfl) ?_
      clear H
      intro v8 H
      refine x_nil ?_
      refine x_then ?_
      refine ⟨fun w' => Hs [] w0 w' [.blk g2 #[.int .i64 rL, .int .i64 rE, .int .i64 0, .int .i64 0] 119, .blk g1 #[.int .i64 rL, .int .i64 rE, .int .i64 pL, .int .i64 pE, .int .i64 ((room : Nat) : Int), .int .i64 hv] 80], fun w' => Hs [] w0 w' [.blk g3 #[.int .i64 0, .int .i64 0, .int .i64 0, .int .i64 0] 119, .blk g2 #[.int .i64 rL, .int .i64 rE, .int .i64 0, .int .i64 0] 119, .blk g1 #[.int .i64 rL, .int .i64 rE, .int .i64 pL, .int .i64 pE, .int .i64 ((room : Nat) : Int), .int .i64 hv] 80], H, hsShut, fun _ h => h.pick [1, 2] _ (by decide) (by kernel_rfl), fun _ h => h.pick [1] _ (by decide) (by kernel_rfl), ?_⟩
      refine s_one 11 rfl (by kernel_rfl) rfl ?_
      clear H
      intro v9 H
      refine x_store (t := 119) (v := .agg #[.int .i64 pL, .int .i64 pE, .int .i64 0, .int .i64 0]) H 0 g3 0 _ #[.int .i64 pL, .int .i64 pE, .int .i64 0, .int .i64 0] 119 [.int .i64 pL, .int .i64 pE, .int .i64 0, .int .i64 0] _ rfl rfl (by kernel_rfl) (by kernel_rfl) (by kernel_rfl) rfl (by kernel_rfl) (by kernel_rfl) (by kernel_rfl) (by kernel_rfl) ?_
      clear H
      intro v10 H
      refine x_nil ?_
      refine x_then ?_
      refine ⟨fun w' => Hs [] w0 w' [.blk g3 #[.int .i64 pL, .int .i64 pE, .int .i64 0, .int .i64 0] 119, .blk g2 #[.int .i64 rL, .int .i64 rE, .int .i64 0, .int .i64 0] 119, .blk g1 #[.int .i64 rL, .int .i64 rE, .int .i64 pL, .int .i64 pE, .int .i64 ((room : Nat) : Int), .int .i64 hv] 80], fun w' => Hs [] w0 w' [.blk g3 #[.int .i64 pL, .int .i64 pE, .int .i64 0, .int .i64 0] 119, .blk g2 #[.int .i64 rL, .int .i64 rE, .int .i64 0, .int .i64 0] 119, .blk g1 #[.int .i64 rL, .int .i64 rE, .int .i64 pL, .int .i64 pE, .int .i64 ((room : Nat) : Int), .int .i64 hv] 80], H, hsShut, fun _ h => h.pick [0, 1, 2] _ (by decide) (by kernel_rfl), fun _ h => h.pick [1, 2] _ (by decide) (by kernel_rfl), ?_⟩
      refine s_done (by kernel_rfl) ?_
      clear H
      intro v11 H
      refine x_then ?_
      replace H := H.pick [1, 0, 2] [.blk g2 #[.int .i64 rL, .int .i64 rE, .int .i64 0, .int .i64 0] 119, .blk g3 #[.int .i64 pL, .int .i64 pE, .int .i64 0, .int .i64 0] 119, .blk g1 #[.int .i64 rL, .int .i64 rE, .int .i64 pL, .int .i64 pE, .int .i64 ((room : Nat) : Int), .int .i64 hv] 80] (by decide) (by kernel_rfl)
      exact ⟨g2, g3, (nthV [.pointer (some ⟨g1, 0, none⟩), .agg #[.int .i64 rL, .int .i64 rE], .agg #[.int .i64 0, .int .i64 0], .agg #[.int .i64 rL, .int .i64 rE, .int .i64 0, .int .i64 0], .pointer (some ⟨g1, 2, none⟩), .agg #[.int .i64 pL, .int .i64 pE], .agg #[.int .i64 0, .int .i64 0], .agg #[.int .i64 pL, .int .i64 pE, .int .i64 0, .int .i64 0]]), (by kernel_rfl), H⟩
    · skip
      clear H
      intro v12 H
      refine x_box H #[.int .i64 0, .int .i64 0, .int .i64 0, .int .i64 0] 119 (by kernel_rfl) rfl (by kernel_rfl) ?_
      clear H
      intro v13 g4 H
      refine x_nil ?_
      refine x_then ?_
      refine ⟨fun w' => Hs [] w0 w' [.blk g1 #[.int .i64 rL, .int .i64 rE, .int .i64 pL, .int .i64 pE, .int .i64 ((room : Nat) : Int), .int .i64 hv] 80], fun w' => Hs [] w0 w' [.blk g4 #[.int .i64 0, .int .i64 0, .int .i64 0, .int .i64 0] 119, .blk g1 #[.int .i64 rL, .int .i64 rE, .int .i64 pL, .int .i64 pE, .int .i64 ((room : Nat) : Int), .int .i64 hv] 80], H, hsShut, fun _ h => h.pick [1] _ (by decide) (by kernel_rfl), fun _ h => h.pick [0] _ (by decide) (by kernel_rfl), ?_⟩
      refine s_one 8 rfl (by kernel_rfl) rfl ?_
      clear H
      intro v14 H
      refine x_box H #[.int .i64 0, .int .i64 0, .int .i64 0, .int .i64 0] 119 (by kernel_rfl) rfl (by kernel_rfl) ?_
      clear H
      intro v15 g5 H
      refine x_nil ?_
      refine x_then ?_
      refine ⟨fun w' => Hs [] w0 w' [.blk g1 #[.int .i64 rL, .int .i64 rE, .int .i64 pL, .int .i64 pE, .int .i64 ((room : Nat) : Int), .int .i64 hv] 80], fun w' => Hs [] w0 w' [.blk g5 #[.int .i64 0, .int .i64 0, .int .i64 0, .int .i64 0] 119, .blk g4 #[.int .i64 0, .int .i64 0, .int .i64 0, .int .i64 0] 119, .blk g1 #[.int .i64 rL, .int .i64 rE, .int .i64 pL, .int .i64 pE, .int .i64 ((room : Nat) : Int), .int .i64 hv] 80], H, hsShut, fun _ h => h.pick [2] _ (by decide) (by kernel_rfl), fun _ h => h.pick [0] _ (by decide) (by kernel_rfl), ?_⟩
      refine s_one 10 rfl (by kernel_rfl) rfl ?_
      clear H
      intro v16 H
      refine x_store (t := 119) (v := .agg #[.int .i64 rL, .int .i64 rE, .int .i64 0, .int .i64 0]) H 0 g5 0 _ #[.int .i64 rL, .int .i64 rE, .int .i64 0, .int .i64 0] 119 [.int .i64 rL, .int .i64 rE, .int .i64 0, .int .i64 0] [.blk g5 #[.int .i64 rL, .int .i64 rE, .int .i64 0, .int .i64 0] 119, .blk g4 #[.int .i64 0, .int .i64 0, .int .i64 0, .int .i64 0] 119, .blk g1 #[.int .i64 rL, .int .i64 rE, .int .i64 pL, .int .i64 pE, .int .i64 ((room : Nat) : Int), .int .i64 hv] 80] rfl rfl (by kernel_rfl) (by kernel_rfl) (by kernel_rfl) (by kernel_rfl) (by kernel_rfl) (by kernel_rfl) (by kernel_rfl) (by kernel_rfl) ?_
      clear H
      intro v17 H
      refine x_nil ?_
      refine x_then ?_
      refine ⟨fun w' => Hs [] w0 w' [.blk g1 #[.int .i64 rL, .int .i64 rE, .int .i64 pL, .int .i64 pE, .int .i64 ((room : Nat) : Int), .int .i64 hv] 80], fun w' => Hs [] w0 w' [.blk g5 #[.int .i64 rL, .int .i64 rE, .int .i64 0, .int .i64 0] 119, .blk g4 #[.int .i64 0, .int .i64 0, .int .i64 0, .int .i64 0] 119, .blk g1 #[.int .i64 rL, .int .i64 rE, .int .i64 pL, .int .i64 pE, .int .i64 ((room : Nat) : Int), .int .i64 hv] 80], H, hsShut, fun _ h => h.pick [2] _ (by decide) (by kernel_rfl), fun _ h => h.pick [0] _ (by decide) (by kernel_rfl), ?_⟩
      refine s_one 11 rfl (by kernel_rfl) rfl ?_
      clear H
      intro v18 H
      refine x_store (t := 119) (v := .agg #[.int .i64 pL, .int .i64 pE, .int .i64 0, .int .i64 0]) H 1 g4 0 _ #[.int .i64 pL, .int .i64 pE, .int .i64 0, .int .i64 0] 119 [.int .i64 pL, .int .i64 pE, .int .i64 0, .int .i64 0] _ rfl rfl (by kernel_rfl) (by kernel_rfl) (by kernel_rfl) rfl (by kernel_rfl) (by kernel_rfl) (by kernel_rfl) (by kernel_rfl) ?_
      clear H
      intro v19 H
      refine x_nil ?_
      refine x_then ?_
      refine ⟨fun w' => Hs [] w0 w' [.blk g1 #[.int .i64 rL, .int .i64 rE, .int .i64 pL, .int .i64 pE, .int .i64 ((room : Nat) : Int), .int .i64 hv] 80], fun w' => Hs [] w0 w' [.blk g5 #[.int .i64 rL, .int .i64 rE, .int .i64 0, .int .i64 0] 119, .blk g4 #[.int .i64 pL, .int .i64 pE, .int .i64 0, .int .i64 0] 119, .blk g1 #[.int .i64 rL, .int .i64 rE, .int .i64 pL, .int .i64 pE, .int .i64 ((room : Nat) : Int), .int .i64 hv] 80], H, hsShut, fun _ h => h.pick [2] _ (by decide) (by kernel_rfl), fun _ h => h.pick [0] _ (by decide) (by kernel_rfl), ?_⟩
      refine s_done (by kernel_rfl) ?_
      clear H
      intro v20 H
      refine x_then ?_
      replace H := H.pick [0, 1, 2] [.blk g5 #[.int .i64 rL, .int .i64 rE, .int .i64 0, .int .i64 0] 119, .blk g4 #[.int .i64 pL, .int .i64 pE, .int .i64 0, .int .i64 0] 119, .blk g1 #[.int .i64 rL, .int .i64 rE, .int .i64 pL, .int .i64 pE, .int .i64 ((room : Nat) : Int), .int .i64 hv] 80] (by decide) (by kernel_rfl)
      exact ⟨g5, g4, (nthV [.pointer (some ⟨g1, 0, none⟩), .agg #[.int .i64 rL, .int .i64 rE], .agg #[.int .i64 0, .int .i64 0], .agg #[.int .i64 rL, .int .i64 rE, .int .i64 0, .int .i64 0], .pointer (some ⟨g1, 2, none⟩), .agg #[.int .i64 pL, .int .i64 pE], .agg #[.int .i64 0, .int .i64 0], .agg #[.int .i64 pL, .int .i64 pE, .int .i64 0, .int .i64 0]]), (by kernel_rfl), H⟩
  · skip
    clear H
    rintro _ v21 ⟨ga1, ga2, uf1, rfl, H⟩
    refine x_then ?_
    refine x_seq ?_
    refine x_region ?_
    refine x_loadn (t := 119) H 0 ga1 0 _ _ [.int .i64 rL, .int .i64 rE, .int .i64 0, .int .i64 0] rfl (by kernel_rfl) (by kernel_rfl) rfl (by kernel_rfl) (by kernel_rfl) ?_
    refine x_callB (.bool true) H (by kernel_rfl) rfl (by kernel_rfl) (DRight0 rL rE hR.1 _) ?_
    clear H
    intro v22 H
    refine x_val (.bool true) (by kernel_rfl) rfl (by kernel_rfl) ?_
    refine x_loadn (t := 119) H 1 ga2 0 _ _ [.int .i64 pL, .int .i64 pE, .int .i64 0, .int .i64 0] rfl (by kernel_rfl) (by kernel_rfl) rfl (by kernel_rfl) (by kernel_rfl) ?_
    refine x_callB (.bool true) H (by kernel_rfl) rfl (by kernel_rfl) (DRight0 pL pE hR.2.1 _) ?_
    clear H
    intro v23 H
    refine x_val (.bool true) (by kernel_rfl) rfl (by kernel_rfl) ?_
    refine x_val (.bool true) (by kernel_rfl) rfl (by kernel_rfl) ?_
    refine x_val (.pointer (some ⟨g1, 4, none⟩)) (by kernel_rfl) rfl (by kernel_rfl) ?_
    refine x_load1 H 2 g1 4 _ _ (.int .i64 ((room : Nat) : Int)) rfl (by kernel_rfl) (by kernel_rfl) rfl (by kernel_rfl) ?_
    refine x_val (.bool (decide (1 ≤ ((room : Nat) : Int)))) (by kernel_rfl) rfl (by kernel_rfl) ?_
    refine x_val (.bool (decide (1 ≤ ((room : Nat) : Int)))) (by kernel_rfl) rfl (by kernel_rfl) ?_
    refine x_val (.bool (decide (1 ≤ ((room : Nat) : Int)))) (by kernel_rfl) rfl (by kernel_rfl) ?_
    rw [qr0]
    refine x_val (.pointer (some ⟨g1, 4, none⟩)) (by kernel_rfl) rfl (by kernel_rfl) ?_
    refine x_load1 H 2 g1 4 _ _ (.int .i64 ((room : Nat) : Int)) rfl (by kernel_rfl) (by kernel_rfl) rfl (by kernel_rfl) ?_
    refine x_val (.bool (decide (((room : Nat) : Int) ≤ 256))) (by kernel_rfl) rfl (by kernel_rfl) ?_
    refine x_val (.bool (decide (((room : Nat) : Int) ≤ 256))) (by kernel_rfl) rfl (by kernel_rfl) ?_
    refine x_val (.bool (decide (((room : Nat) : Int) ≤ 256))) (by kernel_rfl) rfl (by kernel_rfl) ?_
    rw [qr1]
    refine x_val (.pointer (some ⟨g1, 5, none⟩)) (by kernel_rfl) rfl (by kernel_rfl) ?_
    refine x_load1 H 2 g1 5 _ _ (.int .i64 hv) rfl (by kernel_rfl) (by kernel_rfl) rfl (by kernel_rfl) ?_
    refine x_val (.bool (decide (1 ≤ hv))) (by kernel_rfl) rfl (by kernel_rfl) ?_
    refine x_val (.bool (decide (1 ≤ hv))) (by kernel_rfl) rfl (by kernel_rfl) ?_
    refine x_val (.bool (decide (1 ≤ hv))) (by kernel_rfl) rfl (by kernel_rfl) ?_
    rw [qr2]
    refine x_val (.pointer (some ⟨g1, 5, none⟩)) (by kernel_rfl) rfl (by kernel_rfl) ?_
    refine x_load1 H 2 g1 5 _ _ (.int .i64 hv) rfl (by kernel_rfl) (by kernel_rfl) rfl (by kernel_rfl) ?_
    refine x_val (.bool (decide (hv ≤ 65536))) (by kernel_rfl) rfl (by kernel_rfl) ?_
    refine x_val (.bool (decide (hv ≤ 65536))) (by kernel_rfl) rfl (by kernel_rfl) ?_
    refine x_val (.bool (decide (hv ≤ 65536))) (by kernel_rfl) rfl (by kernel_rfl) ?_
    refine x_nil ?_
    refine x_then ?_
    refine x_seq ?_
    refine x_region ?_
    refine x_loadn (t := 80) H 2 g1 0 _ _ [.int .i64 rL, .int .i64 rE, .int .i64 pL, .int .i64 pE, .int .i64 ((room : Nat) : Int), .int .i64 hv] rfl (by kernel_rfl) (by kernel_rfl) rfl (by kernel_rfl) (by kernel_rfl) ?_
    refine x_val (.int .i64 ((ranks : Nat) : Int)) (by kernel_rfl) rfl (by kernel_rfl) ?_
    refine x_call (by kernel_rfl) rfl (by kernel_rfl) (TkNew_yes rL rE pL pE hv room ranks hR hn1 hn2 _) ?_
    rintro _ v24 ⟨p, gr, t, rfl, hN'⟩
    refine ⟨_, rfl, ?_⟩
    replace H := H.more hN'
    clear hN'
    replace H : Hs [] w0 _ [.blk p #[.int .i64 rL, .int .i64 rE, .int .i64 pL, .int .i64 pE, .int .i64 ((room : Nat) : Int), .int .i64 hv, .slice (some ⟨gr, 0, none⟩) ranks ranks, .pointer (some ⟨t, 0, none⟩)] 187, .row (.slice (some ⟨gr, 0, none⟩) ranks ranks) 86 2 ranks (List.flatMap bukL (List.replicate ranks (0, 0))), .blk t #[.slice none 0 0, .int .i64 ((room : Nat) : Int), .func (.func 103) #[] #[]] 228, .row (.slice none 0 0) 230 3 (List.length ([] : List PairB)) (List.flatMap pairLB ([] : List PairB)), .blk ga1 #[.int .i64 rL, .int .i64 rE, .int .i64 0, .int .i64 0] 119, .blk ga2 #[.int .i64 pL, .int .i64 pE, .int .i64 0, .int .i64 0] 119, .blk g1 #[.int .i64 rL, .int .i64 rE, .int .i64 pL, .int .i64 pE, .int .i64 ((room : Nat) : Int), .int .i64 hv] 80] := H
    have hP : TP ranks room rL rE pL pE := ⟨hR.1, hR.2.1, ⟨by have := hR.2.2.1; omega, hn2⟩, ⟨by have := hR.2.2.1; omega, hn1⟩⟩
    have hm1 := hP.m
    have hm2 := hP.one
    refine x_val (.tuple #[.pointer (some ⟨p, 0, none⟩), .int .i64 0]) (by kernel_rfl) rfl (by kernel_rfl) ?_
    refine x_val (.pointer (some ⟨p, 0, none⟩)) (by kernel_rfl) rfl (by kernel_rfl) ?_
    refine x_val (.int .i64 0) (by kernel_rfl) rfl (by kernel_rfl) ?_
    refine x_val (.pointer (some ⟨p, 0, none⟩)) (by kernel_rfl) rfl (by kernel_rfl) ?_
    refine x_val (.int .i64 0) (by kernel_rfl) rfl (by kernel_rfl) ?_
    refine x_nil ?_
    refine x_then ?_
    refine x_seq ?_
    refine x_block ?_
    refine x_seq ?_
    refine x_region ?_
    refine x_loadn (t := 80) H 6 g1 0 _ _ [.int .i64 rL, .int .i64 rE, .int .i64 pL, .int .i64 pE, .int .i64 ((room : Nat) : Int), .int .i64 hv] rfl (by kernel_rfl) (by kernel_rfl) rfl (by kernel_rfl) (by kernel_rfl) ?_
    refine x_callB (.bool true) H (by kernel_rfl) rfl (by kernel_rfl) (RulRight_yes rL rE pL pE hv ((room : Nat) : Int) hR _) ?_
    clear H
    intro v25 H
    refine x_val (.bool (decide (hv ≤ 65536))) (by kernel_rfl) rfl (by kernel_rfl) ?_
    refine x_val (.bool (true != (decide (hv ≤ 65536)))) (by kernel_rfl) rfl (by kernel_rfl) ?_
    refine x_val (.bool (true != (decide (hv ≤ 65536)))) (by kernel_rfl) rfl (by kernel_rfl) ?_
    refine x_nil ?_
    refine x_then ?_
    cases h1 : true != (decide (hv ≤ 65536))
    · skip
      refine x_f (by kernel_rfl) ?_
      refine x_seq ?_
      refine x_region ?_
      refine x_val (.bool (decide (hv ≤ 65536))) (by kernel_rfl) rfl (by kernel_rfl) ?_
      refine x_val (.bool (!(decide (hv ≤ 65536)))) (by kernel_rfl) rfl (by kernel_rfl) ?_
      refine x_val (.bool (!(decide (hv ≤ 65536)))) (by kernel_rfl) rfl (by kernel_rfl) ?_
      refine x_nil ?_
      refine x_then ?_
      rw [qr3]
      refine x_f (by kernel_rfl) ?_
      refine x_seq ?_
      refine x_region ?_
      refine x_val (.int .i64 ((ranks : Nat) : Int)) (by kernel_rfl) rfl (by kernel_rfl) ?_
      refine x_val (.bool (decide (((ranks : Nat) : Int) < 1))) (by kernel_rfl) rfl (by kernel_rfl) ?_
      refine x_val (.bool (decide (((ranks : Nat) : Int) < 1))) (by kernel_rfl) rfl (by kernel_rfl) ?_
      rw [qk1]
      refine x_val (.int .i64 ((ranks : Nat) : Int)) (by kernel_rfl) rfl (by kernel_rfl) ?_
      refine x_val (.bool (decide (8 < ((ranks : Nat) : Int)))) (by kernel_rfl) rfl (by kernel_rfl) ?_
      refine x_val (.bool (decide (8 < ((ranks : Nat) : Int)))) (by kernel_rfl) rfl (by kernel_rfl) ?_
      refine x_val (.bool (decide (8 < ((ranks : Nat) : Int)))) (by kernel_rfl) rfl (by kernel_rfl) ?_
      refine x_nil ?_
      refine x_then ?_
      rw [qk2]
      refine x_f (by kernel_rfl) ?_
      refine x_seq ?_
      refine x_region ?_
      refine x_val (.int .i64 0) (by kernel_rfl) rfl (by kernel_rfl) ?_
      refine x_val (.bool false) (by kernel_rfl) rfl (by kernel_rfl) ?_
      refine x_val (.bool false) (by kernel_rfl) rfl (by kernel_rfl) ?_
      refine x_val (.pointer (some ⟨p, 0, none⟩)) (by kernel_rfl) rfl (by kernel_rfl) ?_
      refine x_val (.bool false) (by kernel_rfl) rfl (by kernel_rfl) ?_
      refine x_val (.bool false) (by kernel_rfl) rfl (by kernel_rfl) ?_
      refine x_val (.bool false) (by kernel_rfl) rfl (by kernel_rfl) ?_
      refine x_nil ?_
      refine x_then ?_
      refine x_f (by kernel_rfl) ?_
      refine x_skipc ?_
      refine x_blk ?_
      refine x_then ?_
      refine x_seq ?_
      refine x_seq ?_
      refine x_region ?_
      refine x_val (.slice ad nA cA) (by kernel_rfl) rfl (by kernel_rfl) ?_
      refine x_val (.int .i64 ((nA : Nat) : Int)) (by kernel_rfl) rfl (by kernel_rfl) ?_
      refine x_val (.bool (decide (60 < ((nA : Nat) : Int)))) (by kernel_rfl) rfl (by kernel_rfl) ?_
      refine x_nil ?_
      refine x_frame' { tmps := #[.agg #[.int .i64 rL, .int .i64 rE, .int .i64 pL, .int .i64 pE, .int .i64 ((room : Nat) : Int), .int .i64 hv], .int .i64 ((ranks : Nat) : Int), .slice ad nA cA, .int .i64 page, .pointer (some ⟨g1, 0, none⟩), undef, undef, undef, .bool false, .pointer (some ⟨ga1, 0, none⟩), .pointer (some ⟨ga2, 0, none⟩), .bool true, .pointer (some ⟨p, 0, none⟩), .int .i64 0, undef, undef, undef, undef, undef, undef, .bool true, .bool false, (uf1 0), (uf1 1), (uf1 2), (uf1 3), (uf1 4), (uf1 5), (uf1 6), (uf1 7), .agg #[.int .i64 rL, .int .i64 rE, .int .i64 0, .int .i64 0], .bool true, .bool true, .agg #[.int .i64 pL, .int .i64 pE, .int .i64 0, .int .i64 0], .bool true, .bool true, .bool true, .pointer (some ⟨g1, 4, none⟩), .int .i64 ((room : Nat) : Int), .bool true, .bool true, .bool true, .pointer (some ⟨g1, 4, none⟩), .int .i64 ((room : Nat) : Int), .bool true, .bool true, .bool true, .pointer (some ⟨g1, 5, none⟩), .int .i64 hv, .bool true, .bool true, .bool true, .pointer (some ⟨g1, 5, none⟩), .int .i64 hv, .bool true, .bool true, .tuple #[.pointer (some ⟨p, 0, none⟩), .int .i64 0], .agg #[.int .i64 rL, .int .i64 rE, .int .i64 pL, .int .i64 pE, .int .i64 ((room : Nat) : Int), .int .i64 hv], .int .i64 ((ranks : Nat) : Int), .tuple #[.pointer (some ⟨p, 0, none⟩), .int .i64 0], .pointer (some ⟨p, 0, none⟩), .int .i64 0, .bool false, .agg #[.int .i64 rL, .int .i64 rE, .int .i64 pL, .int .i64 pE, .int .i64 ((room : Nat) : Int), .int .i64 hv], .bool true, .bool true, .bool false, .bool false, .bool true, .bool false, undef, undef, undef, undef, undef, undef, .bool false, .int .i64 ((ranks : Nat) : Int), .bool false, .bool false, .int .i64 ((ranks : Nat) : Int), .bool false, .bool false, undef, undef, undef, undef, undef, undef, .bool false, .int .i64 0, .bool false, .bool false, .pointer (some ⟨p, 0, none⟩), .bool false, .bool false, .slice ad nA cA, .int .i64 ((nA : Nat) : Int), .bool (decide (60 < ((nA : Nat) : Int))), undef, undef, undef, undef, undef, undef, undef, undef, undef, undef, undef, undef, undef, undef, undef, undef, undef, undef, undef, undef, undef, undef, undef, undef, undef, undef, undef, undef, undef, undef, undef, undef, undef, undef, undef, undef, undef, undef, undef, undef, undef, undef, undef, undef, undef, undef, undef, undef, undef, undef, undef, undef], defers := [] } (by kernel_rfl) ?_
      refine x_then ?_
      cases h2 : decide (60 < ((nA : Nat) : Int))
      · skip
        have h2p := of_decide_eq_false h2
        refine x_f (by kernel_rfl) ?_
        refine x_skipc ?_
        refine x_then ?_
        refine x_seq ?_
        refine x_region ?_
        refine x_loadn (t := 119) H 4 ga1 0 _ _ [.int .i64 rL, .int .i64 rE, .int .i64 0, .int .i64 0] rfl (by kernel_rfl) (by kernel_rfl) rfl (by kernel_rfl) (by kernel_rfl) ?_
        refine x_loadn (t := 119) H 5 ga2 0 _ _ [.int .i64 pL, .int .i64 pE, .int .i64 0, .int .i64 0] rfl (by kernel_rfl) (by kernel_rfl) rfl (by kernel_rfl) (by kernel_rfl) ?_
        refine x_val (.pointer (some ⟨g1, 4, none⟩)) (by kernel_rfl) rfl (by kernel_rfl) ?_
        refine x_load1 H 6 g1 4 _ _ (.int .i64 ((room : Nat) : Int)) rfl (by kernel_rfl) (by kernel_rfl) rfl (by kernel_rfl) ?_
        refine x_val (.int .i64 ((ranks : Nat) : Int)) (by kernel_rfl) rfl (by kernel_rfl) ?_
        refine x_call (by kernel_rfl) rfl (by kernel_rfl) (DNew rL rE pL pE room ranks hn2 _) ?_
        rintro _ v26 ⟨u1, rfl, hN'⟩
        refine ⟨_, rfl, ?_⟩
        replace H := H.more hN'
        clear hN'
        replace H : Hs [] w0 _ [.row (u1) 119 4 (List.length (List.replicate ranks ((0, 0) : Buk))) (List.flatMap (dbL rL rE) (List.replicate ranks ((0, 0) : Buk))), .blk p #[.int .i64 rL, .int .i64 rE, .int .i64 pL, .int .i64 pE, .int .i64 ((room : Nat) : Int), .int .i64 hv, .slice (some ⟨gr, 0, none⟩) ranks ranks, .pointer (some ⟨t, 0, none⟩)] 187, .row (.slice (some ⟨gr, 0, none⟩) ranks ranks) 86 2 ranks (List.flatMap bukL (List.replicate ranks (0, 0))), .blk t #[.slice none 0 0, .int .i64 ((room : Nat) : Int), .func (.func 103) #[] #[]] 228, .row (.slice none 0 0) 230 3 (List.length ([] : List PairB)) (List.flatMap pairLB ([] : List PairB)), .blk ga1 #[.int .i64 rL, .int .i64 rE, .int .i64 0, .int .i64 0] 119, .blk ga2 #[.int .i64 pL, .int .i64 pE, .int .i64 0, .int .i64 0] 119, .blk g1 #[.int .i64 rL, .int .i64 rE, .int .i64 pL, .int .i64 pE, .int .i64 ((room : Nat) : Int), .int .i64 hv] 80] := H
        refine x_box H #[.slice none 0 0, .slice none 0 0, .int .i64 0, .int .i64 0, .int .i64 0, .int .i64 0, .int .i64 0] 124 (by kernel_rfl) rfl (by kernel_rfl) ?_
        clear H
        intro v27 g6 H
        have h3o := H.rowOne 1 rfl
        refine x_store (t := 124) (v := .agg #[u1, .slice none 0 0, .int .i64 pL, .int .i64 pE, .int .i64 0, .int .i64 0, .int .i64 ((room : Nat) : Int)]) H 0 g6 0 _ #[u1, .slice none 0 0, .int .i64 pL, .int .i64 pE, .int .i64 0, .int .i64 0, .int .i64 ((room : Nat) : Int)] 124 [u1, .slice none 0 0, .int .i64 pL, .int .i64 pE, .int .i64 0, .int .i64 0, .int .i64 ((room : Nat) : Int)] _ rfl rfl (by kernel_rfl) (by simp only [List.all_cons, List.all_nil, h3o, Bool.and_true, Bool.true_and] <;> rfl) (by kernel_rfl) rfl (by kernel_rfl) (by kernel_rfl) (by kernel_rfl) (by kernel_rfl) ?_
        clear H
        intro v28 H
        refine x_nil ?_
        refine x_then ?_
        refine x_seq ?_
        refine x_seq ?_
        refine x_region ?_
        refine x_val (.slice ad nA cA) (by kernel_rfl) rfl (by kernel_rfl) ?_
        refine x_val (.int .i64 ((nA : Nat) : Int)) (by kernel_rfl) rfl (by kernel_rfl) ?_
        refine x_val (.int .i64 0) (by kernel_rfl) rfl (by kernel_rfl) ?_
        refine x_nil ?_
        refine x_then ?_
        refine x_block ?_
        replace H := H.nilRow 206 5
        replace H : Hs [] w0 _ [.row (.slice none 0 0) 206 5 (List.length ([] : List PairB)) (List.flatMap (dpL pL pE) ([] : List PairB)), .blk g6 #[u1, .slice none 0 0, .int .i64 pL, .int .i64 pE, .int .i64 0, .int .i64 0, .int .i64 ((room : Nat) : Int)] 124, .row (u1) 119 4 (List.length (List.replicate ranks ((0, 0) : Buk))) (List.flatMap (dbL rL rE) (List.replicate ranks ((0, 0) : Buk))), .blk p #[.int .i64 rL, .int .i64 rE, .int .i64 pL, .int .i64 pE, .int .i64 ((room : Nat) : Int), .int .i64 hv, .slice (some ⟨gr, 0, none⟩) ranks ranks, .pointer (some ⟨t, 0, none⟩)] 187, .row (.slice (some ⟨gr, 0, none⟩) ranks ranks) 86 2 ranks (List.flatMap bukL (List.replicate ranks (0, 0))), .blk t #[.slice none 0 0, .int .i64 ((room : Nat) : Int), .func (.func 103) #[] #[]] 228, .row (.slice none 0 0) 230 3 (List.length ([] : List PairB)) (List.flatMap pairLB ([] : List PairB)), .blk ga1 #[.int .i64 rL, .int .i64 rE, .int .i64 0, .int .i64 0] 119, .blk ga2 #[.int .i64 pL, .int .i64 pE, .int .i64 0, .int .i64 0] 119, .blk g1 #[.int .i64 rL, .int .i64 rE, .int .i64 pL, .int .i64 pE, .int .i64 ((room : Nat) : Int), .int .i64 hv] 80] := H
        replace H := H.pick [3, 4, 5, 6, 2, 0, 1, 9] [.blk p #[.int .i64 rL, .int .i64 rE, .int .i64 pL, .int .i64 pE, .int .i64 ((room : Nat) : Int), .int .i64 hv, .slice (some ⟨gr, 0, none⟩) ranks ranks, .pointer (some ⟨t, 0, none⟩)] 187, .row (.slice (some ⟨gr, 0, none⟩) ranks ranks) 86 2 ranks (List.flatMap bukL (List.replicate ranks (0, 0))), .blk t #[.slice none 0 0, .int .i64 ((room : Nat) : Int), .func (.func 103) #[] #[]] 228, .row (.slice none 0 0) 230 3 (List.length ([] : List PairB)) (List.flatMap pairLB ([] : List PairB)), .row (u1) 119 4 (List.length (List.replicate ranks ((0, 0) : Buk))) (List.flatMap (dbL rL rE) (List.replicate ranks ((0, 0) : Buk))), .row (.slice none 0 0) 206 5 (List.length ([] : List PairB)) (List.flatMap (dpL pL pE) ([] : List PairB)), .blk g6 #[u1, .slice none 0 0, .int .i64 pL, .int .i64 pE, .int .i64 0, .int .i64 0, .int .i64 ((room : Nat) : Int)] 124, .blk g1 #[.int .i64 rL, .int .i64 rE, .int .i64 pL, .int .i64 pE, .int .i64 ((room : Nat) : Int), .int .i64 hv] 80] (by decide) (by kernel_rfl)
        refine x_loop (G := Nat × Value × Value × Value × List Buk × List PairB) (fun gh a w' => match gh with | (k, sv, rv, pv, rs, xs) => ∃ uf2 : Nat → Value, a = { tmps := #[.agg #[.int .i64 rL, .int .i64 rE, .int .i64 pL, .int .i64 pE, .int .i64 ((room : Nat) : Int), .int .i64 hv], .int .i64 ((ranks : Nat) : Int), .slice ad nA cA, .int .i64 page, .pointer (some ⟨g1, 0, none⟩), undef, undef, undef, (uf2 0), .pointer (some ⟨ga1, 0, none⟩), .pointer (some ⟨ga2, 0, none⟩), .bool true, .pointer (some ⟨p, 0, none⟩), .int .i64 0, .pointer (some ⟨g6, 0, none⟩), undef, (uf2 1), (uf2 2), undef, undef, .bool true, .bool false, (uf1 0), (uf1 1), (uf1 2), (uf1 3), (uf1 4), (uf1 5), (uf1 6), (uf1 7), .agg #[.int .i64 rL, .int .i64 rE, .int .i64 0, .int .i64 0], .bool true, .bool true, .agg #[.int .i64 pL, .int .i64 pE, .int .i64 0, .int .i64 0], .bool true, .bool true, .bool true, .pointer (some ⟨g1, 4, none⟩), .int .i64 ((room : Nat) : Int), .bool true, .bool true, .bool true, .pointer (some ⟨g1, 4, none⟩), .int .i64 ((room : Nat) : Int), .bool true, .bool true, .bool true, .pointer (some ⟨g1, 5, none⟩), .int .i64 hv, .bool true, .bool true, .bool true, .pointer (some ⟨g1, 5, none⟩), .int .i64 hv, .bool true, .bool true, .tuple #[.pointer (some ⟨p, 0, none⟩), .int .i64 0], .agg #[.int .i64 rL, .int .i64 rE, .int .i64 pL, .int .i64 pE, .int .i64 ((room : Nat) : Int), .int .i64 hv], .int .i64 ((ranks : Nat) : Int), .tuple #[.pointer (some ⟨p, 0, none⟩), .int .i64 0], .pointer (some ⟨p, 0, none⟩), .int .i64 0, .bool false, .agg #[.int .i64 rL, .int .i64 rE, .int .i64 pL, .int .i64 pE, .int .i64 ((room : Nat) : Int), .int .i64 hv], .bool true, .bool true, .bool false, .bool false, .bool true, .bool false, undef, undef, undef, undef, undef, undef, .bool false, .int .i64 ((ranks : Nat) : Int), .bool false, .bool false, .int .i64 ((ranks : Nat) : Int), .bool false, .bool false, undef, undef, undef, undef, undef, undef, .bool false, .int .i64 0, .bool false, .bool false, .pointer (some ⟨p, 0, none⟩), .bool false, .bool false, .slice ad nA cA, .int .i64 ((nA : Nat) : Int), .bool false, .agg #[.int .i64 rL, .int .i64 rE, .int .i64 0, .int .i64 0], .agg #[.int .i64 pL, .int .i64 pE, .int .i64 0, .int .i64 0], .pointer (some ⟨g1, 4, none⟩), .int .i64 ((room : Nat) : Int), .int .i64 ((ranks : Nat) : Int), .agg #[u1, .slice none 0 0, .int .i64 pL, .int .i64 pE, .int .i64 0, .int .i64 0, .int .i64 ((room : Nat) : Int)], .slice ad nA cA, .int .i64 ((nA : Nat) : Int), .int .i64 ((k : Nat) : Int), (uf2 3), (uf2 4), (uf2 5), (uf2 6), (uf2 7), (uf2 8), (uf2 9), (uf2 10), (uf2 11), (uf2 12), (uf2 13), (uf2 14), (uf2 15), (uf2 16), (uf2 17), (uf2 18), (uf2 19), (uf2 20), (uf2 21), (uf2 22), (uf2 23), (uf2 24), (uf2 25), undef, undef, undef, undef, undef, undef, undef, undef, undef, undef, undef, undef, undef, undef, undef, undef, undef, undef, undef, undef], defers := [] } ∧ Hs [] w0 w' [.blk p #[.int .i64 rL, .int .i64 rE, .int .i64 pL, .int .i64 pE, .int .i64 ((room : Nat) : Int), .int .i64 hv, .slice (some ⟨gr, 0, none⟩) ranks ranks, .pointer (some ⟨t, 0, none⟩)] 187, .row (.slice (some ⟨gr, 0, none⟩) ranks ranks) 86 2 ranks (List.flatMap bukL rs), .blk t #[sv, .int .i64 ((room : Nat) : Int), .func (.func 103) #[] #[]] 228, .row (sv) 230 3 (List.length xs) (List.flatMap pairLB xs), .row (rv) 119 4 (List.length rs) (List.flatMap (dbL rL rE) rs), .row (pv) 206 5 (List.length xs) (List.flatMap (dpL pL pE) xs), .blk g6 #[rv, pv, .int .i64 pL, .int .i64 pE, .int .i64 0, .int .i64 0, .int .i64 ((room : Nat) : Int)] 124, .blk g1 #[.int .i64 rL, .int .i64 rE, .int .i64 pL, .int .i64 pE, .int .i64 ((room : Nat) : Int), .int .i64 hv] 80] ∧ (k ≤ nA) ∧ (TOk ranks room rE pE rs xs) ∧ (UnlB xs)) (fun gh => match gh with | (k, sv, rv, pv, rs, xs) => nA - k) (0, .slice none 0 0, u1, .slice none 0 0, (List.replicate ranks (0, 0)), ([] : List PairB)) ⟨(nthV [.bool false, undef, undef, undef, undef, undef, undef, undef, undef, undef, undef, undef, undef, undef, undef, undef, undef, undef, undef, undef, undef, undef, undef, undef, undef, undef]), (by kernel_rfl), H, (Nat.zero_le _), (TOk.new hP), UnlB.nil⟩ ?_
        clear H
        rintro ⟨k, sv, rv, pv, rs, xs⟩ _ v29 ⟨uf2, rfl, H, r1, r2, r3⟩
        have hk := r2
        have hu := r3
        have hm3 := hk.n
        have hm4 := hk.m
        refine x_seq ?_
        refine x_region ?_
        refine x_val (.bool (decide (((k : Nat) : Int) < ((nA : Nat) : Int)))) (by kernel_rfl) rfl (by kernel_rfl) ?_
        refine x_nil ?_
        refine x_then ?_
        refine x_seq ?_
        cases h4 : decide (((k : Nat) : Int) < ((nA : Nat) : Int))
        · skip
          have h4p := of_decide_eq_false h4
          refine x_f (by kernel_rfl) ?_
          refine x_exit ?_
          refine x_then_exit ?_
          refine x_then_exit ?_
          refine x_blk_exit ?_
          refine x_then ?_
          refine x_seq ?_
          refine x_region ?_
          refine x_val (.pointer (some ⟨p, 0, none⟩)) (by kernel_rfl) rfl (by kernel_rfl) ?_
          refine x_val (.int .i64 page) (by kernel_rfl) rfl (by kernel_rfl) ?_
          cases h5 : decide (fkB xs page < List.length xs)
          · skip
            have h5p := of_decide_eq_false h5
            refine x_callB (.tuple #[.agg #[.int .i64 0, .int .i64 0], .bool false]) H (by kernel_rfl) rfl (by kernel_rfl) (by have h := Page_any page (by omega) _ (H.roOf [0, 2, 3] [.blk p #[.int .i64 rL, .int .i64 rE, .int .i64 pL, .int .i64 pE, .int .i64 ((room : Nat) : Int), .int .i64 hv, .slice (some ⟨gr, 0, none⟩) ranks ranks, .pointer (some ⟨t, 0, none⟩)] 187, .blk t #[sv, .int .i64 ((room : Nat) : Int), .func (.func 103) #[] #[]] 228, .row (sv) 230 3 (List.length xs) (List.flatMap pairLB xs)] (by kernel_rfl)); rw [show getB xs page = (0, 0) by unfold getB; rw [if_neg h5p], h5] at h; exact h) ?_
            clear H
            intro v30 H
            refine x_val (.tuple #[.agg #[.int .i64 0, .int .i64 0], .bool false]) (by kernel_rfl) rfl (by kernel_rfl) ?_
            refine x_val (.agg #[.int .i64 0, .int .i64 0]) (by kernel_rfl) rfl (by kernel_rfl) ?_
            refine x_val (.bool false) (by kernel_rfl) rfl (by kernel_rfl) ?_
            refine x_box H #[.int .i64 0, .int .i64 0] 86 (by kernel_rfl) rfl (by kernel_rfl) ?_
            clear H
            intro v31 g7 H
            refine x_store (t := 86) (v := .agg #[.int .i64 0, .int .i64 0]) H 0 g7 0 _ #[.int .i64 0, .int .i64 0] 86 [.int .i64 0, .int .i64 0] _ rfl rfl (by kernel_rfl) (by kernel_rfl) (by kernel_rfl) rfl (by kernel_rfl) (by kernel_rfl) (by kernel_rfl) (by kernel_rfl) ?_
            clear H
            intro v32 H
            refine x_val (.bool false) (by kernel_rfl) rfl (by kernel_rfl) ?_
            refine x_nil ?_
            refine x_then ?_
            refine x_seq ?_
            refine x_region ?_
            refine x_val (.bool false) (by kernel_rfl) rfl (by kernel_rfl) ?_
            refine x_loadn (t := 124) H 7 g6 0 _ _ [rv, pv, .int .i64 pL, .int .i64 pE, .int .i64 0, .int .i64 0, .int .i64 ((room : Nat) : Int)] rfl (by kernel_rfl) (by kernel_rfl) rfl (by kernel_rfl) (by kernel_rfl) ?_
            refine x_val (.int .i64 page) (by kernel_rfl) rfl (by kernel_rfl) ?_
            refine x_callB (.int .i64 (-1)) H (by kernel_rfl) rfl (by kernel_rfl) (by have h := DFind (room := room) (rv := rv) xs page (by omega) _ (H.roOf [6] [.row (pv) 206 5 (List.length xs) (List.flatMap (dpL pL pE) xs)] (by kernel_rfl)); rw [findB, if_neg h5p] at h; exact h) ?_
            clear H
            intro v33 H
            refine x_val (.bool false) (by kernel_rfl) rfl (by kernel_rfl) ?_
            refine x_val (.bool true) (by kernel_rfl) rfl (by kernel_rfl) ?_
            refine x_val (.bool true) (by kernel_rfl) rfl (by kernel_rfl) ?_
            refine x_val (.bool false) (by kernel_rfl) rfl (by kernel_rfl) ?_
            refine x_val (.bool false) (by kernel_rfl) rfl (by kernel_rfl) ?_
            refine x_loadn (t := 86) H 0 g7 0 _ _ [.int .i64 0, .int .i64 0] rfl (by kernel_rfl) (by kernel_rfl) rfl (by kernel_rfl) (by kernel_rfl) ?_
            refine x_val (.agg #[.int .i64 0, .int .i64 0]) (by kernel_rfl) rfl (by kernel_rfl) ?_
            refine x_val (.bool true) (by kernel_rfl) rfl (run_eqS (t := 86) (x := .tmp 146) (y := .tmp 147) (xs := #[.int .i64 0, .int .i64 0]) (ys := #[.int .i64 0, .int .i64 0]) (B := true) (by kernel_rfl) (by kernel_rfl) (by kernel_rfl)) ?_
            refine x_val (.bool true) (by kernel_rfl) rfl (by kernel_rfl) ?_
            refine x_val (.bool true) (by kernel_rfl) rfl (by kernel_rfl) ?_
            refine x_val (.bool true) (by kernel_rfl) rfl (by kernel_rfl) ?_
            refine x_nil ?_
            refine x_then ?_
            refine x_retc ?_
            refine x_ret (.bool true) (by kernel_rfl) (by kernel_rfl) ?_
            exact ⟨rfl, H.below⟩
          · skip
            have h5p := of_decide_eq_true h5
            refine x_callB (.tuple #[.agg #[.int .i64 ((getB xs page).1), .int .i64 ((getB xs page).2)], .bool true]) H (by kernel_rfl) rfl (by kernel_rfl) (by have h := Page_any page (by omega) _ (H.roOf [0, 2, 3] [.blk p #[.int .i64 rL, .int .i64 rE, .int .i64 pL, .int .i64 pE, .int .i64 ((room : Nat) : Int), .int .i64 hv, .slice (some ⟨gr, 0, none⟩) ranks ranks, .pointer (some ⟨t, 0, none⟩)] 187, .blk t #[sv, .int .i64 ((room : Nat) : Int), .func (.func 103) #[] #[]] 228, .row (sv) 230 3 (List.length xs) (List.flatMap pairLB xs)] (by kernel_rfl)); rw [h5] at h; exact h) ?_
            clear H
            intro v34 H
            refine x_val (.tuple #[.agg #[.int .i64 ((getB xs page).1), .int .i64 ((getB xs page).2)], .bool true]) (by kernel_rfl) rfl (by kernel_rfl) ?_
            refine x_val (.agg #[.int .i64 ((getB xs page).1), .int .i64 ((getB xs page).2)]) (by kernel_rfl) rfl (by kernel_rfl) ?_
            refine x_val (.bool true) (by kernel_rfl) rfl (by kernel_rfl) ?_
            refine x_box H #[.int .i64 0, .int .i64 0] 86 (by kernel_rfl) rfl (by kernel_rfl) ?_
            clear H
            intro v35 g8 H
            refine x_store (t := 86) (v := .agg #[.int .i64 ((getB xs page).1), .int .i64 ((getB xs page).2)]) H 0 g8 0 _ #[.int .i64 ((getB xs page).1), .int .i64 ((getB xs page).2)] 86 [.int .i64 ((getB xs page).1), .int .i64 ((getB xs page).2)] _ rfl rfl (by kernel_rfl) (by kernel_rfl) (by kernel_rfl) rfl (by kernel_rfl) (by kernel_rfl) (by kernel_rfl) (by kernel_rfl) ?_
            clear H
            intro v36 H
            refine x_val (.bool true) (by kernel_rfl) rfl (by kernel_rfl) ?_
            refine x_nil ?_
            refine x_then ?_
            refine x_seq ?_
            refine x_region ?_
            refine x_val (.bool true) (by kernel_rfl) rfl (by kernel_rfl) ?_
            refine x_loadn (t := 124) H 7 g6 0 _ _ [rv, pv, .int .i64 pL, .int .i64 pE, .int .i64 0, .int .i64 0, .int .i64 ((room : Nat) : Int)] rfl (by kernel_rfl) (by kernel_rfl) rfl (by kernel_rfl) (by kernel_rfl) ?_
            refine x_val (.int .i64 page) (by kernel_rfl) rfl (by kernel_rfl) ?_
            refine x_callB (.int .i64 (((fkB xs page) : Nat) : Int)) H (by kernel_rfl) rfl (by kernel_rfl) (by have h := DFind (room := room) (rv := rv) xs page (by omega) _ (H.roOf [6] [.row (pv) 206 5 (List.length xs) (List.flatMap (dpL pL pE) xs)] (by kernel_rfl)); rw [findB, if_pos h5p] at h; exact h) ?_
            clear H
            intro v37 H
            refine x_val (.bool (decide (0 ≤ (((fkB xs page) : Nat) : Int)))) (by kernel_rfl) rfl (by kernel_rfl) ?_
            refine x_val (.bool (true == (decide (0 ≤ (((fkB xs page) : Nat) : Int))))) (by kernel_rfl) rfl (by kernel_rfl) ?_
            refine x_val (.bool (true == (decide (0 ≤ (((fkB xs page) : Nat) : Int))))) (by kernel_rfl) rfl (by kernel_rfl) ?_
            cases h6 : true == (decide (0 ≤ (((fkB xs page) : Nat) : Int)))
            · skip
              exact absurd h6 (by simp)
            · skip
              refine x_val (.bool true) (by kernel_rfl) rfl (by kernel_rfl) ?_
              refine x_val (.bool true) (by kernel_rfl) rfl (by kernel_rfl) ?_
              refine x_skip (by kernel_rfl) ?_
              refine x_skip (by kernel_rfl) ?_
              refine x_skip (by kernel_rfl) ?_
              refine x_val (.bool true) (by kernel_rfl) rfl (by kernel_rfl) ?_
              refine x_val (.bool true) (by kernel_rfl) rfl (by kernel_rfl) ?_
              refine x_val (.bool true) (by kernel_rfl) rfl (by kernel_rfl) ?_
              refine x_nil ?_
              refine x_then ?_
              refine x_retc ?_
              refine x_ret (.bool true) (by kernel_rfl) (by kernel_rfl) ?_
              exact ⟨rfl, H.below⟩
        · skip
          have h4p := of_decide_eq_true h4
          refine x_t (by kernel_rfl) ?_
          refine x_skipc ?_
          refine x_then ?_
          refine x_seq ?_
          refine x_block ?_
          refine x_seq ?_
          refine x_region ?_
          obtain ⟨ga, oa, had, hcell⟩ := hA (by omega)
          refine x_ixO (t := 81) had k nA cA 88 4 (oa + k * 4) (by omega) (by omega) (by kernel_rfl) (by kernel_rfl) (by kernel_rfl) rfl (by kernel_rfl) ?_
          refine x_loadcn (t := 88) ga (oa + k * 4) [.int .i64 ((l.getD k (0, 0, 0, 0)).1), .int .i64 ((l.getD k (0, 0, 0, 0)).2.1), .int .i64 ((l.getD k (0, 0, 0, 0)).2.2.1), .int .i64 ((l.getD k (0, 0, 0, 0)).2.2.2)] (hcell _ H.below k (by omega)) (by kernel_rfl) rfl (by kernel_rfl) (by kernel_rfl) ?_
          refine x_box H #[.int .i64 0, .int .i64 0, .int .i64 0, .int .i64 0] 88 (by kernel_rfl) rfl (by kernel_rfl) ?_
          clear H
          intro v38 g9 H
          refine x_store (t := 88) (v := .agg #[.int .i64 ((l.getD k (0, 0, 0, 0)).1), .int .i64 ((l.getD k (0, 0, 0, 0)).2.1), .int .i64 ((l.getD k (0, 0, 0, 0)).2.2.1), .int .i64 ((l.getD k (0, 0, 0, 0)).2.2.2)]) H 0 g9 0 _ #[.int .i64 ((l.getD k (0, 0, 0, 0)).1), .int .i64 ((l.getD k (0, 0, 0, 0)).2.1), .int .i64 ((l.getD k (0, 0, 0, 0)).2.2.1), .int .i64 ((l.getD k (0, 0, 0, 0)).2.2.2)] 88 [.int .i64 ((l.getD k (0, 0, 0, 0)).1), .int .i64 ((l.getD k (0, 0, 0, 0)).2.1), .int .i64 ((l.getD k (0, 0, 0, 0)).2.2.1), .int .i64 ((l.getD k (0, 0, 0, 0)).2.2.2)] [.blk g9 #[.int .i64 ((l.getD k (0, 0, 0, 0)).1), .int .i64 ((l.getD k (0, 0, 0, 0)).2.1), .int .i64 ((l.getD k (0, 0, 0, 0)).2.2.1), .int .i64 ((l.getD k (0, 0, 0, 0)).2.2.2)] 88, .blk p #[.int .i64 rL, .int .i64 rE, .int .i64 pL, .int .i64 pE, .int .i64 ((room : Nat) : Int), .int .i64 hv, .slice (some ⟨gr, 0, none⟩) ranks ranks, .pointer (some ⟨t, 0, none⟩)] 187, .row (.slice (some ⟨gr, 0, none⟩) ranks ranks) 86 2 ranks (List.flatMap bukL rs), .blk t #[sv, .int .i64 ((room : Nat) : Int), .func (.func 103) #[] #[]] 228, .row (sv) 230 3 (List.length xs) (List.flatMap pairLB xs), .row (rv) 119 4 (List.length rs) (List.flatMap (dbL rL rE) rs), .row (pv) 206 5 (List.length xs) (List.flatMap (dpL pL pE) xs), .blk g6 #[rv, pv, .int .i64 pL, .int .i64 pE, .int .i64 0, .int .i64 0, .int .i64 ((room : Nat) : Int)] 124, .blk g1 #[.int .i64 rL, .int .i64 rE, .int .i64 pL, .int .i64 pE, .int .i64 ((room : Nat) : Int), .int .i64 hv] 80] rfl rfl (by kernel_rfl) (by kernel_rfl) (by kernel_rfl) (by kernel_rfl) (by kernel_rfl) (by kernel_rfl) (by kernel_rfl) (by kernel_rfl) ?_
          clear H
          intro v39 H
          refine x_nil ?_
          refine x_then ?_
          refine x_seq ?_
          refine x_region ?_
          refine x_val (.bool false) (by kernel_rfl) rfl (by kernel_rfl) ?_
          refine x_nil ?_
          refine x_then ?_
          refine x_seq ?_
          refine x_region ?_
          refine x_val (.pointer (some ⟨p, 0, none⟩)) (by kernel_rfl) rfl (by kernel_rfl) ?_
          refine x_loadn (t := 124) H 7 g6 0 _ _ [rv, pv, .int .i64 pL, .int .i64 pE, .int .i64 0, .int .i64 0, .int .i64 ((room : Nat) : Int)] rfl (by kernel_rfl) (by kernel_rfl) rfl (by kernel_rfl) (by kernel_rfl) ?_
          refine x_val (.int .i64 ((ranks : Nat) : Int)) (by kernel_rfl) rfl (by kernel_rfl) ?_
          refine x_val (.pointer (some ⟨g1, 0, none⟩)) (by kernel_rfl) rfl (by kernel_rfl) ?_
          refine x_loadn (t := 78) H 8 g1 0 _ _ [.int .i64 rL, .int .i64 rE] rfl (by kernel_rfl) (by kernel_rfl) rfl (by kernel_rfl) (by kernel_rfl) ?_
          refine x_loadn (t := 88) H 0 g9 0 _ _ [.int .i64 ((l.getD k (0, 0, 0, 0)).1), .int .i64 ((l.getD k (0, 0, 0, 0)).2.1), .int .i64 ((l.getD k (0, 0, 0, 0)).2.2.1), .int .i64 ((l.getD k (0, 0, 0, 0)).2.2.2)] rfl (by kernel_rfl) (by kernel_rfl) rfl (by kernel_rfl) (by kernel_rfl) ?_
          have hk1 := hk.step hP (l.getD k (0, 0, 0, 0))
          have hu1 := hu.step ranks room pE (l.getD k (0, 0, 0, 0))
          refine x_call (by kernel_rfl) rfl (by kernel_rfl) (Hs.useE (S := Value × Value × Value) (A := [.blk p #[.int .i64 rL, .int .i64 rE, .int .i64 pL, .int .i64 pE, .int .i64 ((room : Nat) : Int), .int .i64 hv, .slice (some ⟨gr, 0, none⟩) ranks ranks, .pointer (some ⟨t, 0, none⟩)] 187, .row (.slice (some ⟨gr, 0, none⟩) ranks ranks) 86 2 ranks (List.flatMap bukL rs), .blk t #[sv, .int .i64 ((room : Nat) : Int), .func (.func 103) #[] #[]] 228, .row (sv) 230 3 (List.length xs) (List.flatMap pairLB xs), .row (rv) 119 4 (List.length rs) (List.flatMap (dbL rL rE) rs), .row (pv) 206 5 (List.length xs) (List.flatMap (dpL pL pE) xs)]) (R := [.blk g9 #[.int .i64 ((l.getD k (0, 0, 0, 0)).1), .int .i64 ((l.getD k (0, 0, 0, 0)).2.1), .int .i64 ((l.getD k (0, 0, 0, 0)).2.2.1), .int .i64 ((l.getD k (0, 0, 0, 0)).2.2.2)] 88, .blk g6 #[rv, pv, .int .i64 pL, .int .i64 pE, .int .i64 0, .int .i64 0, .int .i64 ((room : Nat) : Int)] 124, .blk g1 #[.int .i64 rL, .int .i64 rE, .int .i64 pL, .int .i64 pE, .int .i64 ((room : Nat) : Int), .int .i64 hv] 80]) (fun z => [.blk p #[.int .i64 rL, .int .i64 rE, .int .i64 pL, .int .i64 pE, .int .i64 ((room : Nat) : Int), .int .i64 hv, .slice (some ⟨gr, 0, none⟩) ranks ranks, .pointer (some ⟨t, 0, none⟩)] 187, .row (.slice (some ⟨gr, 0, none⟩) ranks ranks) 86 2 ranks (List.flatMap bukL (stR ranks rE rs (l.getD k (0, 0, 0, 0)))), .blk t #[z.1, .int .i64 ((room : Nat) : Int), .func (.func 103) #[] #[]] 228, .row (z.1) 230 3 (List.length (stX ranks room pE xs (l.getD k (0, 0, 0, 0)))) (List.flatMap pairLB (stX ranks room pE xs (l.getD k (0, 0, 0, 0)))), .row (z.2.1) 119 4 (List.length (stR ranks rE rs (l.getD k (0, 0, 0, 0)))) (List.flatMap (dbL rL rE) (stR ranks rE rs (l.getD k (0, 0, 0, 0)))), .row (z.2.2) 206 5 (List.length (stX ranks room pE xs (l.getD k (0, 0, 0, 0)))) (List.flatMap (dpL pL pE) (stX ranks room pE xs (l.getD k (0, 0, 0, 0))))]) (fun z => .tuple #[.agg #[z.2.1, z.2.2, .int .i64 pL, .int .i64 pE, .int .i64 0, .int .i64 0, .int .i64 ((room : Nat) : Int)], .bool true]) (H.pick [1, 2, 3, 4, 5, 6, 0, 7, 8] _ (by decide) (by kernel_rfl)) (fun h => tstep (l.getD k (0, 0, 0, 0)) hk hP _ h)) ?_
          rintro _ v40 ⟨⟨svs, us1, us2⟩, rfl, H'⟩
          refine ⟨_, rfl, ?_⟩
          clear H
          have H : Hs [] w0 _ [.blk p #[.int .i64 rL, .int .i64 rE, .int .i64 pL, .int .i64 pE, .int .i64 ((room : Nat) : Int), .int .i64 hv, .slice (some ⟨gr, 0, none⟩) ranks ranks, .pointer (some ⟨t, 0, none⟩)] 187, .row (.slice (some ⟨gr, 0, none⟩) ranks ranks) 86 2 ranks (List.flatMap bukL (stR ranks rE rs (l.getD k (0, 0, 0, 0)))), .blk t #[svs, .int .i64 ((room : Nat) : Int), .func (.func 103) #[] #[]] 228, .row (svs) 230 3 (List.length (stX ranks room pE xs (l.getD k (0, 0, 0, 0)))) (List.flatMap pairLB (stX ranks room pE xs (l.getD k (0, 0, 0, 0)))), .row (us1) 119 4 (List.length (stR ranks rE rs (l.getD k (0, 0, 0, 0)))) (List.flatMap (dbL rL rE) (stR ranks rE rs (l.getD k (0, 0, 0, 0)))), .row (us2) 206 5 (List.length (stX ranks room pE xs (l.getD k (0, 0, 0, 0)))) (List.flatMap (dpL pL pE) (stX ranks room pE xs (l.getD k (0, 0, 0, 0)))), .blk g9 #[.int .i64 ((l.getD k (0, 0, 0, 0)).1), .int .i64 ((l.getD k (0, 0, 0, 0)).2.1), .int .i64 ((l.getD k (0, 0, 0, 0)).2.2.1), .int .i64 ((l.getD k (0, 0, 0, 0)).2.2.2)] 88, .blk g6 #[rv, pv, .int .i64 pL, .int .i64 pE, .int .i64 0, .int .i64 0, .int .i64 ((room : Nat) : Int)] 124, .blk g1 #[.int .i64 rL, .int .i64 rE, .int .i64 pL, .int .i64 pE, .int .i64 ((room : Nat) : Int), .int .i64 hv] 80] := H'
          clear H'
          refine x_val (.tuple #[.agg #[us1, us2, .int .i64 pL, .int .i64 pE, .int .i64 0, .int .i64 0, .int .i64 ((room : Nat) : Int)], .bool true]) (by kernel_rfl) rfl (by kernel_rfl) ?_
          refine x_val (.agg #[us1, us2, .int .i64 pL, .int .i64 pE, .int .i64 0, .int .i64 0, .int .i64 ((room : Nat) : Int)]) (by kernel_rfl) rfl (by kernel_rfl) ?_
          refine x_val (.bool true) (by kernel_rfl) rfl (by kernel_rfl) ?_
          have h7o := H.rowOne 4 rfl
          have h8o := H.rowOne 5 rfl
          refine x_store (t := 124) (v := .agg #[us1, us2, .int .i64 pL, .int .i64 pE, .int .i64 0, .int .i64 0, .int .i64 ((room : Nat) : Int)]) H 7 g6 0 _ #[us1, us2, .int .i64 pL, .int .i64 pE, .int .i64 0, .int .i64 0, .int .i64 ((room : Nat) : Int)] 124 [us1, us2, .int .i64 pL, .int .i64 pE, .int .i64 0, .int .i64 0, .int .i64 ((room : Nat) : Int)] _ rfl rfl (by kernel_rfl) (by simp only [List.all_cons, List.all_nil, h7o, h8o, Bool.and_true, Bool.true_and] <;> rfl) (by kernel_rfl) rfl (by kernel_rfl) (by kernel_rfl) (by kernel_rfl) (by kernel_rfl) ?_
          clear H
          intro v41 H
          refine x_val (.bool true) (by kernel_rfl) rfl (by kernel_rfl) ?_
          refine x_nil ?_
          refine x_then ?_
          refine x_seq ?_
          refine x_region ?_
          refine x_val (.bool true) (by kernel_rfl) rfl (by kernel_rfl) ?_
          refine x_val (.bool false) (by kernel_rfl) rfl (by kernel_rfl) ?_
          refine x_val (.bool false) (by kernel_rfl) rfl (by kernel_rfl) ?_
          refine x_val (.pointer (some ⟨p, 0, none⟩)) (by kernel_rfl) rfl (by kernel_rfl) ?_
          refine x_loadn (t := 124) H 7 g6 0 _ _ [us1, us2, .int .i64 pL, .int .i64 pE, .int .i64 0, .int .i64 0, .int .i64 ((room : Nat) : Int)] rfl (by kernel_rfl) (by kernel_rfl) rfl (by kernel_rfl) (by kernel_rfl) ?_
          refine x_loadn (t := 80) H 8 g1 0 _ _ [.int .i64 rL, .int .i64 rE, .int .i64 pL, .int .i64 pE, .int .i64 ((room : Nat) : Int), .int .i64 hv] rfl (by kernel_rfl) (by kernel_rfl) rfl (by kernel_rfl) (by kernel_rfl) ?_
          refine x_callH (.bool true) [.blk p #[.int .i64 rL, .int .i64 rE, .int .i64 pL, .int .i64 pE, .int .i64 ((room : Nat) : Int), .int .i64 hv, .slice (some ⟨gr, 0, none⟩) ranks ranks, .pointer (some ⟨t, 0, none⟩)] 187, .row (.slice (some ⟨gr, 0, none⟩) ranks ranks) 86 2 ranks (List.flatMap bukL (stR ranks rE rs (l.getD k (0, 0, 0, 0)))), .blk t #[svs, .int .i64 ((room : Nat) : Int), .func (.func 103) #[] #[]] 228, .row (svs) 230 3 (List.length (stX ranks room pE xs (l.getD k (0, 0, 0, 0)))) (List.flatMap pairLB (stX ranks room pE xs (l.getD k (0, 0, 0, 0)))), .row (us1) 119 4 (List.length (stR ranks rE rs (l.getD k (0, 0, 0, 0)))) (List.flatMap (dbL rL rE) (stR ranks rE rs (l.getD k (0, 0, 0, 0)))), .row (us2) 206 5 (List.length (stX ranks room pE xs (l.getD k (0, 0, 0, 0)))) (List.flatMap (dpL pL pE) (stX ranks room pE xs (l.getD k (0, 0, 0, 0)))), .blk g9 #[.int .i64 ((l.getD k (0, 0, 0, 0)).1), .int .i64 ((l.getD k (0, 0, 0, 0)).2.1), .int .i64 ((l.getD k (0, 0, 0, 0)).2.2.1), .int .i64 ((l.getD k (0, 0, 0, 0)).2.2.2)] 88, .blk g6 #[us1, us2, .int .i64 pL, .int .i64 pE, .int .i64 0, .int .i64 0, .int .i64 ((room : Nat) : Int)] 124, .blk g1 #[.int .i64 rL, .int .i64 rE, .int .i64 pL, .int .i64 pE, .int .i64 ((room : Nat) : Int), .int .i64 hv] 80] (by kernel_rfl) rfl (by kernel_rfl) (Hs.use (A := [.blk p #[.int .i64 rL, .int .i64 rE, .int .i64 pL, .int .i64 pE, .int .i64 ((room : Nat) : Int), .int .i64 hv, .slice (some ⟨gr, 0, none⟩) ranks ranks, .pointer (some ⟨t, 0, none⟩)] 187, .row (.slice (some ⟨gr, 0, none⟩) ranks ranks) 86 2 ranks (List.flatMap bukL (stR ranks rE rs (l.getD k (0, 0, 0, 0)))), .blk t #[svs, .int .i64 ((room : Nat) : Int), .func (.func 103) #[] #[]] 228, .row (svs) 230 3 (List.length (stX ranks room pE xs (l.getD k (0, 0, 0, 0)))) (List.flatMap pairLB (stX ranks room pE xs (l.getD k (0, 0, 0, 0)))), .row (us1) 119 4 (List.length (stR ranks rE rs (l.getD k (0, 0, 0, 0)))) (List.flatMap (dbL rL rE) (stR ranks rE rs (l.getD k (0, 0, 0, 0)))), .row (us2) 206 5 (List.length (stX ranks room pE xs (l.getD k (0, 0, 0, 0)))) (List.flatMap (dpL pL pE) (stX ranks room pE xs (l.getD k (0, 0, 0, 0))))]) (R := [.blk g9 #[.int .i64 ((l.getD k (0, 0, 0, 0)).1), .int .i64 ((l.getD k (0, 0, 0, 0)).2.1), .int .i64 ((l.getD k (0, 0, 0, 0)).2.2.1), .int .i64 ((l.getD k (0, 0, 0, 0)).2.2.2)] 88, .blk g6 #[us1, us2, .int .i64 pL, .int .i64 pE, .int .i64 0, .int .i64 0, .int .i64 ((room : Nat) : Int)] 124, .blk g1 #[.int .i64 rL, .int .i64 rE, .int .i64 pL, .int .i64 pE, .int .i64 ((room : Nat) : Int), .int .i64 hv] 80]) (H.pick [0, 1, 2, 3, 4, 5, 6, 7, 8] _ (by decide) (by kernel_rfl)) (fun h => tsame hk1 hP hu1 _ h)) ?_
          clear H
          intro v42 H
          refine x_val (.bool false) (by kernel_rfl) rfl (by kernel_rfl) ?_
          refine x_val (.bool false) (by kernel_rfl) rfl (by kernel_rfl) ?_
          refine x_nil ?_
          refine x_then ?_
          refine x_f (by kernel_rfl) ?_
          refine x_skipc ?_
          refine x_blk ?_
          refine x_then ?_
          refine x_region ?_
          refine x_ar (((k : Nat) : Int) + 1) ⟨by omega, by omega⟩ (by kernel_rfl) rfl (by kernel_rfl) ?_
          refine x_val (.int .i64 (((k : Nat) : Int) + 1)) (by kernel_rfl) rfl (by kernel_rfl) ?_
          refine x_nil ?_
          refine x_then ?_
          replace H := H.pick [0, 1, 2, 3, 4, 5, 7, 8] [.blk p #[.int .i64 rL, .int .i64 rE, .int .i64 pL, .int .i64 pE, .int .i64 ((room : Nat) : Int), .int .i64 hv, .slice (some ⟨gr, 0, none⟩) ranks ranks, .pointer (some ⟨t, 0, none⟩)] 187, .row (.slice (some ⟨gr, 0, none⟩) ranks ranks) 86 2 ranks (List.flatMap bukL (stR ranks rE rs (l.getD k (0, 0, 0, 0)))), .blk t #[svs, .int .i64 ((room : Nat) : Int), .func (.func 103) #[] #[]] 228, .row (svs) 230 3 (List.length (stX ranks room pE xs (l.getD k (0, 0, 0, 0)))) (List.flatMap pairLB (stX ranks room pE xs (l.getD k (0, 0, 0, 0)))), .row (us1) 119 4 (List.length (stR ranks rE rs (l.getD k (0, 0, 0, 0)))) (List.flatMap (dbL rL rE) (stR ranks rE rs (l.getD k (0, 0, 0, 0)))), .row (us2) 206 5 (List.length (stX ranks room pE xs (l.getD k (0, 0, 0, 0)))) (List.flatMap (dpL pL pE) (stX ranks room pE xs (l.getD k (0, 0, 0, 0)))), .blk g6 #[us1, us2, .int .i64 pL, .int .i64 pE, .int .i64 0, .int .i64 0, .int .i64 ((room : Nat) : Int)] 124, .blk g1 #[.int .i64 rL, .int .i64 rE, .int .i64 pL, .int .i64 pE, .int .i64 ((room : Nat) : Int), .int .i64 hv] 80] (by decide) (by kernel_rfl)
          exact ⟨(k + 1, svs, us1, us2, (stR ranks rE rs (l.getD k (0, 0, 0, 0))), (stX ranks room pE xs (l.getD k (0, 0, 0, 0)))), (by dsimp only; omega), (nthV [(uf2 0), .pointer (some ⟨g9, 0, none⟩), .bool true, .bool true, .pointer (some ⟨ga, oa + k * 4, none⟩), .agg #[.int .i64 ((l.getD k (0, 0, 0, 0)).1), .int .i64 ((l.getD k (0, 0, 0, 0)).2.1), .int .i64 ((l.getD k (0, 0, 0, 0)).2.2.1), .int .i64 ((l.getD k (0, 0, 0, 0)).2.2.2)], .tuple #[.agg #[us1, us2, .int .i64 pL, .int .i64 pE, .int .i64 0, .int .i64 0, .int .i64 ((room : Nat) : Int)], .bool true], .pointer (some ⟨p, 0, none⟩), .agg #[rv, pv, .int .i64 pL, .int .i64 pE, .int .i64 0, .int .i64 0, .int .i64 ((room : Nat) : Int)], .int .i64 ((ranks : Nat) : Int), .pointer (some ⟨g1, 0, none⟩), .agg #[.int .i64 rL, .int .i64 rE], .agg #[.int .i64 ((l.getD k (0, 0, 0, 0)).1), .int .i64 ((l.getD k (0, 0, 0, 0)).2.1), .int .i64 ((l.getD k (0, 0, 0, 0)).2.2.1), .int .i64 ((l.getD k (0, 0, 0, 0)).2.2.2)], .tuple #[.agg #[us1, us2, .int .i64 pL, .int .i64 pE, .int .i64 0, .int .i64 0, .int .i64 ((room : Nat) : Int)], .bool true], .agg #[us1, us2, .int .i64 pL, .int .i64 pE, .int .i64 0, .int .i64 0, .int .i64 ((room : Nat) : Int)], .bool true, .bool true, .bool false, .bool false, .pointer (some ⟨p, 0, none⟩), .agg #[us1, us2, .int .i64 pL, .int .i64 pE, .int .i64 0, .int .i64 0, .int .i64 ((room : Nat) : Int)], .agg #[.int .i64 rL, .int .i64 rE, .int .i64 pL, .int .i64 pE, .int .i64 ((room : Nat) : Int), .int .i64 hv], .bool true, .bool false, .bool false, .int .i64 (((k : Nat) : Int) + 1)]), (by kernel_rfl), H, (by omega), hk1, hu1⟩
      · skip
        have h2p := of_decide_eq_true h2
        refine x_t (by kernel_rfl) ?_
        refine x_seq ?_
        refine x_region ?_
        refine x_val (.bool true) (by kernel_rfl) rfl (by kernel_rfl) ?_
        refine x_nil ?_
        refine x_then ?_
        refine x_retc ?_
        refine x_then_ret ?_
        refine x_ret (.bool true) (by kernel_rfl) (by kernel_rfl) ?_
        exact ⟨rfl, H.below⟩
    · skip
      exact absurd h1 (by rw [qr3]; decide)

end Go.Proofs.Ytgpalgbdacoagaa
