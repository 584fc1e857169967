/- Contracts of buckets and of rules. -/
import Derived.Test.YtgpalgbdacoagaaTrkB
import Derived.Test.YtgpalgbdacoagaaPx2
namespace Go.Proofs.Ytgpalgbdacoagaa
open Go Go.RowKit
set_option linter.unusedVariables false
set_option linter.unusedSimpArgs false

abbrev RR (L E : Int) : Prop := 1 ≤ L ∧ L ≤ 65536 ∧ 1 ≤ E ∧ E ≤ 65536
abbrev RB (E : Int) (b : Buk) : Prop := 0 ≤ b.1 ∧ b.1 ≤ 65536 ∧ 0 ≤ b.2 ∧ b.2 ≤ E - 1
/-- A bucket filled; does it cross? -/
def bfill (b : Buk) (n : Int) : Buk := (b.1 + min n (65536 - b.1), b.2)
def bcross (L : Int) (b : Buk) (n : Int) : Bool := decide (b.1 < L) && decide (L ≤ b.1 + min n (65536 - b.1))
/-- A bucket, a tick later. -/
def btick (E : Int) (b : Buk) : Buk := if b.2 + 1 < E then (b.1, b.2 + 1) else (max 0 (b.1 - 1), 0)
theorem tick_on {E u v : Int} (h : 1 < E - v) : ((u, v + 1) : Buk) = btick E (u, v) := by
  unfold btick; rw [if_pos (by dsimp only; omega)]
theorem tick_off {E u v : Int} (h : ¬ 1 < E - v) (hb : v ≤ E - 1) : ((max 0 (u - 1 - min ((1 - (E - v)) / E) 65536), (1 - (E - v)) % E) : Buk) = btick E (u, v) := by
  have e1 : 1 - (E - v) = 0 := by omega
  unfold btick; rw [if_neg (by dsimp only; omega), e1, Int.zero_ediv, Int.zero_emod, show min (0 : Int) 65536 = 0 from rfl, Int.sub_zero]
theorem RB.zero {E : Int} (h : 1 ≤ E) : RB E (0, 0) := by unfold RB; dsimp only; omega
theorem RB.fill {E : Int} {b : Buk} (h : RB E b) {n : Int} (hn : 0 ≤ n) : RB E (bfill b n) := by
  unfold RB bfill at *; dsimp only; omega
theorem RB.tick {E : Int} {b : Buk} (h : RB E b) (hE : 1 ≤ E) : RB E (btick E b) := by
  unfold RB btick at *; split <;> dsimp only <;> omega

set_option maxRecDepth 100000 in
set_option maxHeartbeats 4000000 in
theorem within_any (n a b : Int) (w0 : World) :
    Calls Try.prog 153 #[.int .i64 n, .int .i64 a, .int .i64 b] w0 fun e w' => e = .returned (.bool (decide (a ≤ n ∧ n ≤ b))) ∧ Below w0.heap.size w0 w' := by
  refine x_enter Try.func153 rfl #[.int .i64 n, .int .i64 a, .int .i64 b, undef, undef, undef, undef, undef, undef, undef, undef, undef, undef, undef, undef] (by kernel_rfl) ?_
  have H := Hs.nil w0
  refine x_seq ?_
  refine x_region ?_
  refine x_val (.bool false) (by kernel_rfl) rfl (by kernel_rfl) ?_
  refine x_nil ?_
  refine x_then ?_
  refine x_seq ?_
  refine x_region ?_
  refine x_val (.int .i64 n) (by kernel_rfl) rfl (by kernel_rfl) ?_
  refine x_val (.int .i64 a) (by kernel_rfl) rfl (by kernel_rfl) ?_
  refine x_val (.bool (decide (a ≤ n))) (by kernel_rfl) rfl (by kernel_rfl) ?_
  refine x_val (.bool (decide (a ≤ n))) (by kernel_rfl) rfl (by kernel_rfl) ?_
  cases h1 : decide (a ≤ n)
  · skip
    have h1p := of_decide_eq_false h1
    refine x_skip (by kernel_rfl) ?_
    refine x_skip (by kernel_rfl) ?_
    refine x_skip (by kernel_rfl) ?_
    refine x_val (.bool false) (by kernel_rfl) rfl (by kernel_rfl) ?_
    refine x_val (.bool false) (by kernel_rfl) rfl (by kernel_rfl) ?_
    refine x_nil ?_
    refine x_then ?_
    refine x_retc ?_
    refine x_ret (.bool false) (by kernel_rfl) (by kernel_rfl) ?_
    exact ⟨by rw [decide_eq_false (by omega)], H.below⟩
  · skip
    have h1p := of_decide_eq_true h1
    refine x_val (.int .i64 n) (by kernel_rfl) rfl (by kernel_rfl) ?_
    refine x_val (.int .i64 b) (by kernel_rfl) rfl (by kernel_rfl) ?_
    refine x_val (.bool (decide (n ≤ b))) (by kernel_rfl) rfl (by kernel_rfl) ?_
    refine x_val (.bool (decide (n ≤ b))) (by kernel_rfl) rfl (by kernel_rfl) ?_
    refine x_val (.bool (decide (n ≤ b))) (by kernel_rfl) rfl (by kernel_rfl) ?_
    refine x_nil ?_
    refine x_then ?_
    refine x_retc ?_
    refine x_ret (.bool (decide (n ≤ b))) (by kernel_rfl) (by kernel_rfl) ?_
    have e : (decide (n ≤ b)) = decide (a ≤ n ∧ n ≤ b) := by simp; omega
    exact ⟨by rw [e], H.below⟩

set_option maxRecDepth 100000 in
set_option maxHeartbeats 4000000 in
theorem RRight (L E : Int) (w0 : World) :
    Calls Try.prog 117 #[.agg #[.int .i64 L, .int .i64 E]] w0 fun e w' => e = .returned (.bool (decide (RR L E))) ∧ Below w0.heap.size w0 w' := by
  refine x_enter Try.func117 rfl #[.agg #[.int .i64 L, .int .i64 E], undef, undef, undef, undef, undef, undef, undef, undef, undef, undef] (by kernel_rfl) ?_
  have H := Hs.nil w0
  unfold RR
  refine x_seq ?_
  refine x_region ?_
  refine x_box H #[.int .i64 L, .int .i64 E] 78 (by kernel_rfl) rfl (by kernel_rfl) ?_
  clear H
  intro v1 g1 H
  refine x_val (.bool false) (by kernel_rfl) rfl (by kernel_rfl) ?_
  refine x_nil ?_
  refine x_then ?_
  refine x_seq ?_
  refine x_region ?_
  refine x_val (.pointer (some ⟨g1, 0, none⟩)) (by kernel_rfl) rfl (by kernel_rfl) ?_
  refine x_load1 H 0 g1 0 _ _ (.int .i64 L) rfl (by kernel_rfl) (by kernel_rfl) rfl (by kernel_rfl) ?_
  refine x_callB (.bool (decide (1 ≤ L ∧ L ≤ 65536))) H (by kernel_rfl) rfl (by kernel_rfl) (within_any L 1 65536 _) ?_
  clear H
  intro v2 H
  refine x_val (.bool (decide (1 ≤ L ∧ L ≤ 65536))) (by kernel_rfl) rfl (by kernel_rfl) ?_
  cases h1 : decide (1 ≤ L ∧ L ≤ 65536)
  · skip
    have h1p := of_decide_eq_false h1
    refine x_skip (by kernel_rfl) ?_
    refine x_skip (by kernel_rfl) ?_
    refine x_skip (by kernel_rfl) ?_
    refine x_val (.bool false) (by kernel_rfl) rfl (by kernel_rfl) ?_
    refine x_val (.bool false) (by kernel_rfl) rfl (by kernel_rfl) ?_
    refine x_nil ?_
    refine x_then ?_
    refine x_retc ?_
    refine x_ret (.bool false) (by kernel_rfl) (by kernel_rfl) ?_
    exact ⟨by rw [decide_eq_false (by omega)], H.below⟩
  · skip
    have h1p := of_decide_eq_true h1
    refine x_val (.pointer (some ⟨g1, 1, none⟩)) (by kernel_rfl) rfl (by kernel_rfl) ?_
    refine x_load1 H 0 g1 1 _ _ (.int .i64 E) rfl (by kernel_rfl) (by kernel_rfl) rfl (by kernel_rfl) ?_
    refine x_callB (.bool (decide (1 ≤ E ∧ E ≤ 65536))) H (by kernel_rfl) rfl (by kernel_rfl) (within_any E 1 65536 _) ?_
    clear H
    intro v3 H
    refine x_val (.bool (decide (1 ≤ E ∧ E ≤ 65536))) (by kernel_rfl) rfl (by kernel_rfl) ?_
    refine x_val (.bool (decide (1 ≤ E ∧ E ≤ 65536))) (by kernel_rfl) rfl (by kernel_rfl) ?_
    refine x_nil ?_
    refine x_then ?_
    refine x_retc ?_
    refine x_ret (.bool (decide (1 ≤ E ∧ E ≤ 65536))) (by kernel_rfl) (by kernel_rfl) ?_
    have e : (decide (1 ≤ E ∧ E ≤ 65536)) = decide (1 ≤ L ∧ L ≤ 65536 ∧ 1 ≤ E ∧ E ≤ 65536) := by rw [decide_eq_decide]; omega
    exact ⟨by rw [e], H.below⟩

set_option maxRecDepth 100000 in
set_option maxHeartbeats 4000000 in
theorem BRight (u v L E : Int) (hL : 1 ≤ E ∧ E ≤ 65536) (w0 : World) :
    Calls Try.prog 107 #[.agg #[.int .i64 u, .int .i64 v], .agg #[.int .i64 L, .int .i64 E]] w0 fun e w' => e = .returned (.bool (decide (RR L E ∧ RB E (u, v)))) ∧ Below w0.heap.size w0 w' := by
  refine x_enter Try.func107 rfl #[.agg #[.int .i64 u, .int .i64 v], .agg #[.int .i64 L, .int .i64 E], undef, undef, undef, undef, undef, undef, undef, undef, undef, undef, undef, undef, undef, undef, undef, undef, undef, undef] (by kernel_rfl) ?_
  have H := Hs.nil w0
  unfold RR RB
  refine x_seq ?_
  refine x_region ?_
  refine x_box H #[.int .i64 u, .int .i64 v] 86 (by kernel_rfl) rfl (by kernel_rfl) ?_
  clear H
  intro v1 g1 H
  refine x_box H #[.int .i64 L, .int .i64 E] 78 (by kernel_rfl) rfl (by kernel_rfl) ?_
  clear H
  intro v2 g2 H
  refine x_val (.bool false) (by kernel_rfl) rfl (by kernel_rfl) ?_
  refine x_nil ?_
  refine x_then ?_
  refine x_seq ?_
  refine x_region ?_
  refine x_loadn (t := 78) H 0 g2 0 _ _ [.int .i64 L, .int .i64 E] rfl (by kernel_rfl) (by kernel_rfl) rfl (by kernel_rfl) (by kernel_rfl) ?_
  refine x_callB (.bool (decide (RR L E))) H (by kernel_rfl) rfl (by kernel_rfl) (RRight L E _) ?_
  clear H
  intro v3 H
  refine x_val (.bool (decide (RR L E))) (by kernel_rfl) rfl (by kernel_rfl) ?_
  cases h1 : decide (RR L E)
  · skip
    have h1p := of_decide_eq_false h1
    refine x_skip (by kernel_rfl) ?_
    refine x_skip (by kernel_rfl) ?_
    refine x_skip (by kernel_rfl) ?_
    refine x_val (.bool false) (by kernel_rfl) rfl (by kernel_rfl) ?_
    refine x_val (.bool false) (by kernel_rfl) rfl (by kernel_rfl) ?_
    refine x_skip (by kernel_rfl) ?_
    refine x_skip (by kernel_rfl) ?_
    refine x_skip (by kernel_rfl) ?_
    refine x_skip (by kernel_rfl) ?_
    refine x_skip (by kernel_rfl) ?_
    refine x_skip (by kernel_rfl) ?_
    refine x_val (.bool false) (by kernel_rfl) rfl (by kernel_rfl) ?_
    refine x_val (.bool false) (by kernel_rfl) rfl (by kernel_rfl) ?_
    refine x_nil ?_
    refine x_then ?_
    refine x_retc ?_
    refine x_ret (.bool false) (by kernel_rfl) (by kernel_rfl) ?_
    exact ⟨by rw [decide_eq_false (by omega)], H.below⟩
  · skip
    have h1p := of_decide_eq_true h1
    refine x_val (.pointer (some ⟨g1, 0, none⟩)) (by kernel_rfl) rfl (by kernel_rfl) ?_
    refine x_load1 H 1 g1 0 _ _ (.int .i64 u) rfl (by kernel_rfl) (by kernel_rfl) rfl (by kernel_rfl) ?_
    refine x_callB (.bool (decide (0 ≤ u ∧ u ≤ 65536))) H (by kernel_rfl) rfl (by kernel_rfl) (within_any u 0 65536 _) ?_
    clear H
    intro v4 H
    refine x_val (.bool (decide (0 ≤ u ∧ u ≤ 65536))) (by kernel_rfl) rfl (by kernel_rfl) ?_
    refine x_val (.bool (decide (0 ≤ u ∧ u ≤ 65536))) (by kernel_rfl) rfl (by kernel_rfl) ?_
    cases h2 : decide (0 ≤ u ∧ u ≤ 65536)
    · skip
      have h2p := of_decide_eq_false h2
      refine x_skip (by kernel_rfl) ?_
      refine x_skip (by kernel_rfl) ?_
      refine x_skip (by kernel_rfl) ?_
      refine x_skip (by kernel_rfl) ?_
      refine x_skip (by kernel_rfl) ?_
      refine x_skip (by kernel_rfl) ?_
      refine x_val (.bool false) (by kernel_rfl) rfl (by kernel_rfl) ?_
      refine x_val (.bool false) (by kernel_rfl) rfl (by kernel_rfl) ?_
      refine x_nil ?_
      refine x_then ?_
      refine x_retc ?_
      refine x_ret (.bool false) (by kernel_rfl) (by kernel_rfl) ?_
      exact ⟨by rw [decide_eq_false (by omega)], H.below⟩
    · skip
      have h2p := of_decide_eq_true h2
      refine x_val (.pointer (some ⟨g1, 1, none⟩)) (by kernel_rfl) rfl (by kernel_rfl) ?_
      refine x_load1 H 1 g1 1 _ _ (.int .i64 v) rfl (by kernel_rfl) (by kernel_rfl) rfl (by kernel_rfl) ?_
      refine x_val (.pointer (some ⟨g2, 1, none⟩)) (by kernel_rfl) rfl (by kernel_rfl) ?_
      refine x_load1 H 0 g2 1 _ _ (.int .i64 E) rfl (by kernel_rfl) (by kernel_rfl) rfl (by kernel_rfl) ?_
      refine x_ar (E - 1) ⟨by omega, by omega⟩ (by kernel_rfl) rfl (by kernel_rfl) ?_
      refine x_callB (.bool (decide (0 ≤ v ∧ v ≤ E - 1))) H (by kernel_rfl) rfl (by kernel_rfl) (within_any v 0 (E - 1) _) ?_
      clear H
      intro v5 H
      refine x_val (.bool (decide (0 ≤ v ∧ v ≤ E - 1))) (by kernel_rfl) rfl (by kernel_rfl) ?_
      refine x_val (.bool (decide (0 ≤ v ∧ v ≤ E - 1))) (by kernel_rfl) rfl (by kernel_rfl) ?_
      refine x_nil ?_
      refine x_then ?_
      refine x_retc ?_
      refine x_ret (.bool (decide (0 ≤ v ∧ v ≤ E - 1))) (by kernel_rfl) (by kernel_rfl) ?_
      have e : (decide (0 ≤ v ∧ v ≤ E - 1)) = decide ((1 ≤ L ∧ L ≤ 65536 ∧ 1 ≤ E ∧ E ≤ 65536) ∧ (0 ≤ u ∧ u ≤ 65536 ∧ 0 ≤ v ∧ v ≤ E - 1)) := by rw [decide_eq_decide]; omega
      exact ⟨by rw [e], H.below⟩

theorem BRight_yes (u v L E : Int) (hr : RR L E) (hb : RB E (u, v)) (w0 : World) : Calls Try.prog 107 #[.agg #[.int .i64 u, .int .i64 v], .agg #[.int .i64 L, .int .i64 E]] w0 fun e w' => e = .returned (.bool true) ∧ Below w0.heap.size w0 w' := by
  have h := BRight u v L E ⟨hr.2.2.1, hr.2.2.2⟩ w0
  rw [decide_eq_true (show RR L E ∧ RB E (u, v) from ⟨hr, hb⟩)] at h
  exact h

set_option maxRecDepth 100000 in
set_option maxHeartbeats 4000000 in
theorem Fill_ok (L E u v n : Int) (hr : RR L E) (hb : RB E (u, v)) (hn : 0 ≤ n) (w0 : World) :
    Calls Try.prog 42 #[.agg #[.int .i64 u, .int .i64 v], .agg #[.int .i64 L, .int .i64 E], .int .i64 n] w0 fun e w' => e = .returned (.tuple #[.agg #[.int .i64 ((bfill (u, v) n).1), .int .i64 ((bfill (u, v) n).2)], .bool (bcross L (u, v) n)]) ∧ Below w0.heap.size w0 w' := by
  refine x_enter Try.func42 rfl #[.agg #[.int .i64 u, .int .i64 v], .agg #[.int .i64 L, .int .i64 E], .int .i64 n, undef, undef, undef, undef, undef, undef, undef, undef, undef, undef, undef, undef, undef, undef, undef, undef, undef, undef, undef, undef, undef, undef, undef, undef, undef, undef, undef, undef, undef, undef, undef, undef, undef, undef, undef, undef, undef, undef] (by kernel_rfl) ?_
  have H := Hs.nil w0
  have hb' := hb
  have hr' := hr
  unfold RB at hb'
  unfold RR at hr'
  dsimp only at hb'
  unfold bfill bcross
  dsimp only
  refine x_seq ?_
  refine x_region ?_
  refine x_box H #[.int .i64 u, .int .i64 v] 86 (by kernel_rfl) rfl (by kernel_rfl) ?_
  clear H
  intro v1 g1 H
  refine x_box H #[.int .i64 L, .int .i64 E] 78 (by kernel_rfl) rfl (by kernel_rfl) ?_
  clear H
  intro v2 g2 H
  refine x_box H #[.int .i64 0, .int .i64 0] 86 (by kernel_rfl) rfl (by kernel_rfl) ?_
  clear H
  intro v3 g3 H
  refine x_val (.bool false) (by kernel_rfl) rfl (by kernel_rfl) ?_
  refine x_nil ?_
  refine x_then ?_
  refine x_seq ?_
  refine x_seq ?_
  refine x_region ?_
  refine x_loadn (t := 86) H 2 g1 0 _ _ [.int .i64 u, .int .i64 v] rfl (by kernel_rfl) (by kernel_rfl) rfl (by kernel_rfl) (by kernel_rfl) ?_
  refine x_loadn (t := 78) H 1 g2 0 _ _ [.int .i64 L, .int .i64 E] rfl (by kernel_rfl) (by kernel_rfl) rfl (by kernel_rfl) (by kernel_rfl) ?_
  refine x_callB (.bool true) H (by kernel_rfl) rfl (by kernel_rfl) (BRight_yes u v L E hr hb _) ?_
  clear H
  intro v4 H
  refine x_val (.bool false) (by kernel_rfl) rfl (by kernel_rfl) ?_
  refine x_val (.bool false) (by kernel_rfl) rfl (by kernel_rfl) ?_
  refine x_val (.int .i64 n) (by kernel_rfl) rfl (by kernel_rfl) ?_
  refine x_val (.bool (decide (n < 0))) (by kernel_rfl) rfl (by kernel_rfl) ?_
  refine x_val (.bool (decide (n < 0))) (by kernel_rfl) rfl (by kernel_rfl) ?_
  refine x_nil ?_
  refine x_then ?_
  cases h1 : decide (n < 0)
  · skip
    have h1p := of_decide_eq_false h1
    refine x_f (by kernel_rfl) ?_
    refine x_skipc ?_
    refine x_then ?_
    refine x_seq ?_
    refine x_region ?_
    refine x_val (.pointer (some ⟨g1, 0, none⟩)) (by kernel_rfl) rfl (by kernel_rfl) ?_
    refine x_load1 H 2 g1 0 _ _ (.int .i64 u) rfl (by kernel_rfl) (by kernel_rfl) rfl (by kernel_rfl) ?_
    refine x_val (.int .i64 u) (by kernel_rfl) rfl (by kernel_rfl) ?_
    refine x_nil ?_
    refine x_then ?_
    refine x_seq ?_
    refine x_region ?_
    refine x_val (.pointer (some ⟨g1, 0, none⟩)) (by kernel_rfl) rfl (by kernel_rfl) ?_
    refine x_load1 H 2 g1 0 _ _ (.int .i64 u) rfl (by kernel_rfl) (by kernel_rfl) rfl (by kernel_rfl) ?_
    refine x_val (.int .i64 n) (by kernel_rfl) rfl (by kernel_rfl) ?_
    refine x_val (.pointer (some ⟨g1, 0, none⟩)) (by kernel_rfl) rfl (by kernel_rfl) ?_
    refine x_load1 H 2 g1 0 _ _ (.int .i64 u) rfl (by kernel_rfl) (by kernel_rfl) rfl (by kernel_rfl) ?_
    refine x_ar (65536 - u) ⟨by omega, by omega⟩ (by kernel_rfl) rfl (by kernel_rfl) ?_
    refine x_eq (.int .i64 (min n (65536 - u))) (e_min n (65536 - u)) (by kernel_rfl) rfl (by kernel_rfl) ?_
    refine x_ar (u + (min n (65536 - u))) ⟨by omega, by omega⟩ (by kernel_rfl) rfl (by kernel_rfl) ?_
    refine x_val (.pointer (some ⟨g1, 0, none⟩)) (by kernel_rfl) rfl (by kernel_rfl) ?_
    refine x_store (t := 3) (v := .int .i64 (u + (min n (65536 - u)))) H 2 g1 0 _ #[.int .i64 (u + (min n (65536 - u))), .int .i64 v] 86 [.int .i64 (u + (min n (65536 - u)))] _ rfl rfl (by kernel_rfl) (by kernel_rfl) (by kernel_rfl) rfl (by kernel_rfl) (by kernel_rfl) (by kernel_rfl) (by kernel_rfl) ?_
    clear H
    intro v5 H
    refine x_nil ?_
    refine x_then ?_
    refine x_seq ?_
    cases h2 : decide (u < L)
    · skip
      have h2p := of_decide_eq_false h2
      refine x_region_s 14 (fun w' => Hs [] w0 w' [.blk g2 #[.int .i64 L, .int .i64 E] 78, .blk g1 #[.int .i64 (u + (min n (65536 - u))), .int .i64 v] 86]) (fun w' => Hs [] w0 w' [.blk g3 #[.int .i64 0, .int .i64 0] 86, .blk g2 #[.int .i64 L, .int .i64 E] 78, .blk g1 #[.int .i64 (u + (min n (65536 - u))), .int .i64 v] 86]) (by kernel_rfl) (by kernel_rfl) (by kernel_rfl) hsShut (fun _ h => h.pick [1, 2] _ (by decide) (by kernel_rfl)) H.drew ?_
      refine s_quiet 0 rfl (by kernel_rfl) (y_loadn (t := 86) 1 g1 0 #[.int .i64 (u + (min n (65536 - u))), .int .i64 v] 86 [.int .i64 (u + (min n (65536 - u))), .int .i64 v] (by kernel_rfl) (by kernel_rfl) (by kernel_rfl) (by kernel_rfl) (by kernel_rfl)) ?_
      refine s_quiet 1 rfl (by kernel_rfl) (y_val (.int .i64 u) (by kernel_rfl) (fun _ => by kernel_rfl)) ?_
      refine s_quiet 2 rfl (by kernel_rfl) (y_val (.pointer (some ⟨g2, 0, none⟩)) (by kernel_rfl) (fun _ => by kernel_rfl)) ?_
      refine s_quiet 3 rfl (by kernel_rfl) (y_load1 0 g2 0 #[.int .i64 L, .int .i64 E] 78 (.int .i64 L) (by kernel_rfl) (by kernel_rfl) (by kernel_rfl) (fun _ => by kernel_rfl)) ?_
      refine s_quiet 4 rfl (by kernel_rfl) (y_val (.bool (decide (u < L))) (by kernel_rfl) (fun _ => by kernel_rfl)) ?_
      refine s_quiet 5 rfl (by kernel_rfl) (y_val (.bool (decide (u < L))) (by kernel_rfl) (fun _ => by kernel_rfl)) ?_
      rw [h2]
      refine s_quiet 6 rfl (by kernel_rfl) (y_skip (by kernel_rfl)) ?_
      refine s_quiet 7 rfl (by kernel_rfl) (y_skip (by kernel_rfl)) ?_
      refine s_quiet 8 rfl (by kernel_rfl) (y_skip (by kernel_rfl)) ?_
      refine s_quiet 9 rfl (by kernel_rfl) (y_skip (by kernel_rfl)) ?_
      refine s_quiet 10 rfl (by kernel_rfl) (y_skip (by kernel_rfl)) ?_
      refine s_quiet 11 rfl (by kernel_rfl) (y_val (.bool false) (by kernel_rfl) (fun _ => by kernel_rfl)) ?_
      refine s_one 12 rfl (by kernel_rfl) rfl ?_
      clear H
      intro v6 H
      refine x_store (t := 86) (v := .agg #[.int .i64 (u + (min n (65536 - u))), .int .i64 v]) H 0 g3 0 _ #[.int .i64 (u + (min n (65536 - u))), .int .i64 v] 86 [.int .i64 (u + (min n (65536 - u))), .int .i64 v] _ rfl rfl (by kernel_rfl) (by kernel_rfl) (by kernel_rfl) rfl (by kernel_rfl) (by kernel_rfl) (by kernel_rfl) (by kernel_rfl) ?_
      clear H
      intro v7 H
      refine x_nil ?_
      refine x_then ?_
      refine ⟨fun w' => Hs [] w0 w' [.blk g3 #[.int .i64 (u + (min n (65536 - u))), .int .i64 v] 86, .blk g2 #[.int .i64 L, .int .i64 E] 78, .blk g1 #[.int .i64 (u + (min n (65536 - u))), .int .i64 v] 86], fun w' => Hs [] w0 w' [.blk g3 #[.int .i64 (u + (min n (65536 - u))), .int .i64 v] 86, .blk g2 #[.int .i64 L, .int .i64 E] 78, .blk g1 #[.int .i64 (u + (min n (65536 - u))), .int .i64 v] 86], H, hsShut, fun _ h => h.pick [0, 1, 2] _ (by decide) (by kernel_rfl), fun _ h => h.pick [1, 2] _ (by decide) (by kernel_rfl), ?_⟩
      refine s_quiet 13 rfl (by kernel_rfl) (y_val (.bool false) (by kernel_rfl) (fun _ => by kernel_rfl)) ?_
      refine s_done (by kernel_rfl) ?_
      clear H
      intro v8 H
      refine x_then ?_
      refine x_retc ?_
      refine x_ret (.tuple #[.agg #[.int .i64 (u + (min n (65536 - u))), .int .i64 v], .bool false]) (by kernel_rfl) (x_rescell H 0 g3 0 #[.int .i64 (u + (min n (65536 - u))), .int .i64 v] 86 [.int .i64 (u + (min n (65536 - u))), .int .i64 v] (fun x => .tuple #[x, .bool false]) (by kernel_rfl) (by kernel_rfl) (by kernel_rfl)) ?_
      exact ⟨by simp, H.below⟩
    · skip
      have h2p := of_decide_eq_true h2
      refine x_region_s 14 (fun w' => Hs [] w0 w' [.blk g2 #[.int .i64 L, .int .i64 E] 78, .blk g1 #[.int .i64 (u + (min n (65536 - u))), .int .i64 v] 86]) (fun w' => Hs [] w0 w' [.blk g3 #[.int .i64 0, .int .i64 0] 86, .blk g2 #[.int .i64 L, .int .i64 E] 78, .blk g1 #[.int .i64 (u + (min n (65536 - u))), .int .i64 v] 86]) (by kernel_rfl) (by kernel_rfl) (by kernel_rfl) hsShut (fun _ h => h.pick [1, 2] _ (by decide) (by kernel_rfl)) H.drew ?_
      refine s_quiet 0 rfl (by kernel_rfl) (y_loadn (t := 86) 1 g1 0 #[.int .i64 (u + (min n (65536 - u))), .int .i64 v] 86 [.int .i64 (u + (min n (65536 - u))), .int .i64 v] (by kernel_rfl) (by kernel_rfl) (by kernel_rfl) (by kernel_rfl) (by kernel_rfl)) ?_
      refine s_quiet 1 rfl (by kernel_rfl) (y_val (.int .i64 u) (by kernel_rfl) (fun _ => by kernel_rfl)) ?_
      refine s_quiet 2 rfl (by kernel_rfl) (y_val (.pointer (some ⟨g2, 0, none⟩)) (by kernel_rfl) (fun _ => by kernel_rfl)) ?_
      refine s_quiet 3 rfl (by kernel_rfl) (y_load1 0 g2 0 #[.int .i64 L, .int .i64 E] 78 (.int .i64 L) (by kernel_rfl) (by kernel_rfl) (by kernel_rfl) (fun _ => by kernel_rfl)) ?_
      refine s_quiet 4 rfl (by kernel_rfl) (y_val (.bool (decide (u < L))) (by kernel_rfl) (fun _ => by kernel_rfl)) ?_
      refine s_quiet 5 rfl (by kernel_rfl) (y_val (.bool (decide (u < L))) (by kernel_rfl) (fun _ => by kernel_rfl)) ?_
      rw [h2]
      refine s_quiet 6 rfl (by kernel_rfl) (y_val (.pointer (some ⟨g1, 0, none⟩)) (by kernel_rfl) (fun _ => by kernel_rfl)) ?_
      refine s_quiet 7 rfl (by kernel_rfl) (y_load1 1 g1 0 #[.int .i64 (u + (min n (65536 - u))), .int .i64 v] 86 (.int .i64 (u + (min n (65536 - u)))) (by kernel_rfl) (by kernel_rfl) (by kernel_rfl) (fun _ => by kernel_rfl)) ?_
      refine s_quiet 8 rfl (by kernel_rfl) (y_val (.pointer (some ⟨g2, 0, none⟩)) (by kernel_rfl) (fun _ => by kernel_rfl)) ?_
      refine s_quiet 9 rfl (by kernel_rfl) (y_load1 0 g2 0 #[.int .i64 L, .int .i64 E] 78 (.int .i64 L) (by kernel_rfl) (by kernel_rfl) (by kernel_rfl) (fun _ => by kernel_rfl)) ?_
      refine s_quiet 10 rfl (by kernel_rfl) (y_val (.bool (decide (L ≤ (u + (min n (65536 - u)))))) (by kernel_rfl) (fun _ => by kernel_rfl)) ?_
      refine s_quiet 11 rfl (by kernel_rfl) (y_val (.bool (decide (L ≤ (u + (min n (65536 - u)))))) (by kernel_rfl) (fun _ => by kernel_rfl)) ?_
      refine s_one 12 rfl (by kernel_rfl) rfl ?_
      clear H
      intro v9 H
      refine x_store (t := 86) (v := .agg #[.int .i64 (u + (min n (65536 - u))), .int .i64 v]) H 0 g3 0 _ #[.int .i64 (u + (min n (65536 - u))), .int .i64 v] 86 [.int .i64 (u + (min n (65536 - u))), .int .i64 v] [.blk g3 #[.int .i64 (u + (min n (65536 - u))), .int .i64 v] 86, .blk g2 #[.int .i64 L, .int .i64 E] 78, .blk g1 #[.int .i64 (u + (min n (65536 - u))), .int .i64 v] 86] rfl rfl (by kernel_rfl) (by kernel_rfl) (by kernel_rfl) (by kernel_rfl) (by kernel_rfl) (by kernel_rfl) (by kernel_rfl) (by kernel_rfl) ?_
      clear H
      intro v10 H
      refine x_nil ?_
      refine x_then ?_
      refine ⟨fun w' => Hs [] w0 w' [.blk g3 #[.int .i64 (u + (min n (65536 - u))), .int .i64 v] 86, .blk g2 #[.int .i64 L, .int .i64 E] 78, .blk g1 #[.int .i64 (u + (min n (65536 - u))), .int .i64 v] 86], fun w' => Hs [] w0 w' [.blk g3 #[.int .i64 (u + (min n (65536 - u))), .int .i64 v] 86, .blk g2 #[.int .i64 L, .int .i64 E] 78, .blk g1 #[.int .i64 (u + (min n (65536 - u))), .int .i64 v] 86], H, hsShut, fun _ h => h.pick [0, 1, 2] _ (by decide) (by kernel_rfl), fun _ h => h.pick [1, 2] _ (by decide) (by kernel_rfl), ?_⟩
      refine s_quiet 13 rfl (by kernel_rfl) (y_val (.bool (decide (L ≤ (u + (min n (65536 - u)))))) (by kernel_rfl) (fun _ => by kernel_rfl)) ?_
      refine s_done (by kernel_rfl) ?_
      clear H
      intro v11 H
      refine x_then ?_
      refine x_retc ?_
      refine x_ret (.tuple #[.agg #[.int .i64 (u + (min n (65536 - u))), .int .i64 v], .bool (decide (L ≤ (u + (min n (65536 - u)))))]) (by kernel_rfl) (x_rescell H 0 g3 0 #[.int .i64 (u + (min n (65536 - u))), .int .i64 v] 86 [.int .i64 (u + (min n (65536 - u))), .int .i64 v] (fun x => .tuple #[x, .bool (decide (L ≤ (u + (min n (65536 - u)))))]) (by kernel_rfl) (by kernel_rfl) (by kernel_rfl)) ?_
      exact ⟨by simp, H.below⟩
  · skip
    have h1p := of_decide_eq_true h1
    exact absurd h1p (by omega)

set_option maxRecDepth 100000 in
set_option maxHeartbeats 4000000 in
theorem Tick_ok (L E u v : Int) (hr : RR L E) (hb : RB E (u, v)) (w0 : World) :
    Calls Try.prog 110 #[.agg #[.int .i64 u, .int .i64 v], .agg #[.int .i64 L, .int .i64 E], .int .i64 1] w0 fun e w' => e = .returned (.agg #[.int .i64 ((btick E (u, v)).1), .int .i64 ((btick E (u, v)).2)]) ∧ Below w0.heap.size w0 w' := by
  refine x_enter Try.func110 rfl #[.agg #[.int .i64 u, .int .i64 v], .agg #[.int .i64 L, .int .i64 E], .int .i64 1, undef, undef, undef, undef, undef, undef, undef, undef, undef, undef, undef, undef, undef, undef, undef, undef, undef, undef, undef, undef, undef, undef, undef, undef, undef, undef, undef, undef, undef, undef, undef, undef, undef, undef, undef, undef, undef, undef, undef, undef, undef, undef, undef, undef, undef, undef, undef, undef] (by kernel_rfl) ?_
  have H := Hs.nil w0
  have hb' := hb
  have hr' := hr
  unfold RB at hb'
  unfold RR at hr'
  dsimp only at hb'
  refine x_seq ?_
  refine x_region ?_
  refine x_box H #[.int .i64 u, .int .i64 v] 86 (by kernel_rfl) rfl (by kernel_rfl) ?_
  clear H
  intro v1 g1 H
  refine x_box H #[.int .i64 L, .int .i64 E] 78 (by kernel_rfl) rfl (by kernel_rfl) ?_
  clear H
  intro v2 g2 H
  refine x_box H #[.int .i64 0, .int .i64 0] 86 (by kernel_rfl) rfl (by kernel_rfl) ?_
  clear H
  intro v3 g3 H
  refine x_nil ?_
  refine x_then ?_
  refine x_seq ?_
  refine x_seq ?_
  refine x_region ?_
  refine x_loadn (t := 86) H 2 g1 0 _ _ [.int .i64 u, .int .i64 v] rfl (by kernel_rfl) (by kernel_rfl) rfl (by kernel_rfl) (by kernel_rfl) ?_
  refine x_loadn (t := 78) H 1 g2 0 _ _ [.int .i64 L, .int .i64 E] rfl (by kernel_rfl) (by kernel_rfl) rfl (by kernel_rfl) (by kernel_rfl) ?_
  refine x_callB (.bool true) H (by kernel_rfl) rfl (by kernel_rfl) (BRight_yes u v L E hr hb _) ?_
  clear H
  intro v4 H
  refine x_val (.bool false) (by kernel_rfl) rfl (by kernel_rfl) ?_
  refine x_val (.bool false) (by kernel_rfl) rfl (by kernel_rfl) ?_
  refine x_val (.int .i64 1) (by kernel_rfl) rfl (by kernel_rfl) ?_
  refine x_val (.bool false) (by kernel_rfl) rfl (by kernel_rfl) ?_
  refine x_val (.bool false) (by kernel_rfl) rfl (by kernel_rfl) ?_
  refine x_nil ?_
  refine x_then ?_
  refine x_f (by kernel_rfl) ?_
  refine x_skipc ?_
  refine x_then ?_
  refine x_seq ?_
  refine x_region ?_
  refine x_val (.pointer (some ⟨g2, 1, none⟩)) (by kernel_rfl) rfl (by kernel_rfl) ?_
  refine x_load1 H 1 g2 1 _ _ (.int .i64 E) rfl (by kernel_rfl) (by kernel_rfl) rfl (by kernel_rfl) ?_
  refine x_val (.pointer (some ⟨g1, 1, none⟩)) (by kernel_rfl) rfl (by kernel_rfl) ?_
  refine x_load1 H 2 g1 1 _ _ (.int .i64 v) rfl (by kernel_rfl) (by kernel_rfl) rfl (by kernel_rfl) ?_
  refine x_ar (E - v) ⟨by omega, by omega⟩ (by kernel_rfl) rfl (by kernel_rfl) ?_
  refine x_val (.int .i64 (E - v)) (by kernel_rfl) rfl (by kernel_rfl) ?_
  refine x_nil ?_
  refine x_then ?_
  refine x_seq ?_
  refine x_seq ?_
  refine x_region ?_
  refine x_val (.int .i64 1) (by kernel_rfl) rfl (by kernel_rfl) ?_
  refine x_val (.int .i64 (E - v)) (by kernel_rfl) rfl (by kernel_rfl) ?_
  refine x_val (.bool (decide (1 < (E - v)))) (by kernel_rfl) rfl (by kernel_rfl) ?_
  refine x_nil ?_
  refine x_then ?_
  cases h1 : decide (1 < (E - v))
  · skip
    have h1p := of_decide_eq_false h1
    refine x_f (by kernel_rfl) ?_
    refine x_skipc ?_
    refine x_then ?_
    refine x_seq ?_
    refine x_region ?_
    refine x_val (.int .i64 1) (by kernel_rfl) rfl (by kernel_rfl) ?_
    refine x_val (.int .i64 (E - v)) (by kernel_rfl) rfl (by kernel_rfl) ?_
    refine x_ar (1 - (E - v)) ⟨by omega, by omega⟩ (by kernel_rfl) rfl (by kernel_rfl) ?_
    refine x_val (.int .i64 (1 - (E - v))) (by kernel_rfl) rfl (by kernel_rfl) ?_
    refine x_nil ?_
    refine x_then ?_
    refine x_seq ?_
    refine x_region ?_
    have hz0 : 1 - (E - v) = 0 := by omega
    have hz1 : (1 - (E - v)) / E = 0 := by rw [hz0]; simp
    refine x_val (.int .i64 (1 - (E - v))) (by kernel_rfl) rfl (by kernel_rfl) ?_
    refine x_val (.pointer (some ⟨g2, 1, none⟩)) (by kernel_rfl) rfl (by kernel_rfl) ?_
    refine x_load1 H 1 g2 1 _ _ (.int .i64 E) rfl (by kernel_rfl) (by kernel_rfl) rfl (by kernel_rfl) ?_
    refine x_rem (1 - (E - v)) E ((1 - (E - v)) % E) rfl (by omega) (by omega) (by kernel_rfl) rfl (by kernel_rfl) ?_
    refine x_val (.pointer (some ⟨g1, 1, none⟩)) (by kernel_rfl) rfl (by kernel_rfl) ?_
    refine x_store (t := 3) (v := .int .i64 ((1 - (E - v)) % E)) H 2 g1 1 _ #[.int .i64 u, .int .i64 ((1 - (E - v)) % E)] 86 [.int .i64 ((1 - (E - v)) % E)] _ rfl rfl (by kernel_rfl) (by kernel_rfl) (by kernel_rfl) rfl (by kernel_rfl) (by kernel_rfl) (by kernel_rfl) (by kernel_rfl) ?_
    clear H
    intro v5 H
    refine x_nil ?_
    refine x_then ?_
    refine x_seq ?_
    refine x_region_head 11 (fun w' => Hs [] w0 w' [.blk g3 #[.int .i64 0, .int .i64 0] 86, .blk g2 #[.int .i64 L, .int .i64 E] 78, .blk g1 #[.int .i64 u, .int .i64 ((1 - (E - v)) % E)] 86]) (by kernel_rfl) (by kernel_rfl) (by kernel_rfl) H.drew ?_
    simp only [List.take_succ_cons, List.take_zero, List.drop_succ_cons, List.drop_zero]
    refine q_val (.pointer (some ⟨g1, 0, none⟩)) (by kernel_rfl) (fun _ => by kernel_rfl) ?_
    refine q_load1 2 g1 0 #[.int .i64 u, .int .i64 ((1 - (E - v)) % E)] 86 (.int .i64 u) (by kernel_rfl) (by kernel_rfl) (by kernel_rfl) (fun _ => by kernel_rfl) ?_
    refine q_ar (u - 1) ⟨by omega, by omega⟩ (by kernel_rfl) (fun _ => by kernel_rfl) ?_
    refine q_val (.int .i64 (1 - (E - v))) (by kernel_rfl) (fun _ => by kernel_rfl) ?_
    refine q_val (.pointer (some ⟨g2, 1, none⟩)) (by kernel_rfl) (fun _ => by kernel_rfl) ?_
    refine q_load1 1 g2 1 #[.int .i64 L, .int .i64 E] 78 (.int .i64 E) (by kernel_rfl) (by kernel_rfl) (by kernel_rfl) (fun _ => by kernel_rfl) ?_
    refine q_quo (1 - (E - v)) E ((1 - (E - v)) / E) rfl (by omega) ⟨by omega, by omega⟩ (by kernel_rfl) (fun _ => by kernel_rfl) ?_
    refine q_eq (.int .i64 (min ((1 - (E - v)) / E) 65536)) (e_min ((1 - (E - v)) / E) 65536) (by kernel_rfl) (fun _ => by kernel_rfl) ?_
    refine q_ar ((u - 1) - (min ((1 - (E - v)) / E) 65536)) ⟨by omega, by omega⟩ (by kernel_rfl) (fun _ => by kernel_rfl) ?_
    refine q_eq (.int .i64 (max 0 ((u - 1) - (min ((1 - (E - v)) / E) 65536)))) (e_max 0 ((u - 1) - (min ((1 - (E - v)) / E) 65536))) (by kernel_rfl) (fun _ => by kernel_rfl) ?_
    refine q_val (.pointer (some ⟨g1, 0, none⟩)) (by kernel_rfl) (fun _ => by kernel_rfl) ?_
    refine q_nil ?_
    clear H
    intro v6 H
    refine x_store (t := 3) (v := .int .i64 (max 0 ((u - 1) - (min ((1 - (E - v)) / E) 65536)))) H 2 g1 0 _ #[.int .i64 (max 0 ((u - 1) - (min ((1 - (E - v)) / E) 65536))), .int .i64 ((1 - (E - v)) % E)] 86 [.int .i64 (max 0 ((u - 1) - (min ((1 - (E - v)) / E) 65536)))] _ rfl rfl (by kernel_rfl) (by kernel_rfl) (by kernel_rfl) rfl (by kernel_rfl) (by kernel_rfl) (by kernel_rfl) (by kernel_rfl) ?_
    clear H
    intro v7 H
    refine x_nil ?_
    refine x_then ?_
    refine x_seq ?_
    refine x_region ?_
    refine x_loadn (t := 86) H 2 g1 0 _ _ [.int .i64 (max 0 ((u - 1) - (min ((1 - (E - v)) / E) 65536))), .int .i64 ((1 - (E - v)) % E)] rfl (by kernel_rfl) (by kernel_rfl) rfl (by kernel_rfl) (by kernel_rfl) ?_
    refine x_store (t := 86) (v := .agg #[.int .i64 (max 0 ((u - 1) - (min ((1 - (E - v)) / E) 65536))), .int .i64 ((1 - (E - v)) % E)]) H 0 g3 0 _ #[.int .i64 (max 0 ((u - 1) - (min ((1 - (E - v)) / E) 65536))), .int .i64 ((1 - (E - v)) % E)] 86 [.int .i64 (max 0 ((u - 1) - (min ((1 - (E - v)) / E) 65536))), .int .i64 ((1 - (E - v)) % E)] _ rfl rfl (by kernel_rfl) (by kernel_rfl) (by kernel_rfl) rfl (by kernel_rfl) (by kernel_rfl) (by kernel_rfl) (by kernel_rfl) ?_
    clear H
    intro v8 H
    refine x_nil ?_
    refine x_then ?_
    refine x_retc ?_
    refine x_ret (.agg #[.int .i64 (max 0 ((u - 1) - (min ((1 - (E - v)) / E) 65536))), .int .i64 ((1 - (E - v)) % E)]) (by kernel_rfl) (x_rescell H 0 g3 0 #[.int .i64 (max 0 ((u - 1) - (min ((1 - (E - v)) / E) 65536))), .int .i64 ((1 - (E - v)) % E)] 86 [.int .i64 (max 0 ((u - 1) - (min ((1 - (E - v)) / E) 65536))), .int .i64 ((1 - (E - v)) % E)] (fun x => x) (by kernel_rfl) (by kernel_rfl) (by kernel_rfl)) ?_
    have e : ((max 0 ((u - 1) - (min ((1 - (E - v)) / E) 65536)), (1 - (E - v)) % E) : Buk) = btick E (u, v) := by first | exact tick_on (by omega) | exact tick_off (by omega) (by omega)
    exact ⟨by rw [← e], H.below⟩
  · skip
    have h1p := of_decide_eq_true h1
    refine x_t (by kernel_rfl) ?_
    refine x_seq ?_
    refine x_region ?_
    refine x_val (.pointer (some ⟨g1, 1, none⟩)) (by kernel_rfl) rfl (by kernel_rfl) ?_
    refine x_load1 H 2 g1 1 _ _ (.int .i64 v) rfl (by kernel_rfl) (by kernel_rfl) rfl (by kernel_rfl) ?_
    refine x_val (.int .i64 1) (by kernel_rfl) rfl (by kernel_rfl) ?_
    refine x_ar (v + 1) ⟨by omega, by omega⟩ (by kernel_rfl) rfl (by kernel_rfl) ?_
    refine x_val (.pointer (some ⟨g1, 1, none⟩)) (by kernel_rfl) rfl (by kernel_rfl) ?_
    refine x_store (t := 3) (v := .int .i64 (v + 1)) H 2 g1 1 _ #[.int .i64 u, .int .i64 (v + 1)] 86 [.int .i64 (v + 1)] _ rfl rfl (by kernel_rfl) (by kernel_rfl) (by kernel_rfl) rfl (by kernel_rfl) (by kernel_rfl) (by kernel_rfl) (by kernel_rfl) ?_
    clear H
    intro v9 H
    refine x_nil ?_
    refine x_then ?_
    refine x_seq ?_
    refine x_region ?_
    refine x_loadn (t := 86) H 2 g1 0 _ _ [.int .i64 u, .int .i64 (v + 1)] rfl (by kernel_rfl) (by kernel_rfl) rfl (by kernel_rfl) (by kernel_rfl) ?_
    refine x_store (t := 86) (v := .agg #[.int .i64 u, .int .i64 (v + 1)]) H 0 g3 0 _ #[.int .i64 u, .int .i64 (v + 1)] 86 [.int .i64 u, .int .i64 (v + 1)] [.blk g3 #[.int .i64 u, .int .i64 (v + 1)] 86, .blk g2 #[.int .i64 L, .int .i64 E] 78, .blk g1 #[.int .i64 u, .int .i64 (v + 1)] 86] rfl rfl (by kernel_rfl) (by kernel_rfl) (by kernel_rfl) (by kernel_rfl) (by kernel_rfl) (by kernel_rfl) (by kernel_rfl) (by kernel_rfl) ?_
    clear H
    intro v10 H
    refine x_nil ?_
    refine x_then ?_
    refine x_retc ?_
    refine x_then_ret ?_
    refine x_ret (.agg #[.int .i64 u, .int .i64 (v + 1)]) (by kernel_rfl) (x_rescell H 0 g3 0 #[.int .i64 u, .int .i64 (v + 1)] 86 [.int .i64 u, .int .i64 (v + 1)] (fun x => x) (by kernel_rfl) (by kernel_rfl) (by kernel_rfl)) ?_
    have e : ((u, v + 1) : Buk) = btick E (u, v) := by first | exact tick_on (by omega) | exact tick_off (by omega) (by omega)
    exact ⟨by rw [← e], H.below⟩

end Go.Proofs.Ytgpalgbdacoagaa
