/- The law TrackSums, walked. -/
import Derived.Test.YtgpalgbdacoagaaTrkF
import Derived.Test.YtgpalgbdacoagaaRat
namespace Go.Proofs.Ytgpalgbdacoagaa
open Go Go.RowKit
set_option linter.unusedVariables false
set_option linter.unusedSimpArgs false

set_option maxRecDepth 100000 in
set_option maxHeartbeats 4000000 in
theorem sums_bad (rL rE pL pE hv room ranks rank : Int) (ad : Option Addr) (nA cA : Nat) (hb : ¬ Rul rL rE pL pE room hv) (w0 : World) :
    Calls Try.prog 6 #[.agg #[.int .i64 rL, .int .i64 rE, .int .i64 pL, .int .i64 pE, .int .i64 room, .int .i64 hv], .int .i64 ranks, .slice ad nA cA, .int .i64 rank] w0 fun e w' => e = .returned (.bool true) ∧ Below w0.heap.size w0 w' := by
  refine x_enter Try.func6 rfl #[.agg #[.int .i64 rL, .int .i64 rE, .int .i64 pL, .int .i64 pE, .int .i64 room, .int .i64 hv], .int .i64 ranks, .slice ad nA cA, .int .i64 rank, undef, undef, undef, undef, undef, undef, undef, undef, undef, undef, undef, undef, undef, undef, undef, undef, undef, undef, undef, undef, undef, undef, undef, undef, undef, undef, undef, undef, undef, undef, undef, undef, undef, undef, undef, undef, undef, undef, undef, undef, undef, undef, undef, undef, undef, undef, undef, undef, undef, undef, undef, undef, undef, undef, undef, undef, undef, undef, undef, undef, undef, undef, undef, undef, undef, undef, undef, undef, undef, undef, undef, undef, undef, undef, undef, undef, undef, undef, undef, undef, undef, undef, undef, undef, undef, undef, undef, undef, undef, undef, undef, undef, undef, undef, undef, undef, undef, undef, undef, undef, undef, undef, undef, undef, undef, undef, undef, undef, undef, undef, undef, undef, undef, undef, undef, undef, undef, undef, undef] (by kernel_rfl) ?_
  have H := Hs.nil w0
  refine x_seq ?_
  refine x_region ?_
  refine x_box H #[.int .i64 rL, .int .i64 rE, .int .i64 pL, .int .i64 pE, .int .i64 room, .int .i64 hv] 80 (by kernel_rfl) rfl (by kernel_rfl) ?_
  clear H
  intro v1 g1 H
  refine x_val (.bool false) (by kernel_rfl) rfl (by kernel_rfl) ?_
  refine x_nil ?_
  refine x_then ?_
  refine x_seq ?_
  refine x_seq ?_
  refine x_region ?_
  refine x_callB (.bool true) H (by kernel_rfl) rfl (by kernel_rfl) (anchor18 _) ?_
  clear H
  intro v2 H
  refine x_val (.bool false) (by kernel_rfl) rfl (by kernel_rfl) ?_
  refine x_nil ?_
  refine x_then ?_
  refine x_f (by kernel_rfl) ?_
  refine x_skipc ?_
  refine x_then ?_
  refine x_seq ?_
  refine x_region ?_
  refine x_loadn (t := 80) H 0 g1 0 #[.int .i64 rL, .int .i64 rE, .int .i64 pL, .int .i64 pE, .int .i64 room, .int .i64 hv] 80 [.int .i64 rL, .int .i64 rE, .int .i64 pL, .int .i64 pE, .int .i64 room, .int .i64 hv] (by kernel_rfl) (by kernel_rfl) (by kernel_rfl) rfl (by kernel_rfl) (by kernel_rfl) ?_
  refine x_val (.int .i64 ranks) (by kernel_rfl) rfl (by kernel_rfl) ?_
  refine x_callB (.tuple #[.pointer none, .int .i64 22]) H (by kernel_rfl) rfl (by kernel_rfl) (TkNew_bad rL rE pL pE room hv ranks hb _) ?_
  clear H
  intro v3 H
  refine x_val (.tuple #[.pointer none, .int .i64 22]) (by kernel_rfl) rfl (by kernel_rfl) ?_
  refine x_val (.pointer none) (by kernel_rfl) rfl (by kernel_rfl) ?_
  refine x_val (.int .i64 22) (by kernel_rfl) rfl (by kernel_rfl) ?_
  refine x_val (.pointer none) (by kernel_rfl) rfl (by kernel_rfl) ?_
  refine x_val (.int .i64 22) (by kernel_rfl) rfl (by kernel_rfl) ?_
  refine x_nil ?_
  refine x_then ?_
  refine x_seq ?_
  refine x_seq ?_
  refine x_region ?_
  refine x_val (.int .i64 22) (by kernel_rfl) rfl (by kernel_rfl) ?_
  refine x_val (.bool true) (by kernel_rfl) rfl (by kernel_rfl) ?_
  refine x_val (.bool true) (by kernel_rfl) rfl (by kernel_rfl) ?_
  refine x_skip (by kernel_rfl) ?_
  refine x_skip (by kernel_rfl) ?_
  refine x_val (.bool true) (by kernel_rfl) rfl (by kernel_rfl) ?_
  refine x_val (.bool true) (by kernel_rfl) rfl (by kernel_rfl) ?_
  refine x_skip (by kernel_rfl) ?_
  refine x_skip (by kernel_rfl) ?_
  refine x_val (.bool true) (by kernel_rfl) rfl (by kernel_rfl) ?_
  refine x_val (.bool true) (by kernel_rfl) rfl (by kernel_rfl) ?_
  refine x_skip (by kernel_rfl) ?_
  refine x_skip (by kernel_rfl) ?_
  refine x_skip (by kernel_rfl) ?_
  refine x_val (.bool true) (by kernel_rfl) rfl (by kernel_rfl) ?_
  refine x_val (.bool true) (by kernel_rfl) rfl (by kernel_rfl) ?_
  refine x_skip (by kernel_rfl) ?_
  refine x_skip (by kernel_rfl) ?_
  refine x_skip (by kernel_rfl) ?_
  refine x_val (.bool true) (by kernel_rfl) rfl (by kernel_rfl) ?_
  refine x_nil ?_
  refine x_frame' { tmps := #[.agg #[.int .i64 rL, .int .i64 rE, .int .i64 pL, .int .i64 pE, .int .i64 room, .int .i64 hv], .int .i64 ranks, .slice ad nA cA, .int .i64 rank, .pointer (some ⟨g1, 0, none⟩), undef, undef, undef, .bool false, .pointer none, .int .i64 22, undef, undef, undef, undef, undef, undef, .bool true, .bool false, .tuple #[.pointer none, .int .i64 22], .agg #[.int .i64 rL, .int .i64 rE, .int .i64 pL, .int .i64 pE, .int .i64 room, .int .i64 hv], .int .i64 ranks, .tuple #[.pointer none, .int .i64 22], .pointer none, .int .i64 22, .int .i64 22, .bool true, .bool true, undef, undef, .bool true, .bool true, undef, undef, .bool true, .bool true, undef, undef, undef, .bool true, .bool true, undef, undef, undef, .bool true, undef, undef, undef, undef, undef, undef, undef, undef, undef, undef, undef, undef, undef, undef, undef, undef, undef, undef, undef, undef, undef, undef, undef, undef, undef, undef, undef, undef, undef, undef, undef, undef, undef, undef, undef, undef, undef, undef, undef, undef, undef, undef, undef, undef, undef, undef, undef, undef, undef, undef, undef, undef, undef, undef, undef, undef, undef, undef, undef, undef, undef, undef, undef, undef, undef, undef, undef, undef, undef, undef, undef, undef, undef, undef, undef, undef, undef, undef], defers := [] } (by kernel_rfl) ?_
  refine x_then ?_
  refine x_t (by kernel_rfl) ?_
  refine x_seq ?_
  refine x_region ?_
  refine x_val (.bool true) (by kernel_rfl) rfl (by kernel_rfl) ?_
  refine x_nil ?_
  refine x_then ?_
  refine x_retc ?_
  refine x_then_ret ?_
  refine x_ret (.bool true) (by kernel_rfl) (by kernel_rfl) ?_
  exact ⟨rfl, H.below⟩

set_option maxRecDepth 100000 in
set_option maxHeartbeats 4000000 in
theorem sums_rng (rL rE pL pE hv room ranks rank : Int) (ad : Option Addr) (nA cA : Nat) (hb : Rul rL rE pL pE room hv) (hk : ranks < 1 ∨ 8 < ranks) (w0 : World) :
    Calls Try.prog 6 #[.agg #[.int .i64 rL, .int .i64 rE, .int .i64 pL, .int .i64 pE, .int .i64 room, .int .i64 hv], .int .i64 ranks, .slice ad nA cA, .int .i64 rank] w0 fun e w' => e = .returned (.bool true) ∧ Below w0.heap.size w0 w' := by
  refine x_enter Try.func6 rfl #[.agg #[.int .i64 rL, .int .i64 rE, .int .i64 pL, .int .i64 pE, .int .i64 room, .int .i64 hv], .int .i64 ranks, .slice ad nA cA, .int .i64 rank, undef, undef, undef, undef, undef, undef, undef, undef, undef, undef, undef, undef, undef, undef, undef, undef, undef, undef, undef, undef, undef, undef, undef, undef, undef, undef, undef, undef, undef, undef, undef, undef, undef, undef, undef, undef, undef, undef, undef, undef, undef, undef, undef, undef, undef, undef, undef, undef, undef, undef, undef, undef, undef, undef, undef, undef, undef, undef, undef, undef, undef, undef, undef, undef, undef, undef, undef, undef, undef, undef, undef, undef, undef, undef, undef, undef, undef, undef, undef, undef, undef, undef, undef, undef, undef, undef, undef, undef, undef, undef, undef, undef, undef, undef, undef, undef, undef, undef, undef, undef, undef, undef, undef, undef, undef, undef, undef, undef, undef, undef, undef, undef, undef, undef, undef, undef, undef, undef, undef] (by kernel_rfl) ?_
  have H := Hs.nil w0
  refine x_seq ?_
  refine x_region ?_
  refine x_box H #[.int .i64 rL, .int .i64 rE, .int .i64 pL, .int .i64 pE, .int .i64 room, .int .i64 hv] 80 (by kernel_rfl) rfl (by kernel_rfl) ?_
  clear H
  intro v1 g1 H
  refine x_val (.bool false) (by kernel_rfl) rfl (by kernel_rfl) ?_
  refine x_nil ?_
  refine x_then ?_
  refine x_seq ?_
  refine x_seq ?_
  refine x_region ?_
  refine x_callB (.bool true) H (by kernel_rfl) rfl (by kernel_rfl) (anchor18 _) ?_
  clear H
  intro v2 H
  refine x_val (.bool false) (by kernel_rfl) rfl (by kernel_rfl) ?_
  refine x_nil ?_
  refine x_then ?_
  refine x_f (by kernel_rfl) ?_
  refine x_skipc ?_
  refine x_then ?_
  refine x_seq ?_
  refine x_region ?_
  refine x_loadn (t := 80) H 0 g1 0 #[.int .i64 rL, .int .i64 rE, .int .i64 pL, .int .i64 pE, .int .i64 room, .int .i64 hv] 80 [.int .i64 rL, .int .i64 rE, .int .i64 pL, .int .i64 pE, .int .i64 room, .int .i64 hv] (by kernel_rfl) (by kernel_rfl) (by kernel_rfl) rfl (by kernel_rfl) (by kernel_rfl) ?_
  refine x_val (.int .i64 ranks) (by kernel_rfl) rfl (by kernel_rfl) ?_
  refine x_callB (.tuple #[.pointer none, .int .i64 12]) H (by kernel_rfl) rfl (by kernel_rfl) (TkNew_rng rL rE pL pE room hv ranks hb hk _) ?_
  clear H
  intro v3 H
  refine x_val (.tuple #[.pointer none, .int .i64 12]) (by kernel_rfl) rfl (by kernel_rfl) ?_
  refine x_val (.pointer none) (by kernel_rfl) rfl (by kernel_rfl) ?_
  refine x_val (.int .i64 12) (by kernel_rfl) rfl (by kernel_rfl) ?_
  refine x_val (.pointer none) (by kernel_rfl) rfl (by kernel_rfl) ?_
  refine x_val (.int .i64 12) (by kernel_rfl) rfl (by kernel_rfl) ?_
  refine x_nil ?_
  refine x_then ?_
  refine x_seq ?_
  refine x_seq ?_
  refine x_region ?_
  refine x_val (.int .i64 12) (by kernel_rfl) rfl (by kernel_rfl) ?_
  refine x_val (.bool true) (by kernel_rfl) rfl (by kernel_rfl) ?_
  refine x_val (.bool true) (by kernel_rfl) rfl (by kernel_rfl) ?_
  refine x_skip (by kernel_rfl) ?_
  refine x_skip (by kernel_rfl) ?_
  refine x_val (.bool true) (by kernel_rfl) rfl (by kernel_rfl) ?_
  refine x_val (.bool true) (by kernel_rfl) rfl (by kernel_rfl) ?_
  refine x_skip (by kernel_rfl) ?_
  refine x_skip (by kernel_rfl) ?_
  refine x_val (.bool true) (by kernel_rfl) rfl (by kernel_rfl) ?_
  refine x_val (.bool true) (by kernel_rfl) rfl (by kernel_rfl) ?_
  refine x_skip (by kernel_rfl) ?_
  refine x_skip (by kernel_rfl) ?_
  refine x_skip (by kernel_rfl) ?_
  refine x_val (.bool true) (by kernel_rfl) rfl (by kernel_rfl) ?_
  refine x_val (.bool true) (by kernel_rfl) rfl (by kernel_rfl) ?_
  refine x_skip (by kernel_rfl) ?_
  refine x_skip (by kernel_rfl) ?_
  refine x_skip (by kernel_rfl) ?_
  refine x_val (.bool true) (by kernel_rfl) rfl (by kernel_rfl) ?_
  refine x_nil ?_
  refine x_frame' { tmps := #[.agg #[.int .i64 rL, .int .i64 rE, .int .i64 pL, .int .i64 pE, .int .i64 room, .int .i64 hv], .int .i64 ranks, .slice ad nA cA, .int .i64 rank, .pointer (some ⟨g1, 0, none⟩), undef, undef, undef, .bool false, .pointer none, .int .i64 12, undef, undef, undef, undef, undef, undef, .bool true, .bool false, .tuple #[.pointer none, .int .i64 12], .agg #[.int .i64 rL, .int .i64 rE, .int .i64 pL, .int .i64 pE, .int .i64 room, .int .i64 hv], .int .i64 ranks, .tuple #[.pointer none, .int .i64 12], .pointer none, .int .i64 12, .int .i64 12, .bool true, .bool true, undef, undef, .bool true, .bool true, undef, undef, .bool true, .bool true, undef, undef, undef, .bool true, .bool true, undef, undef, undef, .bool true, undef, undef, undef, undef, undef, undef, undef, undef, undef, undef, undef, undef, undef, undef, undef, undef, undef, undef, undef, undef, undef, undef, undef, undef, undef, undef, undef, undef, undef, undef, undef, undef, undef, undef, undef, undef, undef, undef, undef, undef, undef, undef, undef, undef, undef, undef, undef, undef, undef, undef, undef, undef, undef, undef, undef, undef, undef, undef, undef, undef, undef, undef, undef, undef, undef, undef, undef, undef, undef, undef, undef, undef, undef, undef, undef, undef, undef, undef], defers := [] } (by kernel_rfl) ?_
  refine x_then ?_
  refine x_t (by kernel_rfl) ?_
  refine x_seq ?_
  refine x_region ?_
  refine x_val (.bool true) (by kernel_rfl) rfl (by kernel_rfl) ?_
  refine x_nil ?_
  refine x_then ?_
  refine x_retc ?_
  refine x_then_ret ?_
  refine x_ret (.bool true) (by kernel_rfl) (by kernel_rfl) ?_
  exact ⟨rfl, H.below⟩

theorem sums_same {ranks i : Nat} {rs : List Buk} {b : Buk} (hi : i < ranks) (hbi : b = rs.getD i (0, 0)) : rgetI ranks rs ((i : Nat) : Int) = b := by
  unfold rgetI; rw [if_pos (by omega)]; exact hbi.symm
theorem sums_tick {ranks room i : Nat} {rE pE : Int} {rs : List Buk} {xs : List PairB} {b : Buk} (hk : TOk ranks room rE pE rs xs) (hi : i < ranks) (hbi : b = rs.getD i (0, 0)) : rgetI ranks (List.map (btick rE) rs) ((i : Nat) : Int) = btick rE b := by
  unfold rgetI; rw [if_pos (by omega), hbi]
  have := hk.n
  simp [List.getD, show i < rs.length by omega]
theorem sums_in {ranks room i : Nat} {rE pE rank n : Int} {rs : List Buk} {xs : List PairB} {b : Buk} (hk : TOk ranks room rE pE rs xs) (hi : i < ranks) (hbi : b = rs.getD i (0, 0)) (hr : rank = ((i : Nat) : Int)) (hn : 0 ≤ n) : rgetI ranks (nRs ranks rs rank n) ((i : Nat) : Int) = bfill b n := by
  have := hk.n
  unfold rgetI nRs nOk; rw [if_pos (by omega), if_pos (decide_eq_true (by omega)), hr, hbi]
  simp [List.getD, show i < rs.length by omega]
theorem sums_out {ranks room i : Nat} {rE pE rank n : Int} {rs : List Buk} {xs : List PairB} {b : Buk} (hk : TOk ranks room rE pE rs xs) (hi : i < ranks) (hbi : b = rs.getD i (0, 0)) (hr : ¬ rank = ((i : Nat) : Int) ∨ ¬ 0 ≤ n) : rgetI ranks (nRs ranks rs rank n) ((i : Nat) : Int) = b := by
  unfold rgetI nRs nOk; rw [if_pos (by omega)]
  split
  · rename_i h; have h := of_decide_eq_true h
    have : rank.toNat ≠ i := by omega
    simp [List.getD, List.getElem?_set_ne this, hbi]
  · exact hbi.symm
theorem sums_c1 {ranks i : Nat} {rL rank n : Int} {rs : List Buk} {b : Buk} (hi : i < ranks) (hbi : b = rs.getD i (0, 0)) (hr : rank = ((i : Nat) : Int)) (hn : 0 ≤ n) : nC1 rL ranks rs rank n = bcross rL b n := by
  unfold nC1 nOk; rw [decide_eq_true (by omega), Bool.true_and, hr, hbi, Int.toNat_natCast]
theorem sums_c0 {ranks : Nat} {rL rank n : Int} {rs : List Buk} (hn : ¬ 0 ≤ n) : nC1 rL ranks rs rank n = false := by
  unfold nC1 nOk; rw [decide_eq_false (by omega), Bool.false_and]

set_option maxRecDepth 100000 in
set_option maxHeartbeats 4000000 in
theorem sums_yes (rL rE pL pE hv : Int) (room ranks : Nat) (ad : Option Addr) (nA cA : Nat) (i : Nat) (hi : i < ranks) (hlen : nA ≤ 100) (hR : Rul rL rE pL pE ((room : Nat) : Int) hv) (h1 : 1 ≤ ranks) (h2 : ranks ≤ 8) (l : List Int4) (w0 : World) (hA : RAt int4L 4 (0, 0, 0, 0) w0 ad nA l) :
    Calls Try.prog 6 #[.agg #[.int .i64 rL, .int .i64 rE, .int .i64 pL, .int .i64 pE, .int .i64 ((room : Nat) : Int), .int .i64 hv], .int .i64 ((ranks : Nat) : Int), .slice ad nA cA, .int .i64 ((i : Nat) : Int)] w0 fun e w' => e = .returned (.bool true) ∧ Below w0.heap.size w0 w' := by
  refine x_enter Try.func6 rfl #[.agg #[.int .i64 rL, .int .i64 rE, .int .i64 pL, .int .i64 pE, .int .i64 ((room : Nat) : Int), .int .i64 hv], .int .i64 ((ranks : Nat) : Int), .slice ad nA cA, .int .i64 ((i : Nat) : Int), undef, undef, undef, undef, undef, undef, undef, undef, undef, undef, undef, undef, undef, undef, undef, undef, undef, undef, undef, undef, undef, undef, undef, undef, undef, undef, undef, undef, undef, undef, undef, undef, undef, undef, undef, undef, undef, undef, undef, undef, undef, undef, undef, undef, undef, undef, undef, undef, undef, undef, undef, undef, undef, undef, undef, undef, undef, undef, undef, undef, undef, undef, undef, undef, undef, undef, undef, undef, undef, undef, undef, undef, undef, undef, undef, undef, undef, undef, undef, undef, undef, undef, undef, undef, undef, undef, undef, undef, undef, undef, undef, undef, undef, undef, undef, undef, undef, undef, undef, undef, undef, undef, undef, undef, undef, undef, undef, undef, undef, undef, undef, undef, undef, undef, undef, undef, undef, undef, undef] (by kernel_rfl) ?_
  have H := Hs.nil w0
  have q1 : decide (((ranks : Nat) : Int) ≤ ((i : Nat) : Int)) = false := by simp; omega
  have q2 : decide (100 < ((nA : Nat) : Int)) = false := by simp; omega
  have q3 : decide (((i : Nat) : Int) < 0) = false := decide_eq_false (by omega)
  refine x_seq ?_
  refine x_region ?_
  refine x_box H #[.int .i64 rL, .int .i64 rE, .int .i64 pL, .int .i64 pE, .int .i64 ((room : Nat) : Int), .int .i64 hv] 80 (by kernel_rfl) rfl (by kernel_rfl) ?_
  clear H
  intro v1 g1 H
  refine x_val (.bool false) (by kernel_rfl) rfl (by kernel_rfl) ?_
  refine x_nil ?_
  refine x_then ?_
  refine x_seq ?_
  refine x_seq ?_
  refine x_region ?_
  refine x_callB (.bool true) H (by kernel_rfl) rfl (by kernel_rfl) (anchor18 _) ?_
  clear H
  intro v2 H
  refine x_val (.bool false) (by kernel_rfl) rfl (by kernel_rfl) ?_
  refine x_nil ?_
  refine x_then ?_
  refine x_f (by kernel_rfl) ?_
  refine x_skipc ?_
  refine x_then ?_
  refine x_seq ?_
  refine x_region ?_
  refine x_loadn (t := 80) H 0 g1 0 #[.int .i64 rL, .int .i64 rE, .int .i64 pL, .int .i64 pE, .int .i64 ((room : Nat) : Int), .int .i64 hv] 80 [.int .i64 rL, .int .i64 rE, .int .i64 pL, .int .i64 pE, .int .i64 ((room : Nat) : Int), .int .i64 hv] (by kernel_rfl) (by kernel_rfl) (by kernel_rfl) rfl (by kernel_rfl) (by kernel_rfl) ?_
  refine x_val (.int .i64 ((ranks : Nat) : Int)) (by kernel_rfl) rfl (by kernel_rfl) ?_
  refine x_call (by kernel_rfl) rfl (by kernel_rfl) (TkNew_yes rL rE pL pE hv room ranks hR h1 h2 _) ?_
  rintro _ v3 ⟨p, gr, t, rfl, hN'⟩
  refine ⟨_, rfl, ?_⟩
  replace H := H.more hN'
  clear hN'
  replace H : Hs [] w0 _ [.blk p #[.int .i64 rL, .int .i64 rE, .int .i64 pL, .int .i64 pE, .int .i64 ((room : Nat) : Int), .int .i64 hv, .slice (some ⟨gr, 0, none⟩) ranks ranks, .pointer (some ⟨t, 0, none⟩)] 187, .row (.slice (some ⟨gr, 0, none⟩) ranks ranks) 86 2 ranks (List.flatMap bukL (List.replicate ranks (0, 0))), .blk t #[.slice none 0 0, .int .i64 ((room : Nat) : Int), .func (.func 103) #[] #[]] 228, .row (.slice none 0 0) 230 3 (List.length ([] : List PairB)) (List.flatMap pairLB ([] : List PairB)), .blk g1 #[.int .i64 rL, .int .i64 rE, .int .i64 pL, .int .i64 pE, .int .i64 ((room : Nat) : Int), .int .i64 hv] 80] := H
  have hP : TP ranks room rL rE pL pE := ⟨hR.1, hR.2.1, ⟨by have := hR.2.2.1; omega, h2⟩, ⟨by have := hR.2.2.1; omega, h1⟩⟩
  refine x_val (.tuple #[.pointer (some ⟨p, 0, none⟩), .int .i64 0]) (by kernel_rfl) rfl (by kernel_rfl) ?_
  refine x_val (.pointer (some ⟨p, 0, none⟩)) (by kernel_rfl) rfl (by kernel_rfl) ?_
  refine x_val (.int .i64 0) (by kernel_rfl) rfl (by kernel_rfl) ?_
  refine x_val (.pointer (some ⟨p, 0, none⟩)) (by kernel_rfl) rfl (by kernel_rfl) ?_
  refine x_val (.int .i64 0) (by kernel_rfl) rfl (by kernel_rfl) ?_
  refine x_nil ?_
  refine x_then ?_
  refine x_seq ?_
  refine x_seq ?_
  refine x_region ?_
  refine x_val (.int .i64 0) (by kernel_rfl) rfl (by kernel_rfl) ?_
  refine x_val (.bool false) (by kernel_rfl) rfl (by kernel_rfl) ?_
  refine x_val (.bool false) (by kernel_rfl) rfl (by kernel_rfl) ?_
  refine x_val (.pointer (some ⟨p, 0, none⟩)) (by kernel_rfl) rfl (by kernel_rfl) ?_
  refine x_val (.bool false) (by kernel_rfl) rfl (by kernel_rfl) ?_
  refine x_val (.bool false) (by kernel_rfl) rfl (by kernel_rfl) ?_
  refine x_val (.bool false) (by kernel_rfl) rfl (by kernel_rfl) ?_
  refine x_val (.int .i64 ((i : Nat) : Int)) (by kernel_rfl) rfl (by kernel_rfl) ?_
  refine x_val (.bool (decide (((i : Nat) : Int) < 0))) (by kernel_rfl) rfl (by kernel_rfl) ?_
  refine x_val (.bool (decide (((i : Nat) : Int) < 0))) (by kernel_rfl) rfl (by kernel_rfl) ?_
  refine x_val (.bool (decide (((i : Nat) : Int) < 0))) (by kernel_rfl) rfl (by kernel_rfl) ?_
  rw [q3]
  refine x_val (.int .i64 ((i : Nat) : Int)) (by kernel_rfl) rfl (by kernel_rfl) ?_
  refine x_val (.int .i64 ((ranks : Nat) : Int)) (by kernel_rfl) rfl (by kernel_rfl) ?_
  refine x_val (.bool (decide (((ranks : Nat) : Int) ≤ ((i : Nat) : Int)))) (by kernel_rfl) rfl (by kernel_rfl) ?_
  refine x_val (.bool (decide (((ranks : Nat) : Int) ≤ ((i : Nat) : Int)))) (by kernel_rfl) rfl (by kernel_rfl) ?_
  refine x_val (.bool (decide (((ranks : Nat) : Int) ≤ ((i : Nat) : Int)))) (by kernel_rfl) rfl (by kernel_rfl) ?_
  rw [q1]
  refine x_val (.slice ad nA cA) (by kernel_rfl) rfl (by kernel_rfl) ?_
  refine x_val (.int .i64 ((nA : Nat) : Int)) (by kernel_rfl) rfl (by kernel_rfl) ?_
  refine x_val (.bool (decide (100 < ((nA : Nat) : Int)))) (by kernel_rfl) rfl (by kernel_rfl) ?_
  refine x_val (.bool (decide (100 < ((nA : Nat) : Int)))) (by kernel_rfl) rfl (by kernel_rfl) ?_
  refine x_nil ?_
  refine x_frame' { tmps := #[.agg #[.int .i64 rL, .int .i64 rE, .int .i64 pL, .int .i64 pE, .int .i64 ((room : Nat) : Int), .int .i64 hv], .int .i64 ((ranks : Nat) : Int), .slice ad nA cA, .int .i64 ((i : Nat) : Int), .pointer (some ⟨g1, 0, none⟩), undef, undef, undef, .bool false, .pointer (some ⟨p, 0, none⟩), .int .i64 0, undef, undef, undef, undef, undef, undef, .bool true, .bool false, .tuple #[.pointer (some ⟨p, 0, none⟩), .int .i64 0], .agg #[.int .i64 rL, .int .i64 rE, .int .i64 pL, .int .i64 pE, .int .i64 ((room : Nat) : Int), .int .i64 hv], .int .i64 ((ranks : Nat) : Int), .tuple #[.pointer (some ⟨p, 0, none⟩), .int .i64 0], .pointer (some ⟨p, 0, none⟩), .int .i64 0, .int .i64 0, .bool false, .bool false, .pointer (some ⟨p, 0, none⟩), .bool false, .bool false, .bool false, .int .i64 ((i : Nat) : Int), .bool false, .bool false, .bool false, .int .i64 ((i : Nat) : Int), .int .i64 ((ranks : Nat) : Int), .bool false, .bool false, .bool false, .slice ad nA cA, .int .i64 ((nA : Nat) : Int), .bool (decide (100 < ((nA : Nat) : Int))), .bool (decide (100 < ((nA : Nat) : Int))), undef, undef, undef, undef, undef, undef, undef, undef, undef, undef, undef, undef, undef, undef, undef, undef, undef, undef, undef, undef, undef, undef, undef, undef, undef, undef, undef, undef, undef, undef, undef, undef, undef, undef, undef, undef, undef, undef, undef, undef, undef, undef, undef, undef, undef, undef, undef, undef, undef, undef, undef, undef, undef, undef, undef, undef, undef, undef, undef, undef, undef, undef, undef, undef, undef, undef, undef, undef, undef, undef, undef, undef, undef, undef, undef, undef, undef, undef], defers := [] } (by kernel_rfl) ?_
  refine x_then ?_
  rw [q2]
  refine x_f (by kernel_rfl) ?_
  refine x_skipc ?_
  refine x_then ?_
  refine x_seq ?_
  refine x_region ?_
  refine x_box H #[.int .i64 0, .int .i64 0] 86 (by kernel_rfl) rfl (by kernel_rfl) ?_
  clear H
  intro v4 g2 H
  refine x_nil ?_
  refine x_then ?_
  refine x_seq ?_
  refine x_seq ?_
  refine x_region ?_
  skip
  refine x_val (.slice ad nA cA) (by kernel_rfl) rfl (by kernel_rfl) ?_
  refine x_val (.int .i64 ((nA : Nat) : Int)) (by kernel_rfl) rfl (by kernel_rfl) ?_
  refine x_val (.int .i64 0) (by kernel_rfl) rfl (by kernel_rfl) ?_
  refine x_nil ?_
  refine x_then ?_
  refine x_block ?_
  have hk0 := TOk.new hP
  replace H := H.pick [1, 2, 3, 4, 0, 5] [.blk p #[.int .i64 rL, .int .i64 rE, .int .i64 pL, .int .i64 pE, .int .i64 ((room : Nat) : Int), .int .i64 hv, .slice (some ⟨gr, 0, none⟩) ranks ranks, .pointer (some ⟨t, 0, none⟩)] 187, .row (.slice (some ⟨gr, 0, none⟩) ranks ranks) 86 2 ranks (List.flatMap bukL (List.replicate ranks (0, 0))), .blk t #[.slice none 0 0, .int .i64 ((room : Nat) : Int), .func (.func 103) #[] #[]] 228, .row (.slice none 0 0) 230 3 (List.length ([] : List PairB)) (List.flatMap pairLB ([] : List PairB)), .blk g2 #[.int .i64 0, .int .i64 0] 86, .blk g1 #[.int .i64 rL, .int .i64 rE, .int .i64 pL, .int .i64 pE, .int .i64 ((room : Nat) : Int), .int .i64 hv] 80] (by decide) (by kernel_rfl)
  refine x_loop (G := Nat × Value × List Buk × List PairB × Buk) (fun gh a w' => match gh with | (k, sv, rs, xs, b) => ∃ uf1 : Nat → Value, a = { tmps := #[.agg #[.int .i64 rL, .int .i64 rE, .int .i64 pL, .int .i64 pE, .int .i64 ((room : Nat) : Int), .int .i64 hv], .int .i64 ((ranks : Nat) : Int), .slice ad nA cA, .int .i64 ((i : Nat) : Int), .pointer (some ⟨g1, 0, none⟩), undef, undef, undef, (uf1 0), .pointer (some ⟨p, 0, none⟩), .int .i64 0, .pointer (some ⟨g2, 0, none⟩), undef, (uf1 1), (uf1 2), (uf1 3), (uf1 4), .bool true, .bool false, .tuple #[.pointer (some ⟨p, 0, none⟩), .int .i64 0], .agg #[.int .i64 rL, .int .i64 rE, .int .i64 pL, .int .i64 pE, .int .i64 ((room : Nat) : Int), .int .i64 hv], .int .i64 ((ranks : Nat) : Int), .tuple #[.pointer (some ⟨p, 0, none⟩), .int .i64 0], .pointer (some ⟨p, 0, none⟩), .int .i64 0, .int .i64 0, .bool false, .bool false, .pointer (some ⟨p, 0, none⟩), .bool false, .bool false, .bool false, .int .i64 ((i : Nat) : Int), .bool false, .bool false, .bool false, .int .i64 ((i : Nat) : Int), .int .i64 ((ranks : Nat) : Int), .bool false, .bool false, .bool false, .slice ad nA cA, .int .i64 ((nA : Nat) : Int), .bool false, .bool false, .slice ad nA cA, .int .i64 ((nA : Nat) : Int), .int .i64 ((k : Nat) : Int), (uf1 5), (uf1 6), (uf1 7), (uf1 8), (uf1 9), (uf1 10), (uf1 11), (uf1 12), (uf1 13), (uf1 14), (uf1 15), (uf1 16), (uf1 17), (uf1 18), (uf1 19), (uf1 20), (uf1 21), (uf1 22), (uf1 23), (uf1 24), (uf1 25), (uf1 26), (uf1 27), (uf1 28), (uf1 29), (uf1 30), (uf1 31), (uf1 32), (uf1 33), (uf1 34), (uf1 35), (uf1 36), (uf1 37), (uf1 38), (uf1 39), (uf1 40), (uf1 41), (uf1 42), (uf1 43), (uf1 44), (uf1 45), (uf1 46), (uf1 47), (uf1 48), (uf1 49), (uf1 50), (uf1 51), (uf1 52), (uf1 53), (uf1 54), (uf1 55), (uf1 56), (uf1 57), (uf1 58), (uf1 59), (uf1 60), (uf1 61), (uf1 62), (uf1 63), (uf1 64), (uf1 65), (uf1 66), (uf1 67), (uf1 68), (uf1 69), (uf1 70), (uf1 71), (uf1 72), (uf1 73), (uf1 74), (uf1 75), (uf1 76), (uf1 77), (uf1 78), (uf1 79)], defers := [] } ∧ Hs [] w0 w' [.blk p #[.int .i64 rL, .int .i64 rE, .int .i64 pL, .int .i64 pE, .int .i64 ((room : Nat) : Int), .int .i64 hv, .slice (some ⟨gr, 0, none⟩) ranks ranks, .pointer (some ⟨t, 0, none⟩)] 187, .row (.slice (some ⟨gr, 0, none⟩) ranks ranks) 86 2 ranks (List.flatMap bukL rs), .blk t #[sv, .int .i64 ((room : Nat) : Int), .func (.func 103) #[] #[]] 228, .row (sv) 230 3 (List.length xs) (List.flatMap pairLB xs), .blk g2 #[.int .i64 b.1, .int .i64 b.2] 86, .blk g1 #[.int .i64 rL, .int .i64 rE, .int .i64 pL, .int .i64 pE, .int .i64 ((room : Nat) : Int), .int .i64 hv] 80] ∧ (k ≤ nA) ∧ (TOk ranks room rE pE rs xs) ∧ (b = rs.getD i (0, 0))) (fun gh => match gh with | (k, sv, rs, xs, b) => nA - k) (0, .slice none 0 0, (List.replicate ranks (0, 0)), ([] : List PairB), (0, 0)) ⟨(nthV [.bool false, undef, undef, undef, undef, undef, undef, undef, undef, undef, undef, undef, undef, undef, undef, undef, undef, undef, undef, undef, undef, undef, undef, undef, undef, undef, undef, undef, undef, undef, undef, undef, undef, undef, undef, undef, undef, undef, undef, undef, undef, undef, undef, undef, undef, undef, undef, undef, undef, undef, undef, undef, undef, undef, undef, undef, undef, undef, undef, undef, undef, undef, undef, undef, undef, undef, undef, undef, undef, undef, undef, undef, undef, undef, undef, undef, undef, undef, undef, undef]), (by kernel_rfl), H, (Nat.zero_le _), hk0, (by simp [List.getD, hi])⟩ ?_
  clear H
  rintro ⟨k, sv, rs, xs, b⟩ _ v5 ⟨uf1, rfl, H, r1, r2, r3⟩
  have hk := r2
  have hbi := r3
  have hbo : RB rE b := by rw [hbi]; exact getD_ok hP.r.2.2.1 hk.b _
  refine x_seq ?_
  refine x_region ?_
  refine x_val (.bool (decide (((k : Nat) : Int) < ((nA : Nat) : Int)))) (by kernel_rfl) rfl (by kernel_rfl) ?_
  refine x_nil ?_
  refine x_then ?_
  refine x_seq ?_
  cases h1 : decide (((k : Nat) : Int) < ((nA : Nat) : Int))
  · skip
    have h1p := of_decide_eq_false h1
    refine x_f (by kernel_rfl) ?_
    refine x_exit ?_
    refine x_then_exit ?_
    refine x_then_exit ?_
    refine x_blk_exit ?_
    refine x_then ?_
    refine x_seq ?_
    refine x_region ?_
    refine x_val (.bool true) (by kernel_rfl) rfl (by kernel_rfl) ?_
    refine x_nil ?_
    refine x_then ?_
    refine x_retc ?_
    refine x_ret (.bool true) (by kernel_rfl) (by kernel_rfl) ?_
    exact ⟨rfl, H.below⟩
  · skip
    have h1p := of_decide_eq_true h1
    refine x_t (by kernel_rfl) ?_
    refine x_skipc ?_
    refine x_then ?_
    refine x_seq ?_
    refine x_block ?_
    refine x_seq ?_
    refine x_region ?_
    obtain ⟨ga, oa, had, hcell⟩ := hA (by omega)
    refine x_ixO (t := 81) had k nA cA 88 4 (oa + k * 4) (by omega) (by omega) (by kernel_rfl) (by kernel_rfl) (by kernel_rfl) rfl (by kernel_rfl) ?_
    refine x_loadcn (t := 88) ga (oa + k * 4) [.int .i64 ((l.getD k (0, 0, 0, 0)).1), .int .i64 ((l.getD k (0, 0, 0, 0)).2.1), .int .i64 ((l.getD k (0, 0, 0, 0)).2.2.1), .int .i64 ((l.getD k (0, 0, 0, 0)).2.2.2)] (hcell _ H.below k (by omega)) (by kernel_rfl) rfl (by kernel_rfl) (by kernel_rfl) ?_
    refine x_box H #[.int .i64 0, .int .i64 0, .int .i64 0, .int .i64 0] 88 (by kernel_rfl) rfl (by kernel_rfl) ?_
    clear H
    intro v6 g3 H
    refine x_store (t := 88) (v := .agg #[.int .i64 ((l.getD k (0, 0, 0, 0)).1), .int .i64 ((l.getD k (0, 0, 0, 0)).2.1), .int .i64 ((l.getD k (0, 0, 0, 0)).2.2.1), .int .i64 ((l.getD k (0, 0, 0, 0)).2.2.2)]) H 0 g3 0 #[.int .i64 0, .int .i64 0, .int .i64 0, .int .i64 0] #[.int .i64 ((l.getD k (0, 0, 0, 0)).1), .int .i64 ((l.getD k (0, 0, 0, 0)).2.1), .int .i64 ((l.getD k (0, 0, 0, 0)).2.2.1), .int .i64 ((l.getD k (0, 0, 0, 0)).2.2.2)] 88 [.int .i64 ((l.getD k (0, 0, 0, 0)).1), .int .i64 ((l.getD k (0, 0, 0, 0)).2.1), .int .i64 ((l.getD k (0, 0, 0, 0)).2.2.1), .int .i64 ((l.getD k (0, 0, 0, 0)).2.2.2)] [.blk g3 #[.int .i64 ((l.getD k (0, 0, 0, 0)).1), .int .i64 ((l.getD k (0, 0, 0, 0)).2.1), .int .i64 ((l.getD k (0, 0, 0, 0)).2.2.1), .int .i64 ((l.getD k (0, 0, 0, 0)).2.2.2)] 88, .blk p #[.int .i64 rL, .int .i64 rE, .int .i64 pL, .int .i64 pE, .int .i64 ((room : Nat) : Int), .int .i64 hv, .slice (some ⟨gr, 0, none⟩) ranks ranks, .pointer (some ⟨t, 0, none⟩)] 187, .row (.slice (some ⟨gr, 0, none⟩) ranks ranks) 86 2 ranks (List.flatMap bukL rs), .blk t #[sv, .int .i64 ((room : Nat) : Int), .func (.func 103) #[] #[]] 228, .row (sv) 230 3 (List.length xs) (List.flatMap pairLB xs), .blk g2 #[.int .i64 b.1, .int .i64 b.2] 86, .blk g1 #[.int .i64 rL, .int .i64 rE, .int .i64 pL, .int .i64 pE, .int .i64 ((room : Nat) : Int), .int .i64 hv] 80] (by kernel_rfl) rfl (by kernel_rfl) (by kernel_rfl) (by kernel_rfl) (by kernel_rfl) (by kernel_rfl) (by kernel_rfl) (by kernel_rfl) (by kernel_rfl) ?_
    clear H
    intro v7 H
    refine x_nil ?_
    refine x_then ?_
    refine x_seq ?_
    refine x_region ?_
    refine x_val (.bool false) (by kernel_rfl) rfl (by kernel_rfl) ?_
    refine x_nil ?_
    refine x_then ?_
    refine x_seq ?_
    refine x_region ?_
    refine x_val (.pointer (some ⟨p, 0, none⟩)) (by kernel_rfl) rfl (by kernel_rfl) ?_
    refine x_callB (.tuple #[.agg #[.bool false, .bool false], .int .i64 12]) H (by kernel_rfl) rfl (by kernel_rfl) (Note_no 0 0 (-1) (Or.inr (by decide)) _ (H.roOf [1] [.blk p #[.int .i64 rL, .int .i64 rE, .int .i64 pL, .int .i64 pE, .int .i64 ((room : Nat) : Int), .int .i64 hv, .slice (some ⟨gr, 0, none⟩) ranks ranks, .pointer (some ⟨t, 0, none⟩)] 187] (by kernel_rfl))) ?_
    clear H
    intro v8 H
    refine x_val (.tuple #[.agg #[.bool false, .bool false], .int .i64 12]) (by kernel_rfl) rfl (by kernel_rfl) ?_
    refine x_val (.agg #[.bool false, .bool false]) (by kernel_rfl) rfl (by kernel_rfl) ?_
    refine x_val (.int .i64 12) (by kernel_rfl) rfl (by kernel_rfl) ?_
    refine x_box H #[.bool false, .bool false] 90 (by kernel_rfl) rfl (by kernel_rfl) ?_
    clear H
    intro v9 g4 H
    refine x_store (t := 90) (v := .agg #[.bool false, .bool false]) H 0 g4 0 #[.bool false, .bool false] #[.bool false, .bool false] 90 [.bool false, .bool false] [.blk g4 #[.bool false, .bool false] 90, .blk g3 #[.int .i64 ((l.getD k (0, 0, 0, 0)).1), .int .i64 ((l.getD k (0, 0, 0, 0)).2.1), .int .i64 ((l.getD k (0, 0, 0, 0)).2.2.1), .int .i64 ((l.getD k (0, 0, 0, 0)).2.2.2)] 88, .blk p #[.int .i64 rL, .int .i64 rE, .int .i64 pL, .int .i64 pE, .int .i64 ((room : Nat) : Int), .int .i64 hv, .slice (some ⟨gr, 0, none⟩) ranks ranks, .pointer (some ⟨t, 0, none⟩)] 187, .row (.slice (some ⟨gr, 0, none⟩) ranks ranks) 86 2 ranks (List.flatMap bukL rs), .blk t #[sv, .int .i64 ((room : Nat) : Int), .func (.func 103) #[] #[]] 228, .row (sv) 230 3 (List.length xs) (List.flatMap pairLB xs), .blk g2 #[.int .i64 b.1, .int .i64 b.2] 86, .blk g1 #[.int .i64 rL, .int .i64 rE, .int .i64 pL, .int .i64 pE, .int .i64 ((room : Nat) : Int), .int .i64 hv] 80] (by kernel_rfl) rfl (by kernel_rfl) (by kernel_rfl) (by kernel_rfl) (by kernel_rfl) (by kernel_rfl) (by kernel_rfl) (by kernel_rfl) (by kernel_rfl) ?_
    clear H
    intro v10 H
    refine x_val (.int .i64 12) (by kernel_rfl) rfl (by kernel_rfl) ?_
    refine x_nil ?_
    refine x_then ?_
    refine x_seq ?_
    refine x_seq ?_
    refine x_region ?_
    refine x_val (.pointer (some ⟨g3, 0, none⟩)) (by kernel_rfl) rfl (by kernel_rfl) ?_
    refine x_load1 H 1 g3 0 #[.int .i64 ((l.getD k (0, 0, 0, 0)).1), .int .i64 ((l.getD k (0, 0, 0, 0)).2.1), .int .i64 ((l.getD k (0, 0, 0, 0)).2.2.1), .int .i64 ((l.getD k (0, 0, 0, 0)).2.2.2)] 88 (.int .i64 ((l.getD k (0, 0, 0, 0)).1)) (by kernel_rfl) (by kernel_rfl) (by kernel_rfl) rfl (by kernel_rfl) ?_
    refine x_nil ?_
    refine x_then ?_
    refine x_block ?_
    refine x_seq ?_
    refine x_region ?_
    refine x_val (.bool (decide (((l.getD k (0, 0, 0, 0)).1) = 1))) (by kernel_rfl) rfl (by kernel_rfl) ?_
    refine x_val (.bool (decide (((l.getD k (0, 0, 0, 0)).1) = 1))) (by kernel_rfl) rfl (by kernel_rfl) ?_
    refine x_nil ?_
    refine x_then ?_
    cases h2 : decide (((l.getD k (0, 0, 0, 0)).1) = 1)
    · skip
      have h2p := of_decide_eq_false h2
      refine x_f (by kernel_rfl) ?_
      refine x_seq ?_
      refine x_region ?_
      refine x_val (.bool (decide (((l.getD k (0, 0, 0, 0)).1) = 2))) (by kernel_rfl) rfl (by kernel_rfl) ?_
      refine x_val (.bool (decide (((l.getD k (0, 0, 0, 0)).1) = 2))) (by kernel_rfl) rfl (by kernel_rfl) ?_
      refine x_nil ?_
      refine x_then ?_
      cases h3 : decide (((l.getD k (0, 0, 0, 0)).1) = 2)
      · skip
        have h3p := of_decide_eq_false h3
        refine x_f (by kernel_rfl) ?_
        refine x_skipc ?_
        refine x_blk ?_
        refine x_then ?_
        refine x_seq ?_
        refine x_region_whole (fun w' => Hs [] w0 w' [.blk g4 #[.bool false, .bool false] 90, .blk g3 #[.int .i64 ((l.getD k (0, 0, 0, 0)).1), .int .i64 ((l.getD k (0, 0, 0, 0)).2.1), .int .i64 ((l.getD k (0, 0, 0, 0)).2.2.1), .int .i64 ((l.getD k (0, 0, 0, 0)).2.2.2)] 88, .blk p #[.int .i64 rL, .int .i64 rE, .int .i64 pL, .int .i64 pE, .int .i64 ((room : Nat) : Int), .int .i64 hv, .slice (some ⟨gr, 0, none⟩) ranks ranks, .pointer (some ⟨t, 0, none⟩)] 187, .row (.slice (some ⟨gr, 0, none⟩) ranks ranks) 86 2 ranks (List.flatMap bukL rs), .blk t #[sv, .int .i64 ((room : Nat) : Int), .func (.func 103) #[] #[]] 228, .row (sv) 230 3 (List.length xs) (List.flatMap pairLB xs), .blk g2 #[.int .i64 b.1, .int .i64 b.2] 86, .blk g1 #[.int .i64 rL, .int .i64 rE, .int .i64 pL, .int .i64 pE, .int .i64 ((room : Nat) : Int), .int .i64 hv] 80]) (by kernel_rfl) (by kernel_rfl) (by kernel_rfl) H.drew ?_
        refine q_val (.pointer (some ⟨p, 0, none⟩)) (by kernel_rfl) (fun _ => by kernel_rfl) ?_
        refine q_val (.int .i64 ((i : Nat) : Int)) (by kernel_rfl) (fun _ => by kernel_rfl) ?_
        have hb1 : rgetI ranks rs ((i : Nat) : Int) = b := sums_same hi hbi
        refine q_callR (.agg #[.int .i64 b.1, .int .i64 b.2]) (by kernel_rfl) (fun _ => by kernel_rfl) (fun _ H => (by have h := Rank_any ((i : Nat) : Int) hk.n _ (H.roOf [2, 3] [.blk p #[.int .i64 rL, .int .i64 rE, .int .i64 pL, .int .i64 pE, .int .i64 ((room : Nat) : Int), .int .i64 hv, .slice (some ⟨gr, 0, none⟩) ranks ranks, .pointer (some ⟨t, 0, none⟩)] 187, .row (.slice (some ⟨gr, 0, none⟩) ranks ranks) 86 2 ranks (List.flatMap bukL rs)] (by kernel_rfl)); rw [hb1] at h; exact h)) ?_
        refine q_loadn (t := 86) 6 g2 0 #[.int .i64 b.1, .int .i64 b.2] 86 [.int .i64 b.1, .int .i64 b.2] (by kernel_rfl) (by kernel_rfl) (by kernel_rfl) (by kernel_rfl) (by kernel_rfl) ?_
        have h4 : (decide ((b.1 : Int) = b.1) && (decide ((b.2 : Int) = b.2) && true)) = true := by simp
        refine q_val (.bool false) (by kernel_rfl) (fun _ => ((run_neS (t := 86) (x := .tmp 99) (y := .tmp 100) (xs := #[.int .i64 b.1, .int .i64 b.2]) (ys := #[.int .i64 b.1, .int .i64 b.2]) (B := decide ((b.1 : Int) = b.1) && (decide ((b.2 : Int) = b.2) && true)) (by kernel_rfl) (by kernel_rfl) (by kernel_rfl)).trans (by rw [h4]; rfl))) ?_
        refine q_val (.bool false) (by kernel_rfl) (fun _ => by kernel_rfl) ?_
        refine q_val (.bool false) (by kernel_rfl) (fun _ => by kernel_rfl) ?_
        refine q_val (.bool false) (by kernel_rfl) (fun _ => by kernel_rfl) ?_
        refine q_skip (by kernel_rfl) ?_
        refine q_skip (by kernel_rfl) ?_
        refine q_skip (by kernel_rfl) ?_
        refine q_val (.bool false) (by kernel_rfl) (fun _ => by kernel_rfl) ?_
        refine q_val (.bool false) (by kernel_rfl) (fun _ => by kernel_rfl) ?_
        refine q_val (.bool false) (by kernel_rfl) (fun _ => by kernel_rfl) ?_
        refine q_val (.pointer (some ⟨g3, 1, none⟩)) (by kernel_rfl) (fun _ => by kernel_rfl) ?_
        refine q_load1 1 g3 1 #[.int .i64 ((l.getD k (0, 0, 0, 0)).1), .int .i64 ((l.getD k (0, 0, 0, 0)).2.1), .int .i64 ((l.getD k (0, 0, 0, 0)).2.2.1), .int .i64 ((l.getD k (0, 0, 0, 0)).2.2.2)] 88 (.int .i64 ((l.getD k (0, 0, 0, 0)).2.1)) (by kernel_rfl) (by kernel_rfl) (by kernel_rfl) (fun _ => by kernel_rfl) ?_
        refine q_val (.int .i64 ((i : Nat) : Int)) (by kernel_rfl) (fun _ => by kernel_rfl) ?_
        refine q_val (.bool (decide (((l.getD k (0, 0, 0, 0)).2.1) = ((i : Nat) : Int)))) (by kernel_rfl) (fun _ => by kernel_rfl) ?_
        refine q_val (.bool (decide (((l.getD k (0, 0, 0, 0)).2.1) = ((i : Nat) : Int)))) (by kernel_rfl) (fun _ => by kernel_rfl) ?_
        cases h5 : decide (((l.getD k (0, 0, 0, 0)).2.1) = ((i : Nat) : Int))
        · skip
          have h5p := of_decide_eq_false h5
          refine q_skip (by kernel_rfl) ?_
          refine q_skip (by kernel_rfl) ?_
          refine q_skip (by kernel_rfl) ?_
          refine q_skip (by kernel_rfl) ?_
          refine q_val (.bool false) (by kernel_rfl) (fun _ => by kernel_rfl) ?_
          refine q_val (.bool false) (by kernel_rfl) (fun _ => by kernel_rfl) ?_
          refine q_nil ?_
          clear H
          intro v11 H
          refine x_frame' { tmps := #[.agg #[.int .i64 rL, .int .i64 rE, .int .i64 pL, .int .i64 pE, .int .i64 ((room : Nat) : Int), .int .i64 hv], .int .i64 ((ranks : Nat) : Int), .slice ad nA cA, .int .i64 ((i : Nat) : Int), .pointer (some ⟨g1, 0, none⟩), undef, undef, undef, (uf1 0), .pointer (some ⟨p, 0, none⟩), .int .i64 0, .pointer (some ⟨g2, 0, none⟩), undef, .pointer (some ⟨g3, 0, none⟩), .bool false, .pointer (some ⟨g4, 0, none⟩), .int .i64 12, .bool true, .bool false, .tuple #[.pointer (some ⟨p, 0, none⟩), .int .i64 0], .agg #[.int .i64 rL, .int .i64 rE, .int .i64 pL, .int .i64 pE, .int .i64 ((room : Nat) : Int), .int .i64 hv], .int .i64 ((ranks : Nat) : Int), .tuple #[.pointer (some ⟨p, 0, none⟩), .int .i64 0], .pointer (some ⟨p, 0, none⟩), .int .i64 0, .int .i64 0, .bool false, .bool false, .pointer (some ⟨p, 0, none⟩), .bool false, .bool false, .bool false, .int .i64 ((i : Nat) : Int), .bool false, .bool false, .bool false, .int .i64 ((i : Nat) : Int), .int .i64 ((ranks : Nat) : Int), .bool false, .bool false, .bool false, .slice ad nA cA, .int .i64 ((nA : Nat) : Int), .bool false, .bool false, .slice ad nA cA, .int .i64 ((nA : Nat) : Int), .int .i64 ((k : Nat) : Int), .bool true, .pointer (some ⟨ga, oa + k * 4, none⟩), .agg #[.int .i64 ((l.getD k (0, 0, 0, 0)).1), .int .i64 ((l.getD k (0, 0, 0, 0)).2.1), .int .i64 ((l.getD k (0, 0, 0, 0)).2.2.1), .int .i64 ((l.getD k (0, 0, 0, 0)).2.2.2)], .tuple #[.agg #[.bool false, .bool false], .int .i64 12], .pointer (some ⟨p, 0, none⟩), .tuple #[.agg #[.bool false, .bool false], .int .i64 12], .agg #[.bool false, .bool false], .int .i64 12, .pointer (some ⟨g3, 0, none⟩), .int .i64 ((l.getD k (0, 0, 0, 0)).1), .bool false, .bool false, (uf1 17), (uf1 18), (uf1 19), (uf1 20), (uf1 21), (uf1 22), (uf1 23), (uf1 24), (uf1 25), (uf1 26), (uf1 27), (uf1 28), (uf1 29), (uf1 30), (uf1 31), (uf1 32), (uf1 33), (uf1 34), (uf1 35), (uf1 36), (uf1 37), (uf1 38), (uf1 39), (uf1 40), (uf1 41), (uf1 42), (uf1 43), (uf1 44), (uf1 45), .bool false, .bool false, (uf1 48), (uf1 49), (uf1 50), (uf1 51), (uf1 52), (uf1 53), .pointer (some ⟨p, 0, none⟩), .int .i64 ((i : Nat) : Int), .agg #[.int .i64 b.1, .int .i64 b.2], .agg #[.int .i64 b.1, .int .i64 b.2], .bool false, .bool false, .bool false, .bool false, undef, undef, undef, .bool false, .bool false, .bool false, .pointer (some ⟨g3, 1, none⟩), .int .i64 ((l.getD k (0, 0, 0, 0)).2.1), .int .i64 ((i : Nat) : Int), .bool false, .bool false, undef, undef, undef, undef, .bool false, .bool false, (uf1 79)], defers := [] } (by kernel_rfl) ?_
          refine x_then ?_
          refine x_f (by kernel_rfl) ?_
          refine x_skipc ?_
          refine x_blk ?_
          refine x_then ?_
          refine x_region ?_
          refine x_ar (((k : Nat) : Int) + 1) ⟨by omega, by omega⟩ (by kernel_rfl) rfl (by kernel_rfl) ?_
          refine x_val (.int .i64 (((k : Nat) : Int) + 1)) (by kernel_rfl) rfl (by kernel_rfl) ?_
          refine x_nil ?_
          refine x_then ?_
          replace H := H.pick [2, 3, 4, 5, 6, 7] [.blk p #[.int .i64 rL, .int .i64 rE, .int .i64 pL, .int .i64 pE, .int .i64 ((room : Nat) : Int), .int .i64 hv, .slice (some ⟨gr, 0, none⟩) ranks ranks, .pointer (some ⟨t, 0, none⟩)] 187, .row (.slice (some ⟨gr, 0, none⟩) ranks ranks) 86 2 ranks (List.flatMap bukL rs), .blk t #[sv, .int .i64 ((room : Nat) : Int), .func (.func 103) #[] #[]] 228, .row (sv) 230 3 (List.length xs) (List.flatMap pairLB xs), .blk g2 #[.int .i64 b.1, .int .i64 b.2] 86, .blk g1 #[.int .i64 rL, .int .i64 rE, .int .i64 pL, .int .i64 pE, .int .i64 ((room : Nat) : Int), .int .i64 hv] 80] (by decide) (by kernel_rfl)
          exact ⟨(k + 1, sv, rs, xs, b), (by dsimp only; omega), (nthV [(uf1 0), .pointer (some ⟨g3, 0, none⟩), .bool false, .pointer (some ⟨g4, 0, none⟩), .int .i64 12, .bool true, .pointer (some ⟨ga, oa + k * 4, none⟩), .agg #[.int .i64 ((l.getD k (0, 0, 0, 0)).1), .int .i64 ((l.getD k (0, 0, 0, 0)).2.1), .int .i64 ((l.getD k (0, 0, 0, 0)).2.2.1), .int .i64 ((l.getD k (0, 0, 0, 0)).2.2.2)], .tuple #[.agg #[.bool false, .bool false], .int .i64 12], .pointer (some ⟨p, 0, none⟩), .tuple #[.agg #[.bool false, .bool false], .int .i64 12], .agg #[.bool false, .bool false], .int .i64 12, .pointer (some ⟨g3, 0, none⟩), .int .i64 ((l.getD k (0, 0, 0, 0)).1), .bool false, .bool false, (uf1 17), (uf1 18), (uf1 19), (uf1 20), (uf1 21), (uf1 22), (uf1 23), (uf1 24), (uf1 25), (uf1 26), (uf1 27), (uf1 28), (uf1 29), (uf1 30), (uf1 31), (uf1 32), (uf1 33), (uf1 34), (uf1 35), (uf1 36), (uf1 37), (uf1 38), (uf1 39), (uf1 40), (uf1 41), (uf1 42), (uf1 43), (uf1 44), (uf1 45), .bool false, .bool false, (uf1 48), (uf1 49), (uf1 50), (uf1 51), (uf1 52), (uf1 53), .pointer (some ⟨p, 0, none⟩), .int .i64 ((i : Nat) : Int), .agg #[.int .i64 b.1, .int .i64 b.2], .agg #[.int .i64 b.1, .int .i64 b.2], .bool false, .bool false, .bool false, .bool false, undef, undef, undef, .bool false, .bool false, .bool false, .pointer (some ⟨g3, 1, none⟩), .int .i64 ((l.getD k (0, 0, 0, 0)).2.1), .int .i64 ((i : Nat) : Int), .bool false, .bool false, undef, undef, undef, undef, .bool false, .bool false, .int .i64 (((k : Nat) : Int) + 1)]), (by kernel_rfl), H, (by omega), hk, (by rw [← hb1]; unfold rgetI; rw [if_pos (by omega)]; rfl)⟩
        · skip
          have h5p := of_decide_eq_true h5
          refine q_val (.pointer (some ⟨g4, 0, none⟩)) (by kernel_rfl) (fun _ => by kernel_rfl) ?_
          refine q_load1 0 g4 0 #[.bool false, .bool false] 90 (.bool false) (by kernel_rfl) (by kernel_rfl) (by kernel_rfl) (fun _ => by kernel_rfl) ?_
          refine q_val (.bool false) (by kernel_rfl) (fun _ => by kernel_rfl) ?_
          refine q_val (.bool false) (by kernel_rfl) (fun _ => by kernel_rfl) ?_
          refine q_val (.bool false) (by kernel_rfl) (fun _ => by kernel_rfl) ?_
          refine q_val (.bool false) (by kernel_rfl) (fun _ => by kernel_rfl) ?_
          refine q_nil ?_
          clear H
          intro v12 H
          refine x_frame' { tmps := #[.agg #[.int .i64 rL, .int .i64 rE, .int .i64 pL, .int .i64 pE, .int .i64 ((room : Nat) : Int), .int .i64 hv], .int .i64 ((ranks : Nat) : Int), .slice ad nA cA, .int .i64 ((i : Nat) : Int), .pointer (some ⟨g1, 0, none⟩), undef, undef, undef, (uf1 0), .pointer (some ⟨p, 0, none⟩), .int .i64 0, .pointer (some ⟨g2, 0, none⟩), undef, .pointer (some ⟨g3, 0, none⟩), .bool false, .pointer (some ⟨g4, 0, none⟩), .int .i64 12, .bool true, .bool false, .tuple #[.pointer (some ⟨p, 0, none⟩), .int .i64 0], .agg #[.int .i64 rL, .int .i64 rE, .int .i64 pL, .int .i64 pE, .int .i64 ((room : Nat) : Int), .int .i64 hv], .int .i64 ((ranks : Nat) : Int), .tuple #[.pointer (some ⟨p, 0, none⟩), .int .i64 0], .pointer (some ⟨p, 0, none⟩), .int .i64 0, .int .i64 0, .bool false, .bool false, .pointer (some ⟨p, 0, none⟩), .bool false, .bool false, .bool false, .int .i64 ((i : Nat) : Int), .bool false, .bool false, .bool false, .int .i64 ((i : Nat) : Int), .int .i64 ((ranks : Nat) : Int), .bool false, .bool false, .bool false, .slice ad nA cA, .int .i64 ((nA : Nat) : Int), .bool false, .bool false, .slice ad nA cA, .int .i64 ((nA : Nat) : Int), .int .i64 ((k : Nat) : Int), .bool true, .pointer (some ⟨ga, oa + k * 4, none⟩), .agg #[.int .i64 ((l.getD k (0, 0, 0, 0)).1), .int .i64 ((l.getD k (0, 0, 0, 0)).2.1), .int .i64 ((l.getD k (0, 0, 0, 0)).2.2.1), .int .i64 ((l.getD k (0, 0, 0, 0)).2.2.2)], .tuple #[.agg #[.bool false, .bool false], .int .i64 12], .pointer (some ⟨p, 0, none⟩), .tuple #[.agg #[.bool false, .bool false], .int .i64 12], .agg #[.bool false, .bool false], .int .i64 12, .pointer (some ⟨g3, 0, none⟩), .int .i64 ((l.getD k (0, 0, 0, 0)).1), .bool false, .bool false, (uf1 17), (uf1 18), (uf1 19), (uf1 20), (uf1 21), (uf1 22), (uf1 23), (uf1 24), (uf1 25), (uf1 26), (uf1 27), (uf1 28), (uf1 29), (uf1 30), (uf1 31), (uf1 32), (uf1 33), (uf1 34), (uf1 35), (uf1 36), (uf1 37), (uf1 38), (uf1 39), (uf1 40), (uf1 41), (uf1 42), (uf1 43), (uf1 44), (uf1 45), .bool false, .bool false, (uf1 48), (uf1 49), (uf1 50), (uf1 51), (uf1 52), (uf1 53), .pointer (some ⟨p, 0, none⟩), .int .i64 ((i : Nat) : Int), .agg #[.int .i64 b.1, .int .i64 b.2], .agg #[.int .i64 b.1, .int .i64 b.2], .bool false, .bool false, .bool false, .bool false, undef, undef, undef, .bool false, .bool false, .bool false, .pointer (some ⟨g3, 1, none⟩), .int .i64 ((l.getD k (0, 0, 0, 0)).2.1), .int .i64 ((i : Nat) : Int), .bool true, .bool true, .pointer (some ⟨g4, 0, none⟩), .bool false, .bool false, .bool false, .bool false, .bool false, (uf1 79)], defers := [] } (by kernel_rfl) ?_
          refine x_then ?_
          refine x_f (by kernel_rfl) ?_
          refine x_skipc ?_
          refine x_blk ?_
          refine x_then ?_
          refine x_region ?_
          refine x_ar (((k : Nat) : Int) + 1) ⟨by omega, by omega⟩ (by kernel_rfl) rfl (by kernel_rfl) ?_
          refine x_val (.int .i64 (((k : Nat) : Int) + 1)) (by kernel_rfl) rfl (by kernel_rfl) ?_
          refine x_nil ?_
          refine x_then ?_
          replace H := H.pick [2, 3, 4, 5, 6, 7] [.blk p #[.int .i64 rL, .int .i64 rE, .int .i64 pL, .int .i64 pE, .int .i64 ((room : Nat) : Int), .int .i64 hv, .slice (some ⟨gr, 0, none⟩) ranks ranks, .pointer (some ⟨t, 0, none⟩)] 187, .row (.slice (some ⟨gr, 0, none⟩) ranks ranks) 86 2 ranks (List.flatMap bukL rs), .blk t #[sv, .int .i64 ((room : Nat) : Int), .func (.func 103) #[] #[]] 228, .row (sv) 230 3 (List.length xs) (List.flatMap pairLB xs), .blk g2 #[.int .i64 b.1, .int .i64 b.2] 86, .blk g1 #[.int .i64 rL, .int .i64 rE, .int .i64 pL, .int .i64 pE, .int .i64 ((room : Nat) : Int), .int .i64 hv] 80] (by decide) (by kernel_rfl)
          exact ⟨(k + 1, sv, rs, xs, b), (by dsimp only; omega), (nthV [(uf1 0), .pointer (some ⟨g3, 0, none⟩), .bool false, .pointer (some ⟨g4, 0, none⟩), .int .i64 12, .bool true, .pointer (some ⟨ga, oa + k * 4, none⟩), .agg #[.int .i64 ((l.getD k (0, 0, 0, 0)).1), .int .i64 ((l.getD k (0, 0, 0, 0)).2.1), .int .i64 ((l.getD k (0, 0, 0, 0)).2.2.1), .int .i64 ((l.getD k (0, 0, 0, 0)).2.2.2)], .tuple #[.agg #[.bool false, .bool false], .int .i64 12], .pointer (some ⟨p, 0, none⟩), .tuple #[.agg #[.bool false, .bool false], .int .i64 12], .agg #[.bool false, .bool false], .int .i64 12, .pointer (some ⟨g3, 0, none⟩), .int .i64 ((l.getD k (0, 0, 0, 0)).1), .bool false, .bool false, (uf1 17), (uf1 18), (uf1 19), (uf1 20), (uf1 21), (uf1 22), (uf1 23), (uf1 24), (uf1 25), (uf1 26), (uf1 27), (uf1 28), (uf1 29), (uf1 30), (uf1 31), (uf1 32), (uf1 33), (uf1 34), (uf1 35), (uf1 36), (uf1 37), (uf1 38), (uf1 39), (uf1 40), (uf1 41), (uf1 42), (uf1 43), (uf1 44), (uf1 45), .bool false, .bool false, (uf1 48), (uf1 49), (uf1 50), (uf1 51), (uf1 52), (uf1 53), .pointer (some ⟨p, 0, none⟩), .int .i64 ((i : Nat) : Int), .agg #[.int .i64 b.1, .int .i64 b.2], .agg #[.int .i64 b.1, .int .i64 b.2], .bool false, .bool false, .bool false, .bool false, undef, undef, undef, .bool false, .bool false, .bool false, .pointer (some ⟨g3, 1, none⟩), .int .i64 ((l.getD k (0, 0, 0, 0)).2.1), .int .i64 ((i : Nat) : Int), .bool true, .bool true, .pointer (some ⟨g4, 0, none⟩), .bool false, .bool false, .bool false, .bool false, .bool false, .int .i64 (((k : Nat) : Int) + 1)]), (by kernel_rfl), H, (by omega), hk, (by rw [← hb1]; unfold rgetI; rw [if_pos (by omega)]; rfl)⟩
      · skip
        have h3p := of_decide_eq_true h3
        refine x_t (by kernel_rfl) ?_
        refine x_seq ?_
        refine x_region ?_
        refine x_val (.pointer (some ⟨p, 0, none⟩)) (by kernel_rfl) rfl (by kernel_rfl) ?_
        have hk1 := hk.tick hP
        refine x_call (by kernel_rfl) rfl (by kernel_rfl) (Hs.useE (A := [.blk p #[.int .i64 rL, .int .i64 rE, .int .i64 pL, .int .i64 pE, .int .i64 ((room : Nat) : Int), .int .i64 hv, .slice (some ⟨gr, 0, none⟩) ranks ranks, .pointer (some ⟨t, 0, none⟩)] 187, .row (.slice (some ⟨gr, 0, none⟩) ranks ranks) 86 2 ranks (List.flatMap bukL rs), .blk t #[sv, .int .i64 ((room : Nat) : Int), .func (.func 103) #[] #[]] 228, .row (sv) 230 3 (List.length xs) (List.flatMap pairLB xs)]) (R := [.blk g4 #[.bool false, .bool false] 90, .blk g3 #[.int .i64 ((l.getD k (0, 0, 0, 0)).1), .int .i64 ((l.getD k (0, 0, 0, 0)).2.1), .int .i64 ((l.getD k (0, 0, 0, 0)).2.2.1), .int .i64 ((l.getD k (0, 0, 0, 0)).2.2.2)] 88, .blk g2 #[.int .i64 b.1, .int .i64 b.2] 86, .blk g1 #[.int .i64 rL, .int .i64 rE, .int .i64 pL, .int .i64 pE, .int .i64 ((room : Nat) : Int), .int .i64 hv] 80]) (fun svn => [.blk p #[.int .i64 rL, .int .i64 rE, .int .i64 pL, .int .i64 pE, .int .i64 ((room : Nat) : Int), .int .i64 hv, .slice (some ⟨gr, 0, none⟩) ranks ranks, .pointer (some ⟨t, 0, none⟩)] 187, .row (.slice (some ⟨gr, 0, none⟩) ranks ranks) 86 2 ranks (List.flatMap bukL (List.map (btick rE) rs)), .blk t #[svn, .int .i64 ((room : Nat) : Int), .func (.func 103) #[] #[]] 228, .row (svn) 230 3 (List.length (List.map (tickX pE) xs)) (List.flatMap pairLB (List.map (tickX pE) xs))]) (fun _ => .tuple #[]) (H.pick [2, 3, 4, 5, 0, 1, 6, 7] _ (by decide) (by kernel_rfl)) (fun h => Tick_any (by assumption) hP _ h)) ?_
        rintro _ v13 ⟨svn, rfl, H'⟩
        refine ⟨_, rfl, ?_⟩
        clear H
        have H : Hs [] w0 _ [.blk p #[.int .i64 rL, .int .i64 rE, .int .i64 pL, .int .i64 pE, .int .i64 ((room : Nat) : Int), .int .i64 hv, .slice (some ⟨gr, 0, none⟩) ranks ranks, .pointer (some ⟨t, 0, none⟩)] 187, .row (.slice (some ⟨gr, 0, none⟩) ranks ranks) 86 2 ranks (List.flatMap bukL (List.map (btick rE) rs)), .blk t #[svn, .int .i64 ((room : Nat) : Int), .func (.func 103) #[] #[]] 228, .row (svn) 230 3 (List.length (List.map (tickX pE) xs)) (List.flatMap pairLB (List.map (tickX pE) xs)), .blk g4 #[.bool false, .bool false] 90, .blk g3 #[.int .i64 ((l.getD k (0, 0, 0, 0)).1), .int .i64 ((l.getD k (0, 0, 0, 0)).2.1), .int .i64 ((l.getD k (0, 0, 0, 0)).2.2.1), .int .i64 ((l.getD k (0, 0, 0, 0)).2.2.2)] 88, .blk g2 #[.int .i64 b.1, .int .i64 b.2] 86, .blk g1 #[.int .i64 rL, .int .i64 rE, .int .i64 pL, .int .i64 pE, .int .i64 ((room : Nat) : Int), .int .i64 hv] 80] := H'
        clear H'
        refine x_nil ?_
        refine x_then ?_
        refine x_region ?_
        refine x_loadn (t := 86) H 6 g2 0 #[.int .i64 b.1, .int .i64 b.2] 86 [.int .i64 b.1, .int .i64 b.2] (by kernel_rfl) (by kernel_rfl) (by kernel_rfl) rfl (by kernel_rfl) (by kernel_rfl) ?_
        refine x_val (.pointer (some ⟨g1, 0, none⟩)) (by kernel_rfl) rfl (by kernel_rfl) ?_
        refine x_loadn (t := 78) H 7 g1 0 #[.int .i64 rL, .int .i64 rE, .int .i64 pL, .int .i64 pE, .int .i64 ((room : Nat) : Int), .int .i64 hv] 80 [.int .i64 rL, .int .i64 rE] (by kernel_rfl) (by kernel_rfl) (by kernel_rfl) rfl (by kernel_rfl) (by kernel_rfl) ?_
        refine x_callB (.agg #[.int .i64 ((btick rE b).1), .int .i64 ((btick rE b).2)]) H (by kernel_rfl) rfl (by kernel_rfl) (Tick_b rL rE b.1 b.2 hP.r hbo _) ?_
        clear H
        intro v14 H
        refine x_store (t := 86) (v := .agg #[.int .i64 ((btick rE b).1), .int .i64 ((btick rE b).2)]) H 6 g2 0 #[.int .i64 b.1, .int .i64 b.2] #[.int .i64 ((btick rE b).1), .int .i64 ((btick rE b).2)] 86 [.int .i64 ((btick rE b).1), .int .i64 ((btick rE b).2)] [.blk p #[.int .i64 rL, .int .i64 rE, .int .i64 pL, .int .i64 pE, .int .i64 ((room : Nat) : Int), .int .i64 hv, .slice (some ⟨gr, 0, none⟩) ranks ranks, .pointer (some ⟨t, 0, none⟩)] 187, .row (.slice (some ⟨gr, 0, none⟩) ranks ranks) 86 2 ranks (List.flatMap bukL (List.map (btick rE) rs)), .blk t #[svn, .int .i64 ((room : Nat) : Int), .func (.func 103) #[] #[]] 228, .row (svn) 230 3 (List.length (List.map (tickX pE) xs)) (List.flatMap pairLB (List.map (tickX pE) xs)), .blk g4 #[.bool false, .bool false] 90, .blk g3 #[.int .i64 ((l.getD k (0, 0, 0, 0)).1), .int .i64 ((l.getD k (0, 0, 0, 0)).2.1), .int .i64 ((l.getD k (0, 0, 0, 0)).2.2.1), .int .i64 ((l.getD k (0, 0, 0, 0)).2.2.2)] 88, .blk g2 #[.int .i64 ((btick rE b).1), .int .i64 ((btick rE b).2)] 86, .blk g1 #[.int .i64 rL, .int .i64 rE, .int .i64 pL, .int .i64 pE, .int .i64 ((room : Nat) : Int), .int .i64 hv] 80] (by kernel_rfl) rfl (by kernel_rfl) (by kernel_rfl) (by kernel_rfl) (by kernel_rfl) (by kernel_rfl) (by kernel_rfl) (by kernel_rfl) (by kernel_rfl) ?_
        clear H
        intro v15 H
        refine x_nil ?_
        refine x_blk ?_
        refine x_then ?_
        refine x_seq ?_
        refine x_region_whole (fun w' => Hs [] w0 w' [.blk p #[.int .i64 rL, .int .i64 rE, .int .i64 pL, .int .i64 pE, .int .i64 ((room : Nat) : Int), .int .i64 hv, .slice (some ⟨gr, 0, none⟩) ranks ranks, .pointer (some ⟨t, 0, none⟩)] 187, .row (.slice (some ⟨gr, 0, none⟩) ranks ranks) 86 2 ranks (List.flatMap bukL (List.map (btick rE) rs)), .blk t #[svn, .int .i64 ((room : Nat) : Int), .func (.func 103) #[] #[]] 228, .row (svn) 230 3 (List.length (List.map (tickX pE) xs)) (List.flatMap pairLB (List.map (tickX pE) xs)), .blk g4 #[.bool false, .bool false] 90, .blk g3 #[.int .i64 ((l.getD k (0, 0, 0, 0)).1), .int .i64 ((l.getD k (0, 0, 0, 0)).2.1), .int .i64 ((l.getD k (0, 0, 0, 0)).2.2.1), .int .i64 ((l.getD k (0, 0, 0, 0)).2.2.2)] 88, .blk g2 #[.int .i64 ((btick rE b).1), .int .i64 ((btick rE b).2)] 86, .blk g1 #[.int .i64 rL, .int .i64 rE, .int .i64 pL, .int .i64 pE, .int .i64 ((room : Nat) : Int), .int .i64 hv] 80]) (by kernel_rfl) (by kernel_rfl) (by kernel_rfl) H.drew ?_
        refine q_val (.pointer (some ⟨p, 0, none⟩)) (by kernel_rfl) (fun _ => by kernel_rfl) ?_
        refine q_val (.int .i64 ((i : Nat) : Int)) (by kernel_rfl) (fun _ => by kernel_rfl) ?_
        have hb1 : rgetI ranks (List.map (btick rE) rs) ((i : Nat) : Int) = (btick rE b) := sums_tick hk hi hbi
        refine q_callR (.agg #[.int .i64 ((btick rE b).1), .int .i64 ((btick rE b).2)]) (by kernel_rfl) (fun _ => by kernel_rfl) (fun _ H => (by have h := Rank_any ((i : Nat) : Int) hk1.n _ (H.roOf [0, 1] [.blk p #[.int .i64 rL, .int .i64 rE, .int .i64 pL, .int .i64 pE, .int .i64 ((room : Nat) : Int), .int .i64 hv, .slice (some ⟨gr, 0, none⟩) ranks ranks, .pointer (some ⟨t, 0, none⟩)] 187, .row (.slice (some ⟨gr, 0, none⟩) ranks ranks) 86 2 ranks (List.flatMap bukL (List.map (btick rE) rs))] (by kernel_rfl)); rw [hb1] at h; exact h)) ?_
        refine q_loadn (t := 86) 6 g2 0 #[.int .i64 ((btick rE b).1), .int .i64 ((btick rE b).2)] 86 [.int .i64 ((btick rE b).1), .int .i64 ((btick rE b).2)] (by kernel_rfl) (by kernel_rfl) (by kernel_rfl) (by kernel_rfl) (by kernel_rfl) ?_
        have h6 : (decide ((((btick rE b).1) : Int) = ((btick rE b).1)) && (decide ((((btick rE b).2) : Int) = ((btick rE b).2)) && true)) = true := by simp
        refine q_val (.bool false) (by kernel_rfl) (fun _ => ((run_neS (t := 86) (x := .tmp 99) (y := .tmp 100) (xs := #[.int .i64 ((btick rE b).1), .int .i64 ((btick rE b).2)]) (ys := #[.int .i64 ((btick rE b).1), .int .i64 ((btick rE b).2)]) (B := decide ((((btick rE b).1) : Int) = ((btick rE b).1)) && (decide ((((btick rE b).2) : Int) = ((btick rE b).2)) && true)) (by kernel_rfl) (by kernel_rfl) (by kernel_rfl)).trans (by rw [h6]; rfl))) ?_
        refine q_val (.bool false) (by kernel_rfl) (fun _ => by kernel_rfl) ?_
        refine q_val (.bool false) (by kernel_rfl) (fun _ => by kernel_rfl) ?_
        refine q_val (.bool false) (by kernel_rfl) (fun _ => by kernel_rfl) ?_
        refine q_skip (by kernel_rfl) ?_
        refine q_skip (by kernel_rfl) ?_
        refine q_skip (by kernel_rfl) ?_
        refine q_val (.bool false) (by kernel_rfl) (fun _ => by kernel_rfl) ?_
        refine q_val (.bool false) (by kernel_rfl) (fun _ => by kernel_rfl) ?_
        refine q_val (.bool false) (by kernel_rfl) (fun _ => by kernel_rfl) ?_
        refine q_val (.pointer (some ⟨g3, 1, none⟩)) (by kernel_rfl) (fun _ => by kernel_rfl) ?_
        refine q_load1 5 g3 1 #[.int .i64 ((l.getD k (0, 0, 0, 0)).1), .int .i64 ((l.getD k (0, 0, 0, 0)).2.1), .int .i64 ((l.getD k (0, 0, 0, 0)).2.2.1), .int .i64 ((l.getD k (0, 0, 0, 0)).2.2.2)] 88 (.int .i64 ((l.getD k (0, 0, 0, 0)).2.1)) (by kernel_rfl) (by kernel_rfl) (by kernel_rfl) (fun _ => by kernel_rfl) ?_
        refine q_val (.int .i64 ((i : Nat) : Int)) (by kernel_rfl) (fun _ => by kernel_rfl) ?_
        refine q_val (.bool (decide (((l.getD k (0, 0, 0, 0)).2.1) = ((i : Nat) : Int)))) (by kernel_rfl) (fun _ => by kernel_rfl) ?_
        refine q_val (.bool (decide (((l.getD k (0, 0, 0, 0)).2.1) = ((i : Nat) : Int)))) (by kernel_rfl) (fun _ => by kernel_rfl) ?_
        cases h7 : decide (((l.getD k (0, 0, 0, 0)).2.1) = ((i : Nat) : Int))
        · skip
          have h7p := of_decide_eq_false h7
          refine q_skip (by kernel_rfl) ?_
          refine q_skip (by kernel_rfl) ?_
          refine q_skip (by kernel_rfl) ?_
          refine q_skip (by kernel_rfl) ?_
          refine q_val (.bool false) (by kernel_rfl) (fun _ => by kernel_rfl) ?_
          refine q_val (.bool false) (by kernel_rfl) (fun _ => by kernel_rfl) ?_
          refine q_nil ?_
          clear H
          intro v16 H
          refine x_frame' { tmps := #[.agg #[.int .i64 rL, .int .i64 rE, .int .i64 pL, .int .i64 pE, .int .i64 ((room : Nat) : Int), .int .i64 hv], .int .i64 ((ranks : Nat) : Int), .slice ad nA cA, .int .i64 ((i : Nat) : Int), .pointer (some ⟨g1, 0, none⟩), undef, undef, undef, (uf1 0), .pointer (some ⟨p, 0, none⟩), .int .i64 0, .pointer (some ⟨g2, 0, none⟩), undef, .pointer (some ⟨g3, 0, none⟩), .bool false, .pointer (some ⟨g4, 0, none⟩), .int .i64 12, .bool true, .bool false, .tuple #[.pointer (some ⟨p, 0, none⟩), .int .i64 0], .agg #[.int .i64 rL, .int .i64 rE, .int .i64 pL, .int .i64 pE, .int .i64 ((room : Nat) : Int), .int .i64 hv], .int .i64 ((ranks : Nat) : Int), .tuple #[.pointer (some ⟨p, 0, none⟩), .int .i64 0], .pointer (some ⟨p, 0, none⟩), .int .i64 0, .int .i64 0, .bool false, .bool false, .pointer (some ⟨p, 0, none⟩), .bool false, .bool false, .bool false, .int .i64 ((i : Nat) : Int), .bool false, .bool false, .bool false, .int .i64 ((i : Nat) : Int), .int .i64 ((ranks : Nat) : Int), .bool false, .bool false, .bool false, .slice ad nA cA, .int .i64 ((nA : Nat) : Int), .bool false, .bool false, .slice ad nA cA, .int .i64 ((nA : Nat) : Int), .int .i64 ((k : Nat) : Int), .bool true, .pointer (some ⟨ga, oa + k * 4, none⟩), .agg #[.int .i64 ((l.getD k (0, 0, 0, 0)).1), .int .i64 ((l.getD k (0, 0, 0, 0)).2.1), .int .i64 ((l.getD k (0, 0, 0, 0)).2.2.1), .int .i64 ((l.getD k (0, 0, 0, 0)).2.2.2)], .tuple #[.agg #[.bool false, .bool false], .int .i64 12], .pointer (some ⟨p, 0, none⟩), .tuple #[.agg #[.bool false, .bool false], .int .i64 12], .agg #[.bool false, .bool false], .int .i64 12, .pointer (some ⟨g3, 0, none⟩), .int .i64 ((l.getD k (0, 0, 0, 0)).1), .bool false, .bool false, (uf1 17), (uf1 18), (uf1 19), (uf1 20), (uf1 21), (uf1 22), (uf1 23), (uf1 24), (uf1 25), (uf1 26), (uf1 27), (uf1 28), (uf1 29), (uf1 30), (uf1 31), (uf1 32), (uf1 33), (uf1 34), (uf1 35), (uf1 36), (uf1 37), (uf1 38), (uf1 39), (uf1 40), (uf1 41), (uf1 42), (uf1 43), (uf1 44), (uf1 45), .bool true, .bool true, .pointer (some ⟨p, 0, none⟩), .tuple #[], .agg #[.int .i64 b.1, .int .i64 b.2], .pointer (some ⟨g1, 0, none⟩), .agg #[.int .i64 rL, .int .i64 rE], .agg #[.int .i64 ((btick rE b).1), .int .i64 ((btick rE b).2)], .pointer (some ⟨p, 0, none⟩), .int .i64 ((i : Nat) : Int), .agg #[.int .i64 ((btick rE b).1), .int .i64 ((btick rE b).2)], .agg #[.int .i64 ((btick rE b).1), .int .i64 ((btick rE b).2)], .bool false, .bool false, .bool false, .bool false, undef, undef, undef, .bool false, .bool false, .bool false, .pointer (some ⟨g3, 1, none⟩), .int .i64 ((l.getD k (0, 0, 0, 0)).2.1), .int .i64 ((i : Nat) : Int), .bool false, .bool false, undef, undef, undef, undef, .bool false, .bool false, (uf1 79)], defers := [] } (by kernel_rfl) ?_
          refine x_then ?_
          refine x_f (by kernel_rfl) ?_
          refine x_skipc ?_
          refine x_blk ?_
          refine x_then ?_
          refine x_region ?_
          refine x_ar (((k : Nat) : Int) + 1) ⟨by omega, by omega⟩ (by kernel_rfl) rfl (by kernel_rfl) ?_
          refine x_val (.int .i64 (((k : Nat) : Int) + 1)) (by kernel_rfl) rfl (by kernel_rfl) ?_
          refine x_nil ?_
          refine x_then ?_
          replace H := H.pick [0, 1, 2, 3, 6, 7] [.blk p #[.int .i64 rL, .int .i64 rE, .int .i64 pL, .int .i64 pE, .int .i64 ((room : Nat) : Int), .int .i64 hv, .slice (some ⟨gr, 0, none⟩) ranks ranks, .pointer (some ⟨t, 0, none⟩)] 187, .row (.slice (some ⟨gr, 0, none⟩) ranks ranks) 86 2 ranks (List.flatMap bukL (List.map (btick rE) rs)), .blk t #[svn, .int .i64 ((room : Nat) : Int), .func (.func 103) #[] #[]] 228, .row (svn) 230 3 (List.length (List.map (tickX pE) xs)) (List.flatMap pairLB (List.map (tickX pE) xs)), .blk g2 #[.int .i64 ((btick rE b).1), .int .i64 ((btick rE b).2)] 86, .blk g1 #[.int .i64 rL, .int .i64 rE, .int .i64 pL, .int .i64 pE, .int .i64 ((room : Nat) : Int), .int .i64 hv] 80] (by decide) (by kernel_rfl)
          exact ⟨(k + 1, svn, (List.map (btick rE) rs), (List.map (tickX pE) xs), (btick rE b)), (by dsimp only; omega), (nthV [(uf1 0), .pointer (some ⟨g3, 0, none⟩), .bool false, .pointer (some ⟨g4, 0, none⟩), .int .i64 12, .bool true, .pointer (some ⟨ga, oa + k * 4, none⟩), .agg #[.int .i64 ((l.getD k (0, 0, 0, 0)).1), .int .i64 ((l.getD k (0, 0, 0, 0)).2.1), .int .i64 ((l.getD k (0, 0, 0, 0)).2.2.1), .int .i64 ((l.getD k (0, 0, 0, 0)).2.2.2)], .tuple #[.agg #[.bool false, .bool false], .int .i64 12], .pointer (some ⟨p, 0, none⟩), .tuple #[.agg #[.bool false, .bool false], .int .i64 12], .agg #[.bool false, .bool false], .int .i64 12, .pointer (some ⟨g3, 0, none⟩), .int .i64 ((l.getD k (0, 0, 0, 0)).1), .bool false, .bool false, (uf1 17), (uf1 18), (uf1 19), (uf1 20), (uf1 21), (uf1 22), (uf1 23), (uf1 24), (uf1 25), (uf1 26), (uf1 27), (uf1 28), (uf1 29), (uf1 30), (uf1 31), (uf1 32), (uf1 33), (uf1 34), (uf1 35), (uf1 36), (uf1 37), (uf1 38), (uf1 39), (uf1 40), (uf1 41), (uf1 42), (uf1 43), (uf1 44), (uf1 45), .bool true, .bool true, .pointer (some ⟨p, 0, none⟩), .tuple #[], .agg #[.int .i64 b.1, .int .i64 b.2], .pointer (some ⟨g1, 0, none⟩), .agg #[.int .i64 rL, .int .i64 rE], .agg #[.int .i64 ((btick rE b).1), .int .i64 ((btick rE b).2)], .pointer (some ⟨p, 0, none⟩), .int .i64 ((i : Nat) : Int), .agg #[.int .i64 ((btick rE b).1), .int .i64 ((btick rE b).2)], .agg #[.int .i64 ((btick rE b).1), .int .i64 ((btick rE b).2)], .bool false, .bool false, .bool false, .bool false, undef, undef, undef, .bool false, .bool false, .bool false, .pointer (some ⟨g3, 1, none⟩), .int .i64 ((l.getD k (0, 0, 0, 0)).2.1), .int .i64 ((i : Nat) : Int), .bool false, .bool false, undef, undef, undef, undef, .bool false, .bool false, .int .i64 (((k : Nat) : Int) + 1)]), (by kernel_rfl), H, (by omega), hk1, (by rw [← hb1]; unfold rgetI; rw [if_pos (by omega)]; rfl)⟩
        · skip
          have h7p := of_decide_eq_true h7
          refine q_val (.pointer (some ⟨g4, 0, none⟩)) (by kernel_rfl) (fun _ => by kernel_rfl) ?_
          refine q_load1 4 g4 0 #[.bool false, .bool false] 90 (.bool false) (by kernel_rfl) (by kernel_rfl) (by kernel_rfl) (fun _ => by kernel_rfl) ?_
          refine q_val (.bool false) (by kernel_rfl) (fun _ => by kernel_rfl) ?_
          refine q_val (.bool false) (by kernel_rfl) (fun _ => by kernel_rfl) ?_
          refine q_val (.bool false) (by kernel_rfl) (fun _ => by kernel_rfl) ?_
          refine q_val (.bool false) (by kernel_rfl) (fun _ => by kernel_rfl) ?_
          refine q_nil ?_
          clear H
          intro v17 H
          refine x_frame' { tmps := #[.agg #[.int .i64 rL, .int .i64 rE, .int .i64 pL, .int .i64 pE, .int .i64 ((room : Nat) : Int), .int .i64 hv], .int .i64 ((ranks : Nat) : Int), .slice ad nA cA, .int .i64 ((i : Nat) : Int), .pointer (some ⟨g1, 0, none⟩), undef, undef, undef, (uf1 0), .pointer (some ⟨p, 0, none⟩), .int .i64 0, .pointer (some ⟨g2, 0, none⟩), undef, .pointer (some ⟨g3, 0, none⟩), .bool false, .pointer (some ⟨g4, 0, none⟩), .int .i64 12, .bool true, .bool false, .tuple #[.pointer (some ⟨p, 0, none⟩), .int .i64 0], .agg #[.int .i64 rL, .int .i64 rE, .int .i64 pL, .int .i64 pE, .int .i64 ((room : Nat) : Int), .int .i64 hv], .int .i64 ((ranks : Nat) : Int), .tuple #[.pointer (some ⟨p, 0, none⟩), .int .i64 0], .pointer (some ⟨p, 0, none⟩), .int .i64 0, .int .i64 0, .bool false, .bool false, .pointer (some ⟨p, 0, none⟩), .bool false, .bool false, .bool false, .int .i64 ((i : Nat) : Int), .bool false, .bool false, .bool false, .int .i64 ((i : Nat) : Int), .int .i64 ((ranks : Nat) : Int), .bool false, .bool false, .bool false, .slice ad nA cA, .int .i64 ((nA : Nat) : Int), .bool false, .bool false, .slice ad nA cA, .int .i64 ((nA : Nat) : Int), .int .i64 ((k : Nat) : Int), .bool true, .pointer (some ⟨ga, oa + k * 4, none⟩), .agg #[.int .i64 ((l.getD k (0, 0, 0, 0)).1), .int .i64 ((l.getD k (0, 0, 0, 0)).2.1), .int .i64 ((l.getD k (0, 0, 0, 0)).2.2.1), .int .i64 ((l.getD k (0, 0, 0, 0)).2.2.2)], .tuple #[.agg #[.bool false, .bool false], .int .i64 12], .pointer (some ⟨p, 0, none⟩), .tuple #[.agg #[.bool false, .bool false], .int .i64 12], .agg #[.bool false, .bool false], .int .i64 12, .pointer (some ⟨g3, 0, none⟩), .int .i64 ((l.getD k (0, 0, 0, 0)).1), .bool false, .bool false, (uf1 17), (uf1 18), (uf1 19), (uf1 20), (uf1 21), (uf1 22), (uf1 23), (uf1 24), (uf1 25), (uf1 26), (uf1 27), (uf1 28), (uf1 29), (uf1 30), (uf1 31), (uf1 32), (uf1 33), (uf1 34), (uf1 35), (uf1 36), (uf1 37), (uf1 38), (uf1 39), (uf1 40), (uf1 41), (uf1 42), (uf1 43), (uf1 44), (uf1 45), .bool true, .bool true, .pointer (some ⟨p, 0, none⟩), .tuple #[], .agg #[.int .i64 b.1, .int .i64 b.2], .pointer (some ⟨g1, 0, none⟩), .agg #[.int .i64 rL, .int .i64 rE], .agg #[.int .i64 ((btick rE b).1), .int .i64 ((btick rE b).2)], .pointer (some ⟨p, 0, none⟩), .int .i64 ((i : Nat) : Int), .agg #[.int .i64 ((btick rE b).1), .int .i64 ((btick rE b).2)], .agg #[.int .i64 ((btick rE b).1), .int .i64 ((btick rE b).2)], .bool false, .bool false, .bool false, .bool false, undef, undef, undef, .bool false, .bool false, .bool false, .pointer (some ⟨g3, 1, none⟩), .int .i64 ((l.getD k (0, 0, 0, 0)).2.1), .int .i64 ((i : Nat) : Int), .bool true, .bool true, .pointer (some ⟨g4, 0, none⟩), .bool false, .bool false, .bool false, .bool false, .bool false, (uf1 79)], defers := [] } (by kernel_rfl) ?_
          refine x_then ?_
          refine x_f (by kernel_rfl) ?_
          refine x_skipc ?_
          refine x_blk ?_
          refine x_then ?_
          refine x_region ?_
          refine x_ar (((k : Nat) : Int) + 1) ⟨by omega, by omega⟩ (by kernel_rfl) rfl (by kernel_rfl) ?_
          refine x_val (.int .i64 (((k : Nat) : Int) + 1)) (by kernel_rfl) rfl (by kernel_rfl) ?_
          refine x_nil ?_
          refine x_then ?_
          replace H := H.pick [0, 1, 2, 3, 6, 7] [.blk p #[.int .i64 rL, .int .i64 rE, .int .i64 pL, .int .i64 pE, .int .i64 ((room : Nat) : Int), .int .i64 hv, .slice (some ⟨gr, 0, none⟩) ranks ranks, .pointer (some ⟨t, 0, none⟩)] 187, .row (.slice (some ⟨gr, 0, none⟩) ranks ranks) 86 2 ranks (List.flatMap bukL (List.map (btick rE) rs)), .blk t #[svn, .int .i64 ((room : Nat) : Int), .func (.func 103) #[] #[]] 228, .row (svn) 230 3 (List.length (List.map (tickX pE) xs)) (List.flatMap pairLB (List.map (tickX pE) xs)), .blk g2 #[.int .i64 ((btick rE b).1), .int .i64 ((btick rE b).2)] 86, .blk g1 #[.int .i64 rL, .int .i64 rE, .int .i64 pL, .int .i64 pE, .int .i64 ((room : Nat) : Int), .int .i64 hv] 80] (by decide) (by kernel_rfl)
          exact ⟨(k + 1, svn, (List.map (btick rE) rs), (List.map (tickX pE) xs), (btick rE b)), (by dsimp only; omega), (nthV [(uf1 0), .pointer (some ⟨g3, 0, none⟩), .bool false, .pointer (some ⟨g4, 0, none⟩), .int .i64 12, .bool true, .pointer (some ⟨ga, oa + k * 4, none⟩), .agg #[.int .i64 ((l.getD k (0, 0, 0, 0)).1), .int .i64 ((l.getD k (0, 0, 0, 0)).2.1), .int .i64 ((l.getD k (0, 0, 0, 0)).2.2.1), .int .i64 ((l.getD k (0, 0, 0, 0)).2.2.2)], .tuple #[.agg #[.bool false, .bool false], .int .i64 12], .pointer (some ⟨p, 0, none⟩), .tuple #[.agg #[.bool false, .bool false], .int .i64 12], .agg #[.bool false, .bool false], .int .i64 12, .pointer (some ⟨g3, 0, none⟩), .int .i64 ((l.getD k (0, 0, 0, 0)).1), .bool false, .bool false, (uf1 17), (uf1 18), (uf1 19), (uf1 20), (uf1 21), (uf1 22), (uf1 23), (uf1 24), (uf1 25), (uf1 26), (uf1 27), (uf1 28), (uf1 29), (uf1 30), (uf1 31), (uf1 32), (uf1 33), (uf1 34), (uf1 35), (uf1 36), (uf1 37), (uf1 38), (uf1 39), (uf1 40), (uf1 41), (uf1 42), (uf1 43), (uf1 44), (uf1 45), .bool true, .bool true, .pointer (some ⟨p, 0, none⟩), .tuple #[], .agg #[.int .i64 b.1, .int .i64 b.2], .pointer (some ⟨g1, 0, none⟩), .agg #[.int .i64 rL, .int .i64 rE], .agg #[.int .i64 ((btick rE b).1), .int .i64 ((btick rE b).2)], .pointer (some ⟨p, 0, none⟩), .int .i64 ((i : Nat) : Int), .agg #[.int .i64 ((btick rE b).1), .int .i64 ((btick rE b).2)], .agg #[.int .i64 ((btick rE b).1), .int .i64 ((btick rE b).2)], .bool false, .bool false, .bool false, .bool false, undef, undef, undef, .bool false, .bool false, .bool false, .pointer (some ⟨g3, 1, none⟩), .int .i64 ((l.getD k (0, 0, 0, 0)).2.1), .int .i64 ((i : Nat) : Int), .bool true, .bool true, .pointer (some ⟨g4, 0, none⟩), .bool false, .bool false, .bool false, .bool false, .bool false, .int .i64 (((k : Nat) : Int) + 1)]), (by kernel_rfl), H, (by omega), hk1, (by rw [← hb1]; unfold rgetI; rw [if_pos (by omega)]; rfl)⟩
    · skip
      have h2p := of_decide_eq_true h2
      refine x_t (by kernel_rfl) ?_
      refine x_seq ?_
      refine x_region ?_
      refine x_val (.pointer (some ⟨p, 0, none⟩)) (by kernel_rfl) rfl (by kernel_rfl) ?_
      refine x_val (.pointer (some ⟨g3, 1, none⟩)) (by kernel_rfl) rfl (by kernel_rfl) ?_
      refine x_load1 H 1 g3 1 #[.int .i64 ((l.getD k (0, 0, 0, 0)).1), .int .i64 ((l.getD k (0, 0, 0, 0)).2.1), .int .i64 ((l.getD k (0, 0, 0, 0)).2.2.1), .int .i64 ((l.getD k (0, 0, 0, 0)).2.2.2)] 88 (.int .i64 ((l.getD k (0, 0, 0, 0)).2.1)) (by kernel_rfl) (by kernel_rfl) (by kernel_rfl) rfl (by kernel_rfl) ?_
      refine x_val (.pointer (some ⟨g3, 2, none⟩)) (by kernel_rfl) rfl (by kernel_rfl) ?_
      refine x_load1 H 1 g3 2 #[.int .i64 ((l.getD k (0, 0, 0, 0)).1), .int .i64 ((l.getD k (0, 0, 0, 0)).2.1), .int .i64 ((l.getD k (0, 0, 0, 0)).2.2.1), .int .i64 ((l.getD k (0, 0, 0, 0)).2.2.2)] 88 (.int .i64 ((l.getD k (0, 0, 0, 0)).2.2.1)) (by kernel_rfl) (by kernel_rfl) (by kernel_rfl) rfl (by kernel_rfl) ?_
      refine x_val (.pointer (some ⟨g3, 3, none⟩)) (by kernel_rfl) rfl (by kernel_rfl) ?_
      refine x_load1 H 1 g3 3 #[.int .i64 ((l.getD k (0, 0, 0, 0)).1), .int .i64 ((l.getD k (0, 0, 0, 0)).2.1), .int .i64 ((l.getD k (0, 0, 0, 0)).2.2.1), .int .i64 ((l.getD k (0, 0, 0, 0)).2.2.2)] 88 (.int .i64 ((l.getD k (0, 0, 0, 0)).2.2.2)) (by kernel_rfl) (by kernel_rfl) (by kernel_rfl) rfl (by kernel_rfl) ?_
      have hk1 := hk.note hP ((l.getD k (0, 0, 0, 0)).2.1) ((l.getD k (0, 0, 0, 0)).2.2.1) ((l.getD k (0, 0, 0, 0)).2.2.2)
      refine x_call (by kernel_rfl) rfl (by kernel_rfl) (Hs.useE (A := [.blk p #[.int .i64 rL, .int .i64 rE, .int .i64 pL, .int .i64 pE, .int .i64 ((room : Nat) : Int), .int .i64 hv, .slice (some ⟨gr, 0, none⟩) ranks ranks, .pointer (some ⟨t, 0, none⟩)] 187, .row (.slice (some ⟨gr, 0, none⟩) ranks ranks) 86 2 ranks (List.flatMap bukL rs), .blk t #[sv, .int .i64 ((room : Nat) : Int), .func (.func 103) #[] #[]] 228, .row (sv) 230 3 (List.length xs) (List.flatMap pairLB xs)]) (R := [.blk g4 #[.bool false, .bool false] 90, .blk g3 #[.int .i64 ((l.getD k (0, 0, 0, 0)).1), .int .i64 ((l.getD k (0, 0, 0, 0)).2.1), .int .i64 ((l.getD k (0, 0, 0, 0)).2.2.1), .int .i64 ((l.getD k (0, 0, 0, 0)).2.2.2)] 88, .blk g2 #[.int .i64 b.1, .int .i64 b.2] 86, .blk g1 #[.int .i64 rL, .int .i64 rE, .int .i64 pL, .int .i64 pE, .int .i64 ((room : Nat) : Int), .int .i64 hv] 80]) (fun svn => [.blk p #[.int .i64 rL, .int .i64 rE, .int .i64 pL, .int .i64 pE, .int .i64 ((room : Nat) : Int), .int .i64 hv, .slice (some ⟨gr, 0, none⟩) ranks ranks, .pointer (some ⟨t, 0, none⟩)] 187, .row (.slice (some ⟨gr, 0, none⟩) ranks ranks) 86 2 ranks (List.flatMap bukL (nRs ranks rs ((l.getD k (0, 0, 0, 0)).2.1) ((l.getD k (0, 0, 0, 0)).2.2.2))), .blk t #[svn, .int .i64 ((room : Nat) : Int), .func (.func 103) #[] #[]] 228, .row (svn) 230 3 (List.length (nXs ranks room xs ((l.getD k (0, 0, 0, 0)).2.1) ((l.getD k (0, 0, 0, 0)).2.2.1) ((l.getD k (0, 0, 0, 0)).2.2.2))) (List.flatMap pairLB (nXs ranks room xs ((l.getD k (0, 0, 0, 0)).2.1) ((l.getD k (0, 0, 0, 0)).2.2.1) ((l.getD k (0, 0, 0, 0)).2.2.2)))]) (fun _ => .tuple #[.agg #[.bool (nC1 rL ranks rs ((l.getD k (0, 0, 0, 0)).2.1) ((l.getD k (0, 0, 0, 0)).2.2.2)), .bool (nC2 pL ranks xs ((l.getD k (0, 0, 0, 0)).2.1) ((l.getD k (0, 0, 0, 0)).2.2.1) ((l.getD k (0, 0, 0, 0)).2.2.2))], .int .i64 (nE ranks ((l.getD k (0, 0, 0, 0)).2.1) ((l.getD k (0, 0, 0, 0)).2.2.2))]) (H.pick [2, 3, 4, 5, 0, 1, 6, 7] _ (by decide) (by kernel_rfl)) (fun h => Note_any ((l.getD k (0, 0, 0, 0)).2.1) ((l.getD k (0, 0, 0, 0)).2.2.1) ((l.getD k (0, 0, 0, 0)).2.2.2) (by assumption) hP _ h)) ?_
      rintro _ v18 ⟨svn, rfl, H'⟩
      refine ⟨_, rfl, ?_⟩
      clear H
      have H : Hs [] w0 _ [.blk p #[.int .i64 rL, .int .i64 rE, .int .i64 pL, .int .i64 pE, .int .i64 ((room : Nat) : Int), .int .i64 hv, .slice (some ⟨gr, 0, none⟩) ranks ranks, .pointer (some ⟨t, 0, none⟩)] 187, .row (.slice (some ⟨gr, 0, none⟩) ranks ranks) 86 2 ranks (List.flatMap bukL (nRs ranks rs ((l.getD k (0, 0, 0, 0)).2.1) ((l.getD k (0, 0, 0, 0)).2.2.2))), .blk t #[svn, .int .i64 ((room : Nat) : Int), .func (.func 103) #[] #[]] 228, .row (svn) 230 3 (List.length (nXs ranks room xs ((l.getD k (0, 0, 0, 0)).2.1) ((l.getD k (0, 0, 0, 0)).2.2.1) ((l.getD k (0, 0, 0, 0)).2.2.2))) (List.flatMap pairLB (nXs ranks room xs ((l.getD k (0, 0, 0, 0)).2.1) ((l.getD k (0, 0, 0, 0)).2.2.1) ((l.getD k (0, 0, 0, 0)).2.2.2))), .blk g4 #[.bool false, .bool false] 90, .blk g3 #[.int .i64 ((l.getD k (0, 0, 0, 0)).1), .int .i64 ((l.getD k (0, 0, 0, 0)).2.1), .int .i64 ((l.getD k (0, 0, 0, 0)).2.2.1), .int .i64 ((l.getD k (0, 0, 0, 0)).2.2.2)] 88, .blk g2 #[.int .i64 b.1, .int .i64 b.2] 86, .blk g1 #[.int .i64 rL, .int .i64 rE, .int .i64 pL, .int .i64 pE, .int .i64 ((room : Nat) : Int), .int .i64 hv] 80] := H'
      clear H'
      refine x_val (.tuple #[.agg #[.bool (nC1 rL ranks rs ((l.getD k (0, 0, 0, 0)).2.1) ((l.getD k (0, 0, 0, 0)).2.2.2)), .bool (nC2 pL ranks xs ((l.getD k (0, 0, 0, 0)).2.1) ((l.getD k (0, 0, 0, 0)).2.2.1) ((l.getD k (0, 0, 0, 0)).2.2.2))], .int .i64 (nE ranks ((l.getD k (0, 0, 0, 0)).2.1) ((l.getD k (0, 0, 0, 0)).2.2.2))]) (by kernel_rfl) rfl (by kernel_rfl) ?_
      refine x_val (.agg #[.bool (nC1 rL ranks rs ((l.getD k (0, 0, 0, 0)).2.1) ((l.getD k (0, 0, 0, 0)).2.2.2)), .bool (nC2 pL ranks xs ((l.getD k (0, 0, 0, 0)).2.1) ((l.getD k (0, 0, 0, 0)).2.2.1) ((l.getD k (0, 0, 0, 0)).2.2.2))]) (by kernel_rfl) rfl (by kernel_rfl) ?_
      refine x_val (.int .i64 (nE ranks ((l.getD k (0, 0, 0, 0)).2.1) ((l.getD k (0, 0, 0, 0)).2.2.2))) (by kernel_rfl) rfl (by kernel_rfl) ?_
      refine x_store (t := 90) (v := .agg #[.bool (nC1 rL ranks rs ((l.getD k (0, 0, 0, 0)).2.1) ((l.getD k (0, 0, 0, 0)).2.2.2)), .bool (nC2 pL ranks xs ((l.getD k (0, 0, 0, 0)).2.1) ((l.getD k (0, 0, 0, 0)).2.2.1) ((l.getD k (0, 0, 0, 0)).2.2.2))]) H 4 g4 0 #[.bool false, .bool false] #[.bool (nC1 rL ranks rs ((l.getD k (0, 0, 0, 0)).2.1) ((l.getD k (0, 0, 0, 0)).2.2.2)), .bool (nC2 pL ranks xs ((l.getD k (0, 0, 0, 0)).2.1) ((l.getD k (0, 0, 0, 0)).2.2.1) ((l.getD k (0, 0, 0, 0)).2.2.2))] 90 [.bool (nC1 rL ranks rs ((l.getD k (0, 0, 0, 0)).2.1) ((l.getD k (0, 0, 0, 0)).2.2.2)), .bool (nC2 pL ranks xs ((l.getD k (0, 0, 0, 0)).2.1) ((l.getD k (0, 0, 0, 0)).2.2.1) ((l.getD k (0, 0, 0, 0)).2.2.2))] [.blk p #[.int .i64 rL, .int .i64 rE, .int .i64 pL, .int .i64 pE, .int .i64 ((room : Nat) : Int), .int .i64 hv, .slice (some ⟨gr, 0, none⟩) ranks ranks, .pointer (some ⟨t, 0, none⟩)] 187, .row (.slice (some ⟨gr, 0, none⟩) ranks ranks) 86 2 ranks (List.flatMap bukL (nRs ranks rs ((l.getD k (0, 0, 0, 0)).2.1) ((l.getD k (0, 0, 0, 0)).2.2.2))), .blk t #[svn, .int .i64 ((room : Nat) : Int), .func (.func 103) #[] #[]] 228, .row (svn) 230 3 (List.length (nXs ranks room xs ((l.getD k (0, 0, 0, 0)).2.1) ((l.getD k (0, 0, 0, 0)).2.2.1) ((l.getD k (0, 0, 0, 0)).2.2.2))) (List.flatMap pairLB (nXs ranks room xs ((l.getD k (0, 0, 0, 0)).2.1) ((l.getD k (0, 0, 0, 0)).2.2.1) ((l.getD k (0, 0, 0, 0)).2.2.2))), .blk g4 #[.bool (nC1 rL ranks rs ((l.getD k (0, 0, 0, 0)).2.1) ((l.getD k (0, 0, 0, 0)).2.2.2)), .bool (nC2 pL ranks xs ((l.getD k (0, 0, 0, 0)).2.1) ((l.getD k (0, 0, 0, 0)).2.2.1) ((l.getD k (0, 0, 0, 0)).2.2.2))] 90, .blk g3 #[.int .i64 ((l.getD k (0, 0, 0, 0)).1), .int .i64 ((l.getD k (0, 0, 0, 0)).2.1), .int .i64 ((l.getD k (0, 0, 0, 0)).2.2.1), .int .i64 ((l.getD k (0, 0, 0, 0)).2.2.2)] 88, .blk g2 #[.int .i64 b.1, .int .i64 b.2] 86, .blk g1 #[.int .i64 rL, .int .i64 rE, .int .i64 pL, .int .i64 pE, .int .i64 ((room : Nat) : Int), .int .i64 hv] 80] (by kernel_rfl) rfl (by kernel_rfl) (by kernel_rfl) (by kernel_rfl) (by kernel_rfl) (by kernel_rfl) (by kernel_rfl) (by kernel_rfl) (by kernel_rfl) ?_
      clear H
      intro v19 H
      refine x_nil ?_
      refine x_frame' { tmps := #[.agg #[.int .i64 rL, .int .i64 rE, .int .i64 pL, .int .i64 pE, .int .i64 ((room : Nat) : Int), .int .i64 hv], .int .i64 ((ranks : Nat) : Int), .slice ad nA cA, .int .i64 ((i : Nat) : Int), .pointer (some ⟨g1, 0, none⟩), undef, undef, undef, (uf1 0), .pointer (some ⟨p, 0, none⟩), .int .i64 0, .pointer (some ⟨g2, 0, none⟩), undef, .pointer (some ⟨g3, 0, none⟩), .bool false, .pointer (some ⟨g4, 0, none⟩), .int .i64 12, .bool true, .bool false, .tuple #[.pointer (some ⟨p, 0, none⟩), .int .i64 0], .agg #[.int .i64 rL, .int .i64 rE, .int .i64 pL, .int .i64 pE, .int .i64 ((room : Nat) : Int), .int .i64 hv], .int .i64 ((ranks : Nat) : Int), .tuple #[.pointer (some ⟨p, 0, none⟩), .int .i64 0], .pointer (some ⟨p, 0, none⟩), .int .i64 0, .int .i64 0, .bool false, .bool false, .pointer (some ⟨p, 0, none⟩), .bool false, .bool false, .bool false, .int .i64 ((i : Nat) : Int), .bool false, .bool false, .bool false, .int .i64 ((i : Nat) : Int), .int .i64 ((ranks : Nat) : Int), .bool false, .bool false, .bool false, .slice ad nA cA, .int .i64 ((nA : Nat) : Int), .bool false, .bool false, .slice ad nA cA, .int .i64 ((nA : Nat) : Int), .int .i64 ((k : Nat) : Int), .bool true, .pointer (some ⟨ga, oa + k * 4, none⟩), .agg #[.int .i64 ((l.getD k (0, 0, 0, 0)).1), .int .i64 ((l.getD k (0, 0, 0, 0)).2.1), .int .i64 ((l.getD k (0, 0, 0, 0)).2.2.1), .int .i64 ((l.getD k (0, 0, 0, 0)).2.2.2)], .tuple #[.agg #[.bool false, .bool false], .int .i64 12], .pointer (some ⟨p, 0, none⟩), .tuple #[.agg #[.bool false, .bool false], .int .i64 12], .agg #[.bool false, .bool false], .int .i64 12, .pointer (some ⟨g3, 0, none⟩), .int .i64 ((l.getD k (0, 0, 0, 0)).1), .bool true, .bool true, .tuple #[.agg #[.bool (nC1 rL ranks rs ((l.getD k (0, 0, 0, 0)).2.1) ((l.getD k (0, 0, 0, 0)).2.2.2)), .bool (nC2 pL ranks xs ((l.getD k (0, 0, 0, 0)).2.1) ((l.getD k (0, 0, 0, 0)).2.2.1) ((l.getD k (0, 0, 0, 0)).2.2.2))], .int .i64 (nE ranks ((l.getD k (0, 0, 0, 0)).2.1) ((l.getD k (0, 0, 0, 0)).2.2.2))], .pointer (some ⟨p, 0, none⟩), .pointer (some ⟨g3, 1, none⟩), .int .i64 ((l.getD k (0, 0, 0, 0)).2.1), .pointer (some ⟨g3, 2, none⟩), .int .i64 ((l.getD k (0, 0, 0, 0)).2.2.1), .pointer (some ⟨g3, 3, none⟩), .int .i64 ((l.getD k (0, 0, 0, 0)).2.2.2), .tuple #[.agg #[.bool (nC1 rL ranks rs ((l.getD k (0, 0, 0, 0)).2.1) ((l.getD k (0, 0, 0, 0)).2.2.2)), .bool (nC2 pL ranks xs ((l.getD k (0, 0, 0, 0)).2.1) ((l.getD k (0, 0, 0, 0)).2.2.1) ((l.getD k (0, 0, 0, 0)).2.2.2))], .int .i64 (nE ranks ((l.getD k (0, 0, 0, 0)).2.1) ((l.getD k (0, 0, 0, 0)).2.2.2))], .agg #[.bool (nC1 rL ranks rs ((l.getD k (0, 0, 0, 0)).2.1) ((l.getD k (0, 0, 0, 0)).2.2.2)), .bool (nC2 pL ranks xs ((l.getD k (0, 0, 0, 0)).2.1) ((l.getD k (0, 0, 0, 0)).2.2.1) ((l.getD k (0, 0, 0, 0)).2.2.2))], .int .i64 (nE ranks ((l.getD k (0, 0, 0, 0)).2.1) ((l.getD k (0, 0, 0, 0)).2.2.2)), (uf1 28), (uf1 29), (uf1 30), (uf1 31), (uf1 32), (uf1 33), (uf1 34), (uf1 35), (uf1 36), (uf1 37), (uf1 38), (uf1 39), (uf1 40), (uf1 41), (uf1 42), (uf1 43), (uf1 44), (uf1 45), (uf1 46), (uf1 47), (uf1 48), (uf1 49), (uf1 50), (uf1 51), (uf1 52), (uf1 53), (uf1 54), (uf1 55), (uf1 56), (uf1 57), (uf1 58), (uf1 59), (uf1 60), (uf1 61), (uf1 62), (uf1 63), (uf1 64), (uf1 65), (uf1 66), (uf1 67), (uf1 68), (uf1 69), (uf1 70), (uf1 71), (uf1 72), (uf1 73), (uf1 74), (uf1 75), (uf1 76), (uf1 77), (uf1 78), (uf1 79)], defers := [] } (by kernel_rfl) ?_
      refine x_then ?_
      refine x_seq ?_
      refine x_region ?_
      refine x_val (.pointer (some ⟨g3, 1, none⟩)) (by kernel_rfl) rfl (by kernel_rfl) ?_
      refine x_load1 H 5 g3 1 #[.int .i64 ((l.getD k (0, 0, 0, 0)).1), .int .i64 ((l.getD k (0, 0, 0, 0)).2.1), .int .i64 ((l.getD k (0, 0, 0, 0)).2.2.1), .int .i64 ((l.getD k (0, 0, 0, 0)).2.2.2)] 88 (.int .i64 ((l.getD k (0, 0, 0, 0)).2.1)) (by kernel_rfl) (by kernel_rfl) (by kernel_rfl) rfl (by kernel_rfl) ?_
      refine x_val (.int .i64 ((i : Nat) : Int)) (by kernel_rfl) rfl (by kernel_rfl) ?_
      refine x_val (.bool (decide (((l.getD k (0, 0, 0, 0)).2.1) = ((i : Nat) : Int)))) (by kernel_rfl) rfl (by kernel_rfl) ?_
      refine x_val (.bool (decide (((l.getD k (0, 0, 0, 0)).2.1) = ((i : Nat) : Int)))) (by kernel_rfl) rfl (by kernel_rfl) ?_
      cases h8 : decide (((l.getD k (0, 0, 0, 0)).2.1) = ((i : Nat) : Int))
      · skip
        have h8p := of_decide_eq_false h8
        refine x_skip (by kernel_rfl) ?_
        refine x_skip (by kernel_rfl) ?_
        refine x_skip (by kernel_rfl) ?_
        refine x_val (.bool false) (by kernel_rfl) rfl (by kernel_rfl) ?_
        refine x_nil ?_
        refine x_then ?_
        refine x_f (by kernel_rfl) ?_
        refine x_skipc ?_
        refine x_blk ?_
        refine x_then ?_
        refine x_seq ?_
        refine x_region_whole (fun w' => Hs [] w0 w' [.blk p #[.int .i64 rL, .int .i64 rE, .int .i64 pL, .int .i64 pE, .int .i64 ((room : Nat) : Int), .int .i64 hv, .slice (some ⟨gr, 0, none⟩) ranks ranks, .pointer (some ⟨t, 0, none⟩)] 187, .row (.slice (some ⟨gr, 0, none⟩) ranks ranks) 86 2 ranks (List.flatMap bukL (nRs ranks rs ((l.getD k (0, 0, 0, 0)).2.1) ((l.getD k (0, 0, 0, 0)).2.2.2))), .blk t #[svn, .int .i64 ((room : Nat) : Int), .func (.func 103) #[] #[]] 228, .row (svn) 230 3 (List.length (nXs ranks room xs ((l.getD k (0, 0, 0, 0)).2.1) ((l.getD k (0, 0, 0, 0)).2.2.1) ((l.getD k (0, 0, 0, 0)).2.2.2))) (List.flatMap pairLB (nXs ranks room xs ((l.getD k (0, 0, 0, 0)).2.1) ((l.getD k (0, 0, 0, 0)).2.2.1) ((l.getD k (0, 0, 0, 0)).2.2.2))), .blk g4 #[.bool (nC1 rL ranks rs ((l.getD k (0, 0, 0, 0)).2.1) ((l.getD k (0, 0, 0, 0)).2.2.2)), .bool (nC2 pL ranks xs ((l.getD k (0, 0, 0, 0)).2.1) ((l.getD k (0, 0, 0, 0)).2.2.1) ((l.getD k (0, 0, 0, 0)).2.2.2))] 90, .blk g3 #[.int .i64 ((l.getD k (0, 0, 0, 0)).1), .int .i64 ((l.getD k (0, 0, 0, 0)).2.1), .int .i64 ((l.getD k (0, 0, 0, 0)).2.2.1), .int .i64 ((l.getD k (0, 0, 0, 0)).2.2.2)] 88, .blk g2 #[.int .i64 b.1, .int .i64 b.2] 86, .blk g1 #[.int .i64 rL, .int .i64 rE, .int .i64 pL, .int .i64 pE, .int .i64 ((room : Nat) : Int), .int .i64 hv] 80]) (by kernel_rfl) (by kernel_rfl) (by kernel_rfl) H.drew ?_
        refine q_val (.pointer (some ⟨p, 0, none⟩)) (by kernel_rfl) (fun _ => by kernel_rfl) ?_
        refine q_val (.int .i64 ((i : Nat) : Int)) (by kernel_rfl) (fun _ => by kernel_rfl) ?_
        have hb1 : rgetI ranks (nRs ranks rs ((l.getD k (0, 0, 0, 0)).2.1) ((l.getD k (0, 0, 0, 0)).2.2.2)) ((i : Nat) : Int) = b := sums_out hk hi hbi (by exact .inl h8p)
        refine q_callR (.agg #[.int .i64 b.1, .int .i64 b.2]) (by kernel_rfl) (fun _ => by kernel_rfl) (fun _ H => (by have h := Rank_any ((i : Nat) : Int) hk1.n _ (H.roOf [0, 1] [.blk p #[.int .i64 rL, .int .i64 rE, .int .i64 pL, .int .i64 pE, .int .i64 ((room : Nat) : Int), .int .i64 hv, .slice (some ⟨gr, 0, none⟩) ranks ranks, .pointer (some ⟨t, 0, none⟩)] 187, .row (.slice (some ⟨gr, 0, none⟩) ranks ranks) 86 2 ranks (List.flatMap bukL (nRs ranks rs ((l.getD k (0, 0, 0, 0)).2.1) ((l.getD k (0, 0, 0, 0)).2.2.2)))] (by kernel_rfl)); rw [hb1] at h; exact h)) ?_
        refine q_loadn (t := 86) 6 g2 0 #[.int .i64 b.1, .int .i64 b.2] 86 [.int .i64 b.1, .int .i64 b.2] (by kernel_rfl) (by kernel_rfl) (by kernel_rfl) (by kernel_rfl) (by kernel_rfl) ?_
        have h9 : (decide ((b.1 : Int) = b.1) && (decide ((b.2 : Int) = b.2) && true)) = true := by simp
        refine q_val (.bool false) (by kernel_rfl) (fun _ => ((run_neS (t := 86) (x := .tmp 99) (y := .tmp 100) (xs := #[.int .i64 b.1, .int .i64 b.2]) (ys := #[.int .i64 b.1, .int .i64 b.2]) (B := decide ((b.1 : Int) = b.1) && (decide ((b.2 : Int) = b.2) && true)) (by kernel_rfl) (by kernel_rfl) (by kernel_rfl)).trans (by rw [h9]; rfl))) ?_
        refine q_val (.bool false) (by kernel_rfl) (fun _ => by kernel_rfl) ?_
        refine q_val (.bool false) (by kernel_rfl) (fun _ => by kernel_rfl) ?_
        refine q_val (.bool false) (by kernel_rfl) (fun _ => by kernel_rfl) ?_
        refine q_skip (by kernel_rfl) ?_
        refine q_skip (by kernel_rfl) ?_
        refine q_skip (by kernel_rfl) ?_
        refine q_val (.bool false) (by kernel_rfl) (fun _ => by kernel_rfl) ?_
        refine q_val (.bool false) (by kernel_rfl) (fun _ => by kernel_rfl) ?_
        refine q_val (.bool false) (by kernel_rfl) (fun _ => by kernel_rfl) ?_
        refine q_val (.pointer (some ⟨g3, 1, none⟩)) (by kernel_rfl) (fun _ => by kernel_rfl) ?_
        refine q_load1 5 g3 1 #[.int .i64 ((l.getD k (0, 0, 0, 0)).1), .int .i64 ((l.getD k (0, 0, 0, 0)).2.1), .int .i64 ((l.getD k (0, 0, 0, 0)).2.2.1), .int .i64 ((l.getD k (0, 0, 0, 0)).2.2.2)] 88 (.int .i64 ((l.getD k (0, 0, 0, 0)).2.1)) (by kernel_rfl) (by kernel_rfl) (by kernel_rfl) (fun _ => by kernel_rfl) ?_
        refine q_val (.int .i64 ((i : Nat) : Int)) (by kernel_rfl) (fun _ => by kernel_rfl) ?_
        refine q_val (.bool (decide (((l.getD k (0, 0, 0, 0)).2.1) = ((i : Nat) : Int)))) (by kernel_rfl) (fun _ => by kernel_rfl) ?_
        refine q_val (.bool (decide (((l.getD k (0, 0, 0, 0)).2.1) = ((i : Nat) : Int)))) (by kernel_rfl) (fun _ => by kernel_rfl) ?_
        rw [h8]
        refine q_skip (by kernel_rfl) ?_
        refine q_skip (by kernel_rfl) ?_
        refine q_skip (by kernel_rfl) ?_
        refine q_skip (by kernel_rfl) ?_
        refine q_val (.bool false) (by kernel_rfl) (fun _ => by kernel_rfl) ?_
        refine q_val (.bool false) (by kernel_rfl) (fun _ => by kernel_rfl) ?_
        refine q_nil ?_
        clear H
        intro v20 H
        refine x_frame' { tmps := #[.agg #[.int .i64 rL, .int .i64 rE, .int .i64 pL, .int .i64 pE, .int .i64 ((room : Nat) : Int), .int .i64 hv], .int .i64 ((ranks : Nat) : Int), .slice ad nA cA, .int .i64 ((i : Nat) : Int), .pointer (some ⟨g1, 0, none⟩), undef, undef, undef, (uf1 0), .pointer (some ⟨p, 0, none⟩), .int .i64 0, .pointer (some ⟨g2, 0, none⟩), undef, .pointer (some ⟨g3, 0, none⟩), .bool false, .pointer (some ⟨g4, 0, none⟩), .int .i64 12, .bool true, .bool false, .tuple #[.pointer (some ⟨p, 0, none⟩), .int .i64 0], .agg #[.int .i64 rL, .int .i64 rE, .int .i64 pL, .int .i64 pE, .int .i64 ((room : Nat) : Int), .int .i64 hv], .int .i64 ((ranks : Nat) : Int), .tuple #[.pointer (some ⟨p, 0, none⟩), .int .i64 0], .pointer (some ⟨p, 0, none⟩), .int .i64 0, .int .i64 0, .bool false, .bool false, .pointer (some ⟨p, 0, none⟩), .bool false, .bool false, .bool false, .int .i64 ((i : Nat) : Int), .bool false, .bool false, .bool false, .int .i64 ((i : Nat) : Int), .int .i64 ((ranks : Nat) : Int), .bool false, .bool false, .bool false, .slice ad nA cA, .int .i64 ((nA : Nat) : Int), .bool false, .bool false, .slice ad nA cA, .int .i64 ((nA : Nat) : Int), .int .i64 ((k : Nat) : Int), .bool true, .pointer (some ⟨ga, oa + k * 4, none⟩), .agg #[.int .i64 ((l.getD k (0, 0, 0, 0)).1), .int .i64 ((l.getD k (0, 0, 0, 0)).2.1), .int .i64 ((l.getD k (0, 0, 0, 0)).2.2.1), .int .i64 ((l.getD k (0, 0, 0, 0)).2.2.2)], .tuple #[.agg #[.bool false, .bool false], .int .i64 12], .pointer (some ⟨p, 0, none⟩), .tuple #[.agg #[.bool false, .bool false], .int .i64 12], .agg #[.bool false, .bool false], .int .i64 12, .pointer (some ⟨g3, 0, none⟩), .int .i64 ((l.getD k (0, 0, 0, 0)).1), .bool true, .bool true, .tuple #[.agg #[.bool (nC1 rL ranks rs ((l.getD k (0, 0, 0, 0)).2.1) ((l.getD k (0, 0, 0, 0)).2.2.2)), .bool (nC2 pL ranks xs ((l.getD k (0, 0, 0, 0)).2.1) ((l.getD k (0, 0, 0, 0)).2.2.1) ((l.getD k (0, 0, 0, 0)).2.2.2))], .int .i64 (nE ranks ((l.getD k (0, 0, 0, 0)).2.1) ((l.getD k (0, 0, 0, 0)).2.2.2))], .pointer (some ⟨p, 0, none⟩), .pointer (some ⟨g3, 1, none⟩), .int .i64 ((l.getD k (0, 0, 0, 0)).2.1), .pointer (some ⟨g3, 2, none⟩), .int .i64 ((l.getD k (0, 0, 0, 0)).2.2.1), .pointer (some ⟨g3, 3, none⟩), .int .i64 ((l.getD k (0, 0, 0, 0)).2.2.2), .tuple #[.agg #[.bool (nC1 rL ranks rs ((l.getD k (0, 0, 0, 0)).2.1) ((l.getD k (0, 0, 0, 0)).2.2.2)), .bool (nC2 pL ranks xs ((l.getD k (0, 0, 0, 0)).2.1) ((l.getD k (0, 0, 0, 0)).2.2.1) ((l.getD k (0, 0, 0, 0)).2.2.2))], .int .i64 (nE ranks ((l.getD k (0, 0, 0, 0)).2.1) ((l.getD k (0, 0, 0, 0)).2.2.2))], .agg #[.bool (nC1 rL ranks rs ((l.getD k (0, 0, 0, 0)).2.1) ((l.getD k (0, 0, 0, 0)).2.2.2)), .bool (nC2 pL ranks xs ((l.getD k (0, 0, 0, 0)).2.1) ((l.getD k (0, 0, 0, 0)).2.2.1) ((l.getD k (0, 0, 0, 0)).2.2.2))], .int .i64 (nE ranks ((l.getD k (0, 0, 0, 0)).2.1) ((l.getD k (0, 0, 0, 0)).2.2.2)), .pointer (some ⟨g3, 1, none⟩), .int .i64 ((l.getD k (0, 0, 0, 0)).2.1), .int .i64 ((i : Nat) : Int), .bool false, .bool false, undef, undef, undef, .bool false, (uf1 37), (uf1 38), (uf1 39), (uf1 40), (uf1 41), (uf1 42), (uf1 43), (uf1 44), (uf1 45), (uf1 46), (uf1 47), (uf1 48), (uf1 49), (uf1 50), (uf1 51), (uf1 52), (uf1 53), .pointer (some ⟨p, 0, none⟩), .int .i64 ((i : Nat) : Int), .agg #[.int .i64 b.1, .int .i64 b.2], .agg #[.int .i64 b.1, .int .i64 b.2], .bool false, .bool false, .bool false, .bool false, undef, undef, undef, .bool false, .bool false, .bool false, .pointer (some ⟨g3, 1, none⟩), .int .i64 ((l.getD k (0, 0, 0, 0)).2.1), .int .i64 ((i : Nat) : Int), .bool false, .bool false, undef, undef, undef, undef, .bool false, .bool false, (uf1 79)], defers := [] } (by kernel_rfl) ?_
        refine x_then ?_
        refine x_f (by kernel_rfl) ?_
        refine x_skipc ?_
        refine x_blk ?_
        refine x_then ?_
        refine x_region ?_
        refine x_ar (((k : Nat) : Int) + 1) ⟨by omega, by omega⟩ (by kernel_rfl) rfl (by kernel_rfl) ?_
        refine x_val (.int .i64 (((k : Nat) : Int) + 1)) (by kernel_rfl) rfl (by kernel_rfl) ?_
        refine x_nil ?_
        refine x_then ?_
        replace H := H.pick [0, 1, 2, 3, 6, 7] [.blk p #[.int .i64 rL, .int .i64 rE, .int .i64 pL, .int .i64 pE, .int .i64 ((room : Nat) : Int), .int .i64 hv, .slice (some ⟨gr, 0, none⟩) ranks ranks, .pointer (some ⟨t, 0, none⟩)] 187, .row (.slice (some ⟨gr, 0, none⟩) ranks ranks) 86 2 ranks (List.flatMap bukL (nRs ranks rs ((l.getD k (0, 0, 0, 0)).2.1) ((l.getD k (0, 0, 0, 0)).2.2.2))), .blk t #[svn, .int .i64 ((room : Nat) : Int), .func (.func 103) #[] #[]] 228, .row (svn) 230 3 (List.length (nXs ranks room xs ((l.getD k (0, 0, 0, 0)).2.1) ((l.getD k (0, 0, 0, 0)).2.2.1) ((l.getD k (0, 0, 0, 0)).2.2.2))) (List.flatMap pairLB (nXs ranks room xs ((l.getD k (0, 0, 0, 0)).2.1) ((l.getD k (0, 0, 0, 0)).2.2.1) ((l.getD k (0, 0, 0, 0)).2.2.2))), .blk g2 #[.int .i64 b.1, .int .i64 b.2] 86, .blk g1 #[.int .i64 rL, .int .i64 rE, .int .i64 pL, .int .i64 pE, .int .i64 ((room : Nat) : Int), .int .i64 hv] 80] (by decide) (by kernel_rfl)
        exact ⟨(k + 1, svn, (nRs ranks rs ((l.getD k (0, 0, 0, 0)).2.1) ((l.getD k (0, 0, 0, 0)).2.2.2)), (nXs ranks room xs ((l.getD k (0, 0, 0, 0)).2.1) ((l.getD k (0, 0, 0, 0)).2.2.1) ((l.getD k (0, 0, 0, 0)).2.2.2)), b), (by dsimp only; omega), (nthV [(uf1 0), .pointer (some ⟨g3, 0, none⟩), .bool false, .pointer (some ⟨g4, 0, none⟩), .int .i64 12, .bool true, .pointer (some ⟨ga, oa + k * 4, none⟩), .agg #[.int .i64 ((l.getD k (0, 0, 0, 0)).1), .int .i64 ((l.getD k (0, 0, 0, 0)).2.1), .int .i64 ((l.getD k (0, 0, 0, 0)).2.2.1), .int .i64 ((l.getD k (0, 0, 0, 0)).2.2.2)], .tuple #[.agg #[.bool false, .bool false], .int .i64 12], .pointer (some ⟨p, 0, none⟩), .tuple #[.agg #[.bool false, .bool false], .int .i64 12], .agg #[.bool false, .bool false], .int .i64 12, .pointer (some ⟨g3, 0, none⟩), .int .i64 ((l.getD k (0, 0, 0, 0)).1), .bool true, .bool true, .tuple #[.agg #[.bool (nC1 rL ranks rs ((l.getD k (0, 0, 0, 0)).2.1) ((l.getD k (0, 0, 0, 0)).2.2.2)), .bool (nC2 pL ranks xs ((l.getD k (0, 0, 0, 0)).2.1) ((l.getD k (0, 0, 0, 0)).2.2.1) ((l.getD k (0, 0, 0, 0)).2.2.2))], .int .i64 (nE ranks ((l.getD k (0, 0, 0, 0)).2.1) ((l.getD k (0, 0, 0, 0)).2.2.2))], .pointer (some ⟨p, 0, none⟩), .pointer (some ⟨g3, 1, none⟩), .int .i64 ((l.getD k (0, 0, 0, 0)).2.1), .pointer (some ⟨g3, 2, none⟩), .int .i64 ((l.getD k (0, 0, 0, 0)).2.2.1), .pointer (some ⟨g3, 3, none⟩), .int .i64 ((l.getD k (0, 0, 0, 0)).2.2.2), .tuple #[.agg #[.bool (nC1 rL ranks rs ((l.getD k (0, 0, 0, 0)).2.1) ((l.getD k (0, 0, 0, 0)).2.2.2)), .bool (nC2 pL ranks xs ((l.getD k (0, 0, 0, 0)).2.1) ((l.getD k (0, 0, 0, 0)).2.2.1) ((l.getD k (0, 0, 0, 0)).2.2.2))], .int .i64 (nE ranks ((l.getD k (0, 0, 0, 0)).2.1) ((l.getD k (0, 0, 0, 0)).2.2.2))], .agg #[.bool (nC1 rL ranks rs ((l.getD k (0, 0, 0, 0)).2.1) ((l.getD k (0, 0, 0, 0)).2.2.2)), .bool (nC2 pL ranks xs ((l.getD k (0, 0, 0, 0)).2.1) ((l.getD k (0, 0, 0, 0)).2.2.1) ((l.getD k (0, 0, 0, 0)).2.2.2))], .int .i64 (nE ranks ((l.getD k (0, 0, 0, 0)).2.1) ((l.getD k (0, 0, 0, 0)).2.2.2)), .pointer (some ⟨g3, 1, none⟩), .int .i64 ((l.getD k (0, 0, 0, 0)).2.1), .int .i64 ((i : Nat) : Int), .bool false, .bool false, undef, undef, undef, .bool false, (uf1 37), (uf1 38), (uf1 39), (uf1 40), (uf1 41), (uf1 42), (uf1 43), (uf1 44), (uf1 45), (uf1 46), (uf1 47), (uf1 48), (uf1 49), (uf1 50), (uf1 51), (uf1 52), (uf1 53), .pointer (some ⟨p, 0, none⟩), .int .i64 ((i : Nat) : Int), .agg #[.int .i64 b.1, .int .i64 b.2], .agg #[.int .i64 b.1, .int .i64 b.2], .bool false, .bool false, .bool false, .bool false, undef, undef, undef, .bool false, .bool false, .bool false, .pointer (some ⟨g3, 1, none⟩), .int .i64 ((l.getD k (0, 0, 0, 0)).2.1), .int .i64 ((i : Nat) : Int), .bool false, .bool false, undef, undef, undef, undef, .bool false, .bool false, .int .i64 (((k : Nat) : Int) + 1)]), (by kernel_rfl), H, (by omega), hk1, (by rw [← hb1]; unfold rgetI; rw [if_pos (by omega)]; rfl)⟩
      · skip
        have h8p := of_decide_eq_true h8
        refine x_val (.pointer (some ⟨g3, 3, none⟩)) (by kernel_rfl) rfl (by kernel_rfl) ?_
        refine x_load1 H 5 g3 3 #[.int .i64 ((l.getD k (0, 0, 0, 0)).1), .int .i64 ((l.getD k (0, 0, 0, 0)).2.1), .int .i64 ((l.getD k (0, 0, 0, 0)).2.2.1), .int .i64 ((l.getD k (0, 0, 0, 0)).2.2.2)] 88 (.int .i64 ((l.getD k (0, 0, 0, 0)).2.2.2)) (by kernel_rfl) (by kernel_rfl) (by kernel_rfl) rfl (by kernel_rfl) ?_
        refine x_val (.bool (decide (0 ≤ ((l.getD k (0, 0, 0, 0)).2.2.2)))) (by kernel_rfl) rfl (by kernel_rfl) ?_
        refine x_val (.bool (decide (0 ≤ ((l.getD k (0, 0, 0, 0)).2.2.2)))) (by kernel_rfl) rfl (by kernel_rfl) ?_
        refine x_nil ?_
        refine x_then ?_
        cases h10 : decide (0 ≤ ((l.getD k (0, 0, 0, 0)).2.2.2))
        · skip
          have h10p := of_decide_eq_false h10
          refine x_f (by kernel_rfl) ?_
          refine x_skipc ?_
          refine x_blk ?_
          refine x_then ?_
          refine x_seq ?_
          refine x_region_whole (fun w' => Hs [] w0 w' [.blk p #[.int .i64 rL, .int .i64 rE, .int .i64 pL, .int .i64 pE, .int .i64 ((room : Nat) : Int), .int .i64 hv, .slice (some ⟨gr, 0, none⟩) ranks ranks, .pointer (some ⟨t, 0, none⟩)] 187, .row (.slice (some ⟨gr, 0, none⟩) ranks ranks) 86 2 ranks (List.flatMap bukL (nRs ranks rs ((l.getD k (0, 0, 0, 0)).2.1) ((l.getD k (0, 0, 0, 0)).2.2.2))), .blk t #[svn, .int .i64 ((room : Nat) : Int), .func (.func 103) #[] #[]] 228, .row (svn) 230 3 (List.length (nXs ranks room xs ((l.getD k (0, 0, 0, 0)).2.1) ((l.getD k (0, 0, 0, 0)).2.2.1) ((l.getD k (0, 0, 0, 0)).2.2.2))) (List.flatMap pairLB (nXs ranks room xs ((l.getD k (0, 0, 0, 0)).2.1) ((l.getD k (0, 0, 0, 0)).2.2.1) ((l.getD k (0, 0, 0, 0)).2.2.2))), .blk g4 #[.bool (nC1 rL ranks rs ((l.getD k (0, 0, 0, 0)).2.1) ((l.getD k (0, 0, 0, 0)).2.2.2)), .bool (nC2 pL ranks xs ((l.getD k (0, 0, 0, 0)).2.1) ((l.getD k (0, 0, 0, 0)).2.2.1) ((l.getD k (0, 0, 0, 0)).2.2.2))] 90, .blk g3 #[.int .i64 ((l.getD k (0, 0, 0, 0)).1), .int .i64 ((l.getD k (0, 0, 0, 0)).2.1), .int .i64 ((l.getD k (0, 0, 0, 0)).2.2.1), .int .i64 ((l.getD k (0, 0, 0, 0)).2.2.2)] 88, .blk g2 #[.int .i64 b.1, .int .i64 b.2] 86, .blk g1 #[.int .i64 rL, .int .i64 rE, .int .i64 pL, .int .i64 pE, .int .i64 ((room : Nat) : Int), .int .i64 hv] 80]) (by kernel_rfl) (by kernel_rfl) (by kernel_rfl) H.drew ?_
          refine q_val (.pointer (some ⟨p, 0, none⟩)) (by kernel_rfl) (fun _ => by kernel_rfl) ?_
          refine q_val (.int .i64 ((i : Nat) : Int)) (by kernel_rfl) (fun _ => by kernel_rfl) ?_
          have hb1 : rgetI ranks (nRs ranks rs ((l.getD k (0, 0, 0, 0)).2.1) ((l.getD k (0, 0, 0, 0)).2.2.2)) ((i : Nat) : Int) = b := sums_out hk hi hbi (by exact .inr h10p)
          refine q_callR (.agg #[.int .i64 b.1, .int .i64 b.2]) (by kernel_rfl) (fun _ => by kernel_rfl) (fun _ H => (by have h := Rank_any ((i : Nat) : Int) hk1.n _ (H.roOf [0, 1] [.blk p #[.int .i64 rL, .int .i64 rE, .int .i64 pL, .int .i64 pE, .int .i64 ((room : Nat) : Int), .int .i64 hv, .slice (some ⟨gr, 0, none⟩) ranks ranks, .pointer (some ⟨t, 0, none⟩)] 187, .row (.slice (some ⟨gr, 0, none⟩) ranks ranks) 86 2 ranks (List.flatMap bukL (nRs ranks rs ((l.getD k (0, 0, 0, 0)).2.1) ((l.getD k (0, 0, 0, 0)).2.2.2)))] (by kernel_rfl)); rw [hb1] at h; exact h)) ?_
          refine q_loadn (t := 86) 6 g2 0 #[.int .i64 b.1, .int .i64 b.2] 86 [.int .i64 b.1, .int .i64 b.2] (by kernel_rfl) (by kernel_rfl) (by kernel_rfl) (by kernel_rfl) (by kernel_rfl) ?_
          have h11 : (decide ((b.1 : Int) = b.1) && (decide ((b.2 : Int) = b.2) && true)) = true := by simp
          refine q_val (.bool false) (by kernel_rfl) (fun _ => ((run_neS (t := 86) (x := .tmp 99) (y := .tmp 100) (xs := #[.int .i64 b.1, .int .i64 b.2]) (ys := #[.int .i64 b.1, .int .i64 b.2]) (B := decide ((b.1 : Int) = b.1) && (decide ((b.2 : Int) = b.2) && true)) (by kernel_rfl) (by kernel_rfl) (by kernel_rfl)).trans (by rw [h11]; rfl))) ?_
          refine q_val (.bool false) (by kernel_rfl) (fun _ => by kernel_rfl) ?_
          refine q_val (.bool false) (by kernel_rfl) (fun _ => by kernel_rfl) ?_
          refine q_val (.bool false) (by kernel_rfl) (fun _ => by kernel_rfl) ?_
          refine q_skip (by kernel_rfl) ?_
          refine q_skip (by kernel_rfl) ?_
          refine q_skip (by kernel_rfl) ?_
          refine q_val (.bool false) (by kernel_rfl) (fun _ => by kernel_rfl) ?_
          refine q_val (.bool false) (by kernel_rfl) (fun _ => by kernel_rfl) ?_
          refine q_val (.bool false) (by kernel_rfl) (fun _ => by kernel_rfl) ?_
          refine q_val (.pointer (some ⟨g3, 1, none⟩)) (by kernel_rfl) (fun _ => by kernel_rfl) ?_
          refine q_load1 5 g3 1 #[.int .i64 ((l.getD k (0, 0, 0, 0)).1), .int .i64 ((l.getD k (0, 0, 0, 0)).2.1), .int .i64 ((l.getD k (0, 0, 0, 0)).2.2.1), .int .i64 ((l.getD k (0, 0, 0, 0)).2.2.2)] 88 (.int .i64 ((l.getD k (0, 0, 0, 0)).2.1)) (by kernel_rfl) (by kernel_rfl) (by kernel_rfl) (fun _ => by kernel_rfl) ?_
          refine q_val (.int .i64 ((i : Nat) : Int)) (by kernel_rfl) (fun _ => by kernel_rfl) ?_
          refine q_val (.bool (decide (((l.getD k (0, 0, 0, 0)).2.1) = ((i : Nat) : Int)))) (by kernel_rfl) (fun _ => by kernel_rfl) ?_
          refine q_val (.bool (decide (((l.getD k (0, 0, 0, 0)).2.1) = ((i : Nat) : Int)))) (by kernel_rfl) (fun _ => by kernel_rfl) ?_
          rw [h8]
          refine q_val (.pointer (some ⟨g4, 0, none⟩)) (by kernel_rfl) (fun _ => by kernel_rfl) ?_
          refine q_load1 4 g4 0 #[.bool (nC1 rL ranks rs ((l.getD k (0, 0, 0, 0)).2.1) ((l.getD k (0, 0, 0, 0)).2.2.2)), .bool (nC2 pL ranks xs ((l.getD k (0, 0, 0, 0)).2.1) ((l.getD k (0, 0, 0, 0)).2.2.1) ((l.getD k (0, 0, 0, 0)).2.2.2))] 90 (.bool (nC1 rL ranks rs ((l.getD k (0, 0, 0, 0)).2.1) ((l.getD k (0, 0, 0, 0)).2.2.2))) (by kernel_rfl) (by kernel_rfl) (by kernel_rfl) (fun _ => by kernel_rfl) ?_
          refine q_val (.bool false) (by kernel_rfl) (fun _ => by kernel_rfl) ?_
          refine q_val (.bool ((nC1 rL ranks rs ((l.getD k (0, 0, 0, 0)).2.1) ((l.getD k (0, 0, 0, 0)).2.2.2)) != false)) (by kernel_rfl) (fun _ => by kernel_rfl) ?_
          refine q_val (.bool ((nC1 rL ranks rs ((l.getD k (0, 0, 0, 0)).2.1) ((l.getD k (0, 0, 0, 0)).2.2.2)) != false)) (by kernel_rfl) (fun _ => by kernel_rfl) ?_
          refine q_val (.bool ((nC1 rL ranks rs ((l.getD k (0, 0, 0, 0)).2.1) ((l.getD k (0, 0, 0, 0)).2.2.2)) != false)) (by kernel_rfl) (fun _ => by kernel_rfl) ?_
          refine q_nil ?_
          clear H
          intro v21 H
          refine x_frame' { tmps := #[.agg #[.int .i64 rL, .int .i64 rE, .int .i64 pL, .int .i64 pE, .int .i64 ((room : Nat) : Int), .int .i64 hv], .int .i64 ((ranks : Nat) : Int), .slice ad nA cA, .int .i64 ((i : Nat) : Int), .pointer (some ⟨g1, 0, none⟩), undef, undef, undef, (uf1 0), .pointer (some ⟨p, 0, none⟩), .int .i64 0, .pointer (some ⟨g2, 0, none⟩), undef, .pointer (some ⟨g3, 0, none⟩), .bool false, .pointer (some ⟨g4, 0, none⟩), .int .i64 12, .bool true, .bool false, .tuple #[.pointer (some ⟨p, 0, none⟩), .int .i64 0], .agg #[.int .i64 rL, .int .i64 rE, .int .i64 pL, .int .i64 pE, .int .i64 ((room : Nat) : Int), .int .i64 hv], .int .i64 ((ranks : Nat) : Int), .tuple #[.pointer (some ⟨p, 0, none⟩), .int .i64 0], .pointer (some ⟨p, 0, none⟩), .int .i64 0, .int .i64 0, .bool false, .bool false, .pointer (some ⟨p, 0, none⟩), .bool false, .bool false, .bool false, .int .i64 ((i : Nat) : Int), .bool false, .bool false, .bool false, .int .i64 ((i : Nat) : Int), .int .i64 ((ranks : Nat) : Int), .bool false, .bool false, .bool false, .slice ad nA cA, .int .i64 ((nA : Nat) : Int), .bool false, .bool false, .slice ad nA cA, .int .i64 ((nA : Nat) : Int), .int .i64 ((k : Nat) : Int), .bool true, .pointer (some ⟨ga, oa + k * 4, none⟩), .agg #[.int .i64 ((l.getD k (0, 0, 0, 0)).1), .int .i64 ((l.getD k (0, 0, 0, 0)).2.1), .int .i64 ((l.getD k (0, 0, 0, 0)).2.2.1), .int .i64 ((l.getD k (0, 0, 0, 0)).2.2.2)], .tuple #[.agg #[.bool false, .bool false], .int .i64 12], .pointer (some ⟨p, 0, none⟩), .tuple #[.agg #[.bool false, .bool false], .int .i64 12], .agg #[.bool false, .bool false], .int .i64 12, .pointer (some ⟨g3, 0, none⟩), .int .i64 ((l.getD k (0, 0, 0, 0)).1), .bool true, .bool true, .tuple #[.agg #[.bool (nC1 rL ranks rs ((l.getD k (0, 0, 0, 0)).2.1) ((l.getD k (0, 0, 0, 0)).2.2.2)), .bool (nC2 pL ranks xs ((l.getD k (0, 0, 0, 0)).2.1) ((l.getD k (0, 0, 0, 0)).2.2.1) ((l.getD k (0, 0, 0, 0)).2.2.2))], .int .i64 (nE ranks ((l.getD k (0, 0, 0, 0)).2.1) ((l.getD k (0, 0, 0, 0)).2.2.2))], .pointer (some ⟨p, 0, none⟩), .pointer (some ⟨g3, 1, none⟩), .int .i64 ((l.getD k (0, 0, 0, 0)).2.1), .pointer (some ⟨g3, 2, none⟩), .int .i64 ((l.getD k (0, 0, 0, 0)).2.2.1), .pointer (some ⟨g3, 3, none⟩), .int .i64 ((l.getD k (0, 0, 0, 0)).2.2.2), .tuple #[.agg #[.bool (nC1 rL ranks rs ((l.getD k (0, 0, 0, 0)).2.1) ((l.getD k (0, 0, 0, 0)).2.2.2)), .bool (nC2 pL ranks xs ((l.getD k (0, 0, 0, 0)).2.1) ((l.getD k (0, 0, 0, 0)).2.2.1) ((l.getD k (0, 0, 0, 0)).2.2.2))], .int .i64 (nE ranks ((l.getD k (0, 0, 0, 0)).2.1) ((l.getD k (0, 0, 0, 0)).2.2.2))], .agg #[.bool (nC1 rL ranks rs ((l.getD k (0, 0, 0, 0)).2.1) ((l.getD k (0, 0, 0, 0)).2.2.2)), .bool (nC2 pL ranks xs ((l.getD k (0, 0, 0, 0)).2.1) ((l.getD k (0, 0, 0, 0)).2.2.1) ((l.getD k (0, 0, 0, 0)).2.2.2))], .int .i64 (nE ranks ((l.getD k (0, 0, 0, 0)).2.1) ((l.getD k (0, 0, 0, 0)).2.2.2)), .pointer (some ⟨g3, 1, none⟩), .int .i64 ((l.getD k (0, 0, 0, 0)).2.1), .int .i64 ((i : Nat) : Int), .bool true, .bool true, .pointer (some ⟨g3, 3, none⟩), .int .i64 ((l.getD k (0, 0, 0, 0)).2.2.2), .bool false, .bool false, (uf1 37), (uf1 38), (uf1 39), (uf1 40), (uf1 41), (uf1 42), (uf1 43), (uf1 44), (uf1 45), (uf1 46), (uf1 47), (uf1 48), (uf1 49), (uf1 50), (uf1 51), (uf1 52), (uf1 53), .pointer (some ⟨p, 0, none⟩), .int .i64 ((i : Nat) : Int), .agg #[.int .i64 b.1, .int .i64 b.2], .agg #[.int .i64 b.1, .int .i64 b.2], .bool false, .bool false, .bool false, .bool false, undef, undef, undef, .bool false, .bool false, .bool false, .pointer (some ⟨g3, 1, none⟩), .int .i64 ((l.getD k (0, 0, 0, 0)).2.1), .int .i64 ((i : Nat) : Int), .bool true, .bool true, .pointer (some ⟨g4, 0, none⟩), .bool (nC1 rL ranks rs ((l.getD k (0, 0, 0, 0)).2.1) ((l.getD k (0, 0, 0, 0)).2.2.2)), .bool false, .bool ((nC1 rL ranks rs ((l.getD k (0, 0, 0, 0)).2.1) ((l.getD k (0, 0, 0, 0)).2.2.2)) != false), .bool ((nC1 rL ranks rs ((l.getD k (0, 0, 0, 0)).2.1) ((l.getD k (0, 0, 0, 0)).2.2.2)) != false), .bool ((nC1 rL ranks rs ((l.getD k (0, 0, 0, 0)).2.1) ((l.getD k (0, 0, 0, 0)).2.2.2)) != false), (uf1 79)], defers := [] } (by kernel_rfl) ?_
          refine x_then ?_
          cases h12 : (nC1 rL ranks rs ((l.getD k (0, 0, 0, 0)).2.1) ((l.getD k (0, 0, 0, 0)).2.2.2)) != false
          · skip
            refine x_f (by kernel_rfl) ?_
            refine x_skipc ?_
            refine x_blk ?_
            refine x_then ?_
            refine x_region ?_
            refine x_ar (((k : Nat) : Int) + 1) ⟨by omega, by omega⟩ (by kernel_rfl) rfl (by kernel_rfl) ?_
            refine x_val (.int .i64 (((k : Nat) : Int) + 1)) (by kernel_rfl) rfl (by kernel_rfl) ?_
            refine x_nil ?_
            refine x_then ?_
            replace H := H.pick [0, 1, 2, 3, 6, 7] [.blk p #[.int .i64 rL, .int .i64 rE, .int .i64 pL, .int .i64 pE, .int .i64 ((room : Nat) : Int), .int .i64 hv, .slice (some ⟨gr, 0, none⟩) ranks ranks, .pointer (some ⟨t, 0, none⟩)] 187, .row (.slice (some ⟨gr, 0, none⟩) ranks ranks) 86 2 ranks (List.flatMap bukL (nRs ranks rs ((l.getD k (0, 0, 0, 0)).2.1) ((l.getD k (0, 0, 0, 0)).2.2.2))), .blk t #[svn, .int .i64 ((room : Nat) : Int), .func (.func 103) #[] #[]] 228, .row (svn) 230 3 (List.length (nXs ranks room xs ((l.getD k (0, 0, 0, 0)).2.1) ((l.getD k (0, 0, 0, 0)).2.2.1) ((l.getD k (0, 0, 0, 0)).2.2.2))) (List.flatMap pairLB (nXs ranks room xs ((l.getD k (0, 0, 0, 0)).2.1) ((l.getD k (0, 0, 0, 0)).2.2.1) ((l.getD k (0, 0, 0, 0)).2.2.2))), .blk g2 #[.int .i64 b.1, .int .i64 b.2] 86, .blk g1 #[.int .i64 rL, .int .i64 rE, .int .i64 pL, .int .i64 pE, .int .i64 ((room : Nat) : Int), .int .i64 hv] 80] (by decide) (by kernel_rfl)
            exact ⟨(k + 1, svn, (nRs ranks rs ((l.getD k (0, 0, 0, 0)).2.1) ((l.getD k (0, 0, 0, 0)).2.2.2)), (nXs ranks room xs ((l.getD k (0, 0, 0, 0)).2.1) ((l.getD k (0, 0, 0, 0)).2.2.1) ((l.getD k (0, 0, 0, 0)).2.2.2)), b), (by dsimp only; omega), (nthV [(uf1 0), .pointer (some ⟨g3, 0, none⟩), .bool false, .pointer (some ⟨g4, 0, none⟩), .int .i64 12, .bool true, .pointer (some ⟨ga, oa + k * 4, none⟩), .agg #[.int .i64 ((l.getD k (0, 0, 0, 0)).1), .int .i64 ((l.getD k (0, 0, 0, 0)).2.1), .int .i64 ((l.getD k (0, 0, 0, 0)).2.2.1), .int .i64 ((l.getD k (0, 0, 0, 0)).2.2.2)], .tuple #[.agg #[.bool false, .bool false], .int .i64 12], .pointer (some ⟨p, 0, none⟩), .tuple #[.agg #[.bool false, .bool false], .int .i64 12], .agg #[.bool false, .bool false], .int .i64 12, .pointer (some ⟨g3, 0, none⟩), .int .i64 ((l.getD k (0, 0, 0, 0)).1), .bool true, .bool true, .tuple #[.agg #[.bool (nC1 rL ranks rs ((l.getD k (0, 0, 0, 0)).2.1) ((l.getD k (0, 0, 0, 0)).2.2.2)), .bool (nC2 pL ranks xs ((l.getD k (0, 0, 0, 0)).2.1) ((l.getD k (0, 0, 0, 0)).2.2.1) ((l.getD k (0, 0, 0, 0)).2.2.2))], .int .i64 (nE ranks ((l.getD k (0, 0, 0, 0)).2.1) ((l.getD k (0, 0, 0, 0)).2.2.2))], .pointer (some ⟨p, 0, none⟩), .pointer (some ⟨g3, 1, none⟩), .int .i64 ((l.getD k (0, 0, 0, 0)).2.1), .pointer (some ⟨g3, 2, none⟩), .int .i64 ((l.getD k (0, 0, 0, 0)).2.2.1), .pointer (some ⟨g3, 3, none⟩), .int .i64 ((l.getD k (0, 0, 0, 0)).2.2.2), .tuple #[.agg #[.bool (nC1 rL ranks rs ((l.getD k (0, 0, 0, 0)).2.1) ((l.getD k (0, 0, 0, 0)).2.2.2)), .bool (nC2 pL ranks xs ((l.getD k (0, 0, 0, 0)).2.1) ((l.getD k (0, 0, 0, 0)).2.2.1) ((l.getD k (0, 0, 0, 0)).2.2.2))], .int .i64 (nE ranks ((l.getD k (0, 0, 0, 0)).2.1) ((l.getD k (0, 0, 0, 0)).2.2.2))], .agg #[.bool (nC1 rL ranks rs ((l.getD k (0, 0, 0, 0)).2.1) ((l.getD k (0, 0, 0, 0)).2.2.2)), .bool (nC2 pL ranks xs ((l.getD k (0, 0, 0, 0)).2.1) ((l.getD k (0, 0, 0, 0)).2.2.1) ((l.getD k (0, 0, 0, 0)).2.2.2))], .int .i64 (nE ranks ((l.getD k (0, 0, 0, 0)).2.1) ((l.getD k (0, 0, 0, 0)).2.2.2)), .pointer (some ⟨g3, 1, none⟩), .int .i64 ((l.getD k (0, 0, 0, 0)).2.1), .int .i64 ((i : Nat) : Int), .bool true, .bool true, .pointer (some ⟨g3, 3, none⟩), .int .i64 ((l.getD k (0, 0, 0, 0)).2.2.2), .bool false, .bool false, (uf1 37), (uf1 38), (uf1 39), (uf1 40), (uf1 41), (uf1 42), (uf1 43), (uf1 44), (uf1 45), (uf1 46), (uf1 47), (uf1 48), (uf1 49), (uf1 50), (uf1 51), (uf1 52), (uf1 53), .pointer (some ⟨p, 0, none⟩), .int .i64 ((i : Nat) : Int), .agg #[.int .i64 b.1, .int .i64 b.2], .agg #[.int .i64 b.1, .int .i64 b.2], .bool false, .bool false, .bool false, .bool false, undef, undef, undef, .bool false, .bool false, .bool false, .pointer (some ⟨g3, 1, none⟩), .int .i64 ((l.getD k (0, 0, 0, 0)).2.1), .int .i64 ((i : Nat) : Int), .bool true, .bool true, .pointer (some ⟨g4, 0, none⟩), .bool (nC1 rL ranks rs ((l.getD k (0, 0, 0, 0)).2.1) ((l.getD k (0, 0, 0, 0)).2.2.2)), .bool false, .bool false, .bool false, .bool false, .int .i64 (((k : Nat) : Int) + 1)]), (by kernel_rfl), H, (by omega), hk1, (by rw [← hb1]; unfold rgetI; rw [if_pos (by omega)]; rfl)⟩
          · skip
            exact absurd h12 (by rw [sums_c0 h10p]; decide)
        · skip
          have h10p := of_decide_eq_true h10
          refine x_t (by kernel_rfl) ?_
          refine x_region ?_
          refine x_loadn (t := 86) H 6 g2 0 #[.int .i64 b.1, .int .i64 b.2] 86 [.int .i64 b.1, .int .i64 b.2] (by kernel_rfl) (by kernel_rfl) (by kernel_rfl) rfl (by kernel_rfl) (by kernel_rfl) ?_
          refine x_val (.pointer (some ⟨g1, 0, none⟩)) (by kernel_rfl) rfl (by kernel_rfl) ?_
          refine x_loadn (t := 78) H 7 g1 0 #[.int .i64 rL, .int .i64 rE, .int .i64 pL, .int .i64 pE, .int .i64 ((room : Nat) : Int), .int .i64 hv] 80 [.int .i64 rL, .int .i64 rE] (by kernel_rfl) (by kernel_rfl) (by kernel_rfl) rfl (by kernel_rfl) (by kernel_rfl) ?_
          refine x_val (.pointer (some ⟨g3, 3, none⟩)) (by kernel_rfl) rfl (by kernel_rfl) ?_
          refine x_load1 H 5 g3 3 #[.int .i64 ((l.getD k (0, 0, 0, 0)).1), .int .i64 ((l.getD k (0, 0, 0, 0)).2.1), .int .i64 ((l.getD k (0, 0, 0, 0)).2.2.1), .int .i64 ((l.getD k (0, 0, 0, 0)).2.2.2)] 88 (.int .i64 ((l.getD k (0, 0, 0, 0)).2.2.2)) (by kernel_rfl) (by kernel_rfl) (by kernel_rfl) rfl (by kernel_rfl) ?_
          refine x_callB (.tuple #[.agg #[.int .i64 ((bfill b (l.getD k (0, 0, 0, 0)).2.2.2).1), .int .i64 ((bfill b (l.getD k (0, 0, 0, 0)).2.2.2).2)], .bool (bcross rL b (l.getD k (0, 0, 0, 0)).2.2.2)]) H (by kernel_rfl) rfl (by kernel_rfl) (Fill_ok rL rE b.1 b.2 (l.getD k (0, 0, 0, 0)).2.2.2 hP.r hbo h10p _) ?_
          clear H
          intro v22 H
          refine x_val (.tuple #[.agg #[.int .i64 ((bfill b (l.getD k (0, 0, 0, 0)).2.2.2).1), .int .i64 ((bfill b (l.getD k (0, 0, 0, 0)).2.2.2).2)], .bool (bcross rL b (l.getD k (0, 0, 0, 0)).2.2.2)]) (by kernel_rfl) rfl (by kernel_rfl) ?_
          refine x_val (.agg #[.int .i64 ((bfill b (l.getD k (0, 0, 0, 0)).2.2.2).1), .int .i64 ((bfill b (l.getD k (0, 0, 0, 0)).2.2.2).2)]) (by kernel_rfl) rfl (by kernel_rfl) ?_
          refine x_val (.bool (bcross rL b (l.getD k (0, 0, 0, 0)).2.2.2)) (by kernel_rfl) rfl (by kernel_rfl) ?_
          refine x_store (t := 86) (v := .agg #[.int .i64 ((bfill b (l.getD k (0, 0, 0, 0)).2.2.2).1), .int .i64 ((bfill b (l.getD k (0, 0, 0, 0)).2.2.2).2)]) H 6 g2 0 #[.int .i64 b.1, .int .i64 b.2] #[.int .i64 ((bfill b (l.getD k (0, 0, 0, 0)).2.2.2).1), .int .i64 ((bfill b (l.getD k (0, 0, 0, 0)).2.2.2).2)] 86 [.int .i64 ((bfill b (l.getD k (0, 0, 0, 0)).2.2.2).1), .int .i64 ((bfill b (l.getD k (0, 0, 0, 0)).2.2.2).2)] [.blk p #[.int .i64 rL, .int .i64 rE, .int .i64 pL, .int .i64 pE, .int .i64 ((room : Nat) : Int), .int .i64 hv, .slice (some ⟨gr, 0, none⟩) ranks ranks, .pointer (some ⟨t, 0, none⟩)] 187, .row (.slice (some ⟨gr, 0, none⟩) ranks ranks) 86 2 ranks (List.flatMap bukL (nRs ranks rs ((l.getD k (0, 0, 0, 0)).2.1) ((l.getD k (0, 0, 0, 0)).2.2.2))), .blk t #[svn, .int .i64 ((room : Nat) : Int), .func (.func 103) #[] #[]] 228, .row (svn) 230 3 (List.length (nXs ranks room xs ((l.getD k (0, 0, 0, 0)).2.1) ((l.getD k (0, 0, 0, 0)).2.2.1) ((l.getD k (0, 0, 0, 0)).2.2.2))) (List.flatMap pairLB (nXs ranks room xs ((l.getD k (0, 0, 0, 0)).2.1) ((l.getD k (0, 0, 0, 0)).2.2.1) ((l.getD k (0, 0, 0, 0)).2.2.2))), .blk g4 #[.bool (nC1 rL ranks rs ((l.getD k (0, 0, 0, 0)).2.1) ((l.getD k (0, 0, 0, 0)).2.2.2)), .bool (nC2 pL ranks xs ((l.getD k (0, 0, 0, 0)).2.1) ((l.getD k (0, 0, 0, 0)).2.2.1) ((l.getD k (0, 0, 0, 0)).2.2.2))] 90, .blk g3 #[.int .i64 ((l.getD k (0, 0, 0, 0)).1), .int .i64 ((l.getD k (0, 0, 0, 0)).2.1), .int .i64 ((l.getD k (0, 0, 0, 0)).2.2.1), .int .i64 ((l.getD k (0, 0, 0, 0)).2.2.2)] 88, .blk g2 #[.int .i64 ((bfill b (l.getD k (0, 0, 0, 0)).2.2.2).1), .int .i64 ((bfill b (l.getD k (0, 0, 0, 0)).2.2.2).2)] 86, .blk g1 #[.int .i64 rL, .int .i64 rE, .int .i64 pL, .int .i64 pE, .int .i64 ((room : Nat) : Int), .int .i64 hv] 80] (by kernel_rfl) rfl (by kernel_rfl) (by kernel_rfl) (by kernel_rfl) (by kernel_rfl) (by kernel_rfl) (by kernel_rfl) (by kernel_rfl) (by kernel_rfl) ?_
          clear H
          intro v23 H
          refine x_val (.bool (bcross rL b (l.getD k (0, 0, 0, 0)).2.2.2)) (by kernel_rfl) rfl (by kernel_rfl) ?_
          refine x_nil ?_
          refine x_blk ?_
          refine x_then ?_
          refine x_seq ?_
          refine x_region_whole (fun w' => Hs [] w0 w' [.blk p #[.int .i64 rL, .int .i64 rE, .int .i64 pL, .int .i64 pE, .int .i64 ((room : Nat) : Int), .int .i64 hv, .slice (some ⟨gr, 0, none⟩) ranks ranks, .pointer (some ⟨t, 0, none⟩)] 187, .row (.slice (some ⟨gr, 0, none⟩) ranks ranks) 86 2 ranks (List.flatMap bukL (nRs ranks rs ((l.getD k (0, 0, 0, 0)).2.1) ((l.getD k (0, 0, 0, 0)).2.2.2))), .blk t #[svn, .int .i64 ((room : Nat) : Int), .func (.func 103) #[] #[]] 228, .row (svn) 230 3 (List.length (nXs ranks room xs ((l.getD k (0, 0, 0, 0)).2.1) ((l.getD k (0, 0, 0, 0)).2.2.1) ((l.getD k (0, 0, 0, 0)).2.2.2))) (List.flatMap pairLB (nXs ranks room xs ((l.getD k (0, 0, 0, 0)).2.1) ((l.getD k (0, 0, 0, 0)).2.2.1) ((l.getD k (0, 0, 0, 0)).2.2.2))), .blk g4 #[.bool (nC1 rL ranks rs ((l.getD k (0, 0, 0, 0)).2.1) ((l.getD k (0, 0, 0, 0)).2.2.2)), .bool (nC2 pL ranks xs ((l.getD k (0, 0, 0, 0)).2.1) ((l.getD k (0, 0, 0, 0)).2.2.1) ((l.getD k (0, 0, 0, 0)).2.2.2))] 90, .blk g3 #[.int .i64 ((l.getD k (0, 0, 0, 0)).1), .int .i64 ((l.getD k (0, 0, 0, 0)).2.1), .int .i64 ((l.getD k (0, 0, 0, 0)).2.2.1), .int .i64 ((l.getD k (0, 0, 0, 0)).2.2.2)] 88, .blk g2 #[.int .i64 ((bfill b (l.getD k (0, 0, 0, 0)).2.2.2).1), .int .i64 ((bfill b (l.getD k (0, 0, 0, 0)).2.2.2).2)] 86, .blk g1 #[.int .i64 rL, .int .i64 rE, .int .i64 pL, .int .i64 pE, .int .i64 ((room : Nat) : Int), .int .i64 hv] 80]) (by kernel_rfl) (by kernel_rfl) (by kernel_rfl) H.drew ?_
          refine q_val (.pointer (some ⟨p, 0, none⟩)) (by kernel_rfl) (fun _ => by kernel_rfl) ?_
          refine q_val (.int .i64 ((i : Nat) : Int)) (by kernel_rfl) (fun _ => by kernel_rfl) ?_
          have hb1 : rgetI ranks (nRs ranks rs ((l.getD k (0, 0, 0, 0)).2.1) ((l.getD k (0, 0, 0, 0)).2.2.2)) ((i : Nat) : Int) = (bfill b (l.getD k (0, 0, 0, 0)).2.2.2) := sums_in hk hi hbi h8p h10p
          refine q_callR (.agg #[.int .i64 ((bfill b (l.getD k (0, 0, 0, 0)).2.2.2).1), .int .i64 ((bfill b (l.getD k (0, 0, 0, 0)).2.2.2).2)]) (by kernel_rfl) (fun _ => by kernel_rfl) (fun _ H => (by have h := Rank_any ((i : Nat) : Int) hk1.n _ (H.roOf [0, 1] [.blk p #[.int .i64 rL, .int .i64 rE, .int .i64 pL, .int .i64 pE, .int .i64 ((room : Nat) : Int), .int .i64 hv, .slice (some ⟨gr, 0, none⟩) ranks ranks, .pointer (some ⟨t, 0, none⟩)] 187, .row (.slice (some ⟨gr, 0, none⟩) ranks ranks) 86 2 ranks (List.flatMap bukL (nRs ranks rs ((l.getD k (0, 0, 0, 0)).2.1) ((l.getD k (0, 0, 0, 0)).2.2.2)))] (by kernel_rfl)); rw [hb1] at h; exact h)) ?_
          refine q_loadn (t := 86) 6 g2 0 #[.int .i64 ((bfill b (l.getD k (0, 0, 0, 0)).2.2.2).1), .int .i64 ((bfill b (l.getD k (0, 0, 0, 0)).2.2.2).2)] 86 [.int .i64 ((bfill b (l.getD k (0, 0, 0, 0)).2.2.2).1), .int .i64 ((bfill b (l.getD k (0, 0, 0, 0)).2.2.2).2)] (by kernel_rfl) (by kernel_rfl) (by kernel_rfl) (by kernel_rfl) (by kernel_rfl) ?_
          have h13 : (decide ((((bfill b (l.getD k (0, 0, 0, 0)).2.2.2).1) : Int) = ((bfill b (l.getD k (0, 0, 0, 0)).2.2.2).1)) && (decide ((((bfill b (l.getD k (0, 0, 0, 0)).2.2.2).2) : Int) = ((bfill b (l.getD k (0, 0, 0, 0)).2.2.2).2)) && true)) = true := by simp
          refine q_val (.bool false) (by kernel_rfl) (fun _ => ((run_neS (t := 86) (x := .tmp 99) (y := .tmp 100) (xs := #[.int .i64 ((bfill b (l.getD k (0, 0, 0, 0)).2.2.2).1), .int .i64 ((bfill b (l.getD k (0, 0, 0, 0)).2.2.2).2)]) (ys := #[.int .i64 ((bfill b (l.getD k (0, 0, 0, 0)).2.2.2).1), .int .i64 ((bfill b (l.getD k (0, 0, 0, 0)).2.2.2).2)]) (B := decide ((((bfill b (l.getD k (0, 0, 0, 0)).2.2.2).1) : Int) = ((bfill b (l.getD k (0, 0, 0, 0)).2.2.2).1)) && (decide ((((bfill b (l.getD k (0, 0, 0, 0)).2.2.2).2) : Int) = ((bfill b (l.getD k (0, 0, 0, 0)).2.2.2).2)) && true)) (by kernel_rfl) (by kernel_rfl) (by kernel_rfl)).trans (by rw [h13]; rfl))) ?_
          refine q_val (.bool false) (by kernel_rfl) (fun _ => by kernel_rfl) ?_
          refine q_val (.bool (bcross rL b (l.getD k (0, 0, 0, 0)).2.2.2)) (by kernel_rfl) (fun _ => by kernel_rfl) ?_
          refine q_val (.bool (bcross rL b (l.getD k (0, 0, 0, 0)).2.2.2)) (by kernel_rfl) (fun _ => by kernel_rfl) ?_
          cases h14 : bcross rL b (l.getD k (0, 0, 0, 0)).2.2.2
          · skip
            refine q_skip (by kernel_rfl) ?_
            refine q_skip (by kernel_rfl) ?_
            refine q_skip (by kernel_rfl) ?_
            refine q_val (.bool false) (by kernel_rfl) (fun _ => by kernel_rfl) ?_
            refine q_val (.bool false) (by kernel_rfl) (fun _ => by kernel_rfl) ?_
            refine q_val (.bool false) (by kernel_rfl) (fun _ => by kernel_rfl) ?_
            refine q_val (.pointer (some ⟨g3, 1, none⟩)) (by kernel_rfl) (fun _ => by kernel_rfl) ?_
            refine q_load1 5 g3 1 #[.int .i64 ((l.getD k (0, 0, 0, 0)).1), .int .i64 ((l.getD k (0, 0, 0, 0)).2.1), .int .i64 ((l.getD k (0, 0, 0, 0)).2.2.1), .int .i64 ((l.getD k (0, 0, 0, 0)).2.2.2)] 88 (.int .i64 ((l.getD k (0, 0, 0, 0)).2.1)) (by kernel_rfl) (by kernel_rfl) (by kernel_rfl) (fun _ => by kernel_rfl) ?_
            refine q_val (.int .i64 ((i : Nat) : Int)) (by kernel_rfl) (fun _ => by kernel_rfl) ?_
            refine q_val (.bool (decide (((l.getD k (0, 0, 0, 0)).2.1) = ((i : Nat) : Int)))) (by kernel_rfl) (fun _ => by kernel_rfl) ?_
            refine q_val (.bool (decide (((l.getD k (0, 0, 0, 0)).2.1) = ((i : Nat) : Int)))) (by kernel_rfl) (fun _ => by kernel_rfl) ?_
            rw [h8]
            refine q_val (.pointer (some ⟨g4, 0, none⟩)) (by kernel_rfl) (fun _ => by kernel_rfl) ?_
            refine q_load1 4 g4 0 #[.bool (nC1 rL ranks rs ((l.getD k (0, 0, 0, 0)).2.1) ((l.getD k (0, 0, 0, 0)).2.2.2)), .bool (nC2 pL ranks xs ((l.getD k (0, 0, 0, 0)).2.1) ((l.getD k (0, 0, 0, 0)).2.2.1) ((l.getD k (0, 0, 0, 0)).2.2.2))] 90 (.bool (nC1 rL ranks rs ((l.getD k (0, 0, 0, 0)).2.1) ((l.getD k (0, 0, 0, 0)).2.2.2))) (by kernel_rfl) (by kernel_rfl) (by kernel_rfl) (fun _ => by kernel_rfl) ?_
            refine q_val (.bool false) (by kernel_rfl) (fun _ => by kernel_rfl) ?_
            refine q_val (.bool ((nC1 rL ranks rs ((l.getD k (0, 0, 0, 0)).2.1) ((l.getD k (0, 0, 0, 0)).2.2.2)) != false)) (by kernel_rfl) (fun _ => by kernel_rfl) ?_
            refine q_val (.bool ((nC1 rL ranks rs ((l.getD k (0, 0, 0, 0)).2.1) ((l.getD k (0, 0, 0, 0)).2.2.2)) != false)) (by kernel_rfl) (fun _ => by kernel_rfl) ?_
            refine q_val (.bool ((nC1 rL ranks rs ((l.getD k (0, 0, 0, 0)).2.1) ((l.getD k (0, 0, 0, 0)).2.2.2)) != false)) (by kernel_rfl) (fun _ => by kernel_rfl) ?_
            refine q_nil ?_
            clear H
            intro v24 H
            refine x_frame' { tmps := #[.agg #[.int .i64 rL, .int .i64 rE, .int .i64 pL, .int .i64 pE, .int .i64 ((room : Nat) : Int), .int .i64 hv], .int .i64 ((ranks : Nat) : Int), .slice ad nA cA, .int .i64 ((i : Nat) : Int), .pointer (some ⟨g1, 0, none⟩), undef, undef, undef, (uf1 0), .pointer (some ⟨p, 0, none⟩), .int .i64 0, .pointer (some ⟨g2, 0, none⟩), undef, .pointer (some ⟨g3, 0, none⟩), .bool false, .pointer (some ⟨g4, 0, none⟩), .int .i64 12, .bool true, .bool false, .tuple #[.pointer (some ⟨p, 0, none⟩), .int .i64 0], .agg #[.int .i64 rL, .int .i64 rE, .int .i64 pL, .int .i64 pE, .int .i64 ((room : Nat) : Int), .int .i64 hv], .int .i64 ((ranks : Nat) : Int), .tuple #[.pointer (some ⟨p, 0, none⟩), .int .i64 0], .pointer (some ⟨p, 0, none⟩), .int .i64 0, .int .i64 0, .bool false, .bool false, .pointer (some ⟨p, 0, none⟩), .bool false, .bool false, .bool false, .int .i64 ((i : Nat) : Int), .bool false, .bool false, .bool false, .int .i64 ((i : Nat) : Int), .int .i64 ((ranks : Nat) : Int), .bool false, .bool false, .bool false, .slice ad nA cA, .int .i64 ((nA : Nat) : Int), .bool false, .bool false, .slice ad nA cA, .int .i64 ((nA : Nat) : Int), .int .i64 ((k : Nat) : Int), .bool true, .pointer (some ⟨ga, oa + k * 4, none⟩), .agg #[.int .i64 ((l.getD k (0, 0, 0, 0)).1), .int .i64 ((l.getD k (0, 0, 0, 0)).2.1), .int .i64 ((l.getD k (0, 0, 0, 0)).2.2.1), .int .i64 ((l.getD k (0, 0, 0, 0)).2.2.2)], .tuple #[.agg #[.bool false, .bool false], .int .i64 12], .pointer (some ⟨p, 0, none⟩), .tuple #[.agg #[.bool false, .bool false], .int .i64 12], .agg #[.bool false, .bool false], .int .i64 12, .pointer (some ⟨g3, 0, none⟩), .int .i64 ((l.getD k (0, 0, 0, 0)).1), .bool true, .bool true, .tuple #[.agg #[.bool (nC1 rL ranks rs ((l.getD k (0, 0, 0, 0)).2.1) ((l.getD k (0, 0, 0, 0)).2.2.2)), .bool (nC2 pL ranks xs ((l.getD k (0, 0, 0, 0)).2.1) ((l.getD k (0, 0, 0, 0)).2.2.1) ((l.getD k (0, 0, 0, 0)).2.2.2))], .int .i64 (nE ranks ((l.getD k (0, 0, 0, 0)).2.1) ((l.getD k (0, 0, 0, 0)).2.2.2))], .pointer (some ⟨p, 0, none⟩), .pointer (some ⟨g3, 1, none⟩), .int .i64 ((l.getD k (0, 0, 0, 0)).2.1), .pointer (some ⟨g3, 2, none⟩), .int .i64 ((l.getD k (0, 0, 0, 0)).2.2.1), .pointer (some ⟨g3, 3, none⟩), .int .i64 ((l.getD k (0, 0, 0, 0)).2.2.2), .tuple #[.agg #[.bool (nC1 rL ranks rs ((l.getD k (0, 0, 0, 0)).2.1) ((l.getD k (0, 0, 0, 0)).2.2.2)), .bool (nC2 pL ranks xs ((l.getD k (0, 0, 0, 0)).2.1) ((l.getD k (0, 0, 0, 0)).2.2.1) ((l.getD k (0, 0, 0, 0)).2.2.2))], .int .i64 (nE ranks ((l.getD k (0, 0, 0, 0)).2.1) ((l.getD k (0, 0, 0, 0)).2.2.2))], .agg #[.bool (nC1 rL ranks rs ((l.getD k (0, 0, 0, 0)).2.1) ((l.getD k (0, 0, 0, 0)).2.2.2)), .bool (nC2 pL ranks xs ((l.getD k (0, 0, 0, 0)).2.1) ((l.getD k (0, 0, 0, 0)).2.2.1) ((l.getD k (0, 0, 0, 0)).2.2.2))], .int .i64 (nE ranks ((l.getD k (0, 0, 0, 0)).2.1) ((l.getD k (0, 0, 0, 0)).2.2.2)), .pointer (some ⟨g3, 1, none⟩), .int .i64 ((l.getD k (0, 0, 0, 0)).2.1), .int .i64 ((i : Nat) : Int), .bool true, .bool true, .pointer (some ⟨g3, 3, none⟩), .int .i64 ((l.getD k (0, 0, 0, 0)).2.2.2), .bool true, .bool true, .tuple #[.agg #[.int .i64 ((bfill b (l.getD k (0, 0, 0, 0)).2.2.2).1), .int .i64 ((bfill b (l.getD k (0, 0, 0, 0)).2.2.2).2)], .bool false], .agg #[.int .i64 b.1, .int .i64 b.2], .pointer (some ⟨g1, 0, none⟩), .agg #[.int .i64 rL, .int .i64 rE], .pointer (some ⟨g3, 3, none⟩), .int .i64 ((l.getD k (0, 0, 0, 0)).2.2.2), .tuple #[.agg #[.int .i64 ((bfill b (l.getD k (0, 0, 0, 0)).2.2.2).1), .int .i64 ((bfill b (l.getD k (0, 0, 0, 0)).2.2.2).2)], .bool false], .agg #[.int .i64 ((bfill b (l.getD k (0, 0, 0, 0)).2.2.2).1), .int .i64 ((bfill b (l.getD k (0, 0, 0, 0)).2.2.2).2)], .bool false, (uf1 46), (uf1 47), (uf1 48), (uf1 49), (uf1 50), (uf1 51), (uf1 52), (uf1 53), .pointer (some ⟨p, 0, none⟩), .int .i64 ((i : Nat) : Int), .agg #[.int .i64 ((bfill b (l.getD k (0, 0, 0, 0)).2.2.2).1), .int .i64 ((bfill b (l.getD k (0, 0, 0, 0)).2.2.2).2)], .agg #[.int .i64 ((bfill b (l.getD k (0, 0, 0, 0)).2.2.2).1), .int .i64 ((bfill b (l.getD k (0, 0, 0, 0)).2.2.2).2)], .bool false, .bool false, .bool false, .bool false, undef, undef, undef, .bool false, .bool false, .bool false, .pointer (some ⟨g3, 1, none⟩), .int .i64 ((l.getD k (0, 0, 0, 0)).2.1), .int .i64 ((i : Nat) : Int), .bool true, .bool true, .pointer (some ⟨g4, 0, none⟩), .bool (nC1 rL ranks rs ((l.getD k (0, 0, 0, 0)).2.1) ((l.getD k (0, 0, 0, 0)).2.2.2)), .bool false, .bool ((nC1 rL ranks rs ((l.getD k (0, 0, 0, 0)).2.1) ((l.getD k (0, 0, 0, 0)).2.2.2)) != false), .bool ((nC1 rL ranks rs ((l.getD k (0, 0, 0, 0)).2.1) ((l.getD k (0, 0, 0, 0)).2.2.2)) != false), .bool ((nC1 rL ranks rs ((l.getD k (0, 0, 0, 0)).2.1) ((l.getD k (0, 0, 0, 0)).2.2.2)) != false), (uf1 79)], defers := [] } (by kernel_rfl) ?_
            refine x_then ?_
            cases h15 : (nC1 rL ranks rs ((l.getD k (0, 0, 0, 0)).2.1) ((l.getD k (0, 0, 0, 0)).2.2.2)) != false
            · skip
              refine x_f (by kernel_rfl) ?_
              refine x_skipc ?_
              refine x_blk ?_
              refine x_then ?_
              refine x_region ?_
              refine x_ar (((k : Nat) : Int) + 1) ⟨by omega, by omega⟩ (by kernel_rfl) rfl (by kernel_rfl) ?_
              refine x_val (.int .i64 (((k : Nat) : Int) + 1)) (by kernel_rfl) rfl (by kernel_rfl) ?_
              refine x_nil ?_
              refine x_then ?_
              replace H := H.pick [0, 1, 2, 3, 6, 7] [.blk p #[.int .i64 rL, .int .i64 rE, .int .i64 pL, .int .i64 pE, .int .i64 ((room : Nat) : Int), .int .i64 hv, .slice (some ⟨gr, 0, none⟩) ranks ranks, .pointer (some ⟨t, 0, none⟩)] 187, .row (.slice (some ⟨gr, 0, none⟩) ranks ranks) 86 2 ranks (List.flatMap bukL (nRs ranks rs ((l.getD k (0, 0, 0, 0)).2.1) ((l.getD k (0, 0, 0, 0)).2.2.2))), .blk t #[svn, .int .i64 ((room : Nat) : Int), .func (.func 103) #[] #[]] 228, .row (svn) 230 3 (List.length (nXs ranks room xs ((l.getD k (0, 0, 0, 0)).2.1) ((l.getD k (0, 0, 0, 0)).2.2.1) ((l.getD k (0, 0, 0, 0)).2.2.2))) (List.flatMap pairLB (nXs ranks room xs ((l.getD k (0, 0, 0, 0)).2.1) ((l.getD k (0, 0, 0, 0)).2.2.1) ((l.getD k (0, 0, 0, 0)).2.2.2))), .blk g2 #[.int .i64 ((bfill b (l.getD k (0, 0, 0, 0)).2.2.2).1), .int .i64 ((bfill b (l.getD k (0, 0, 0, 0)).2.2.2).2)] 86, .blk g1 #[.int .i64 rL, .int .i64 rE, .int .i64 pL, .int .i64 pE, .int .i64 ((room : Nat) : Int), .int .i64 hv] 80] (by decide) (by kernel_rfl)
              exact ⟨(k + 1, svn, (nRs ranks rs ((l.getD k (0, 0, 0, 0)).2.1) ((l.getD k (0, 0, 0, 0)).2.2.2)), (nXs ranks room xs ((l.getD k (0, 0, 0, 0)).2.1) ((l.getD k (0, 0, 0, 0)).2.2.1) ((l.getD k (0, 0, 0, 0)).2.2.2)), (bfill b (l.getD k (0, 0, 0, 0)).2.2.2)), (by dsimp only; omega), (nthV [(uf1 0), .pointer (some ⟨g3, 0, none⟩), .bool false, .pointer (some ⟨g4, 0, none⟩), .int .i64 12, .bool true, .pointer (some ⟨ga, oa + k * 4, none⟩), .agg #[.int .i64 ((l.getD k (0, 0, 0, 0)).1), .int .i64 ((l.getD k (0, 0, 0, 0)).2.1), .int .i64 ((l.getD k (0, 0, 0, 0)).2.2.1), .int .i64 ((l.getD k (0, 0, 0, 0)).2.2.2)], .tuple #[.agg #[.bool false, .bool false], .int .i64 12], .pointer (some ⟨p, 0, none⟩), .tuple #[.agg #[.bool false, .bool false], .int .i64 12], .agg #[.bool false, .bool false], .int .i64 12, .pointer (some ⟨g3, 0, none⟩), .int .i64 ((l.getD k (0, 0, 0, 0)).1), .bool true, .bool true, .tuple #[.agg #[.bool (nC1 rL ranks rs ((l.getD k (0, 0, 0, 0)).2.1) ((l.getD k (0, 0, 0, 0)).2.2.2)), .bool (nC2 pL ranks xs ((l.getD k (0, 0, 0, 0)).2.1) ((l.getD k (0, 0, 0, 0)).2.2.1) ((l.getD k (0, 0, 0, 0)).2.2.2))], .int .i64 (nE ranks ((l.getD k (0, 0, 0, 0)).2.1) ((l.getD k (0, 0, 0, 0)).2.2.2))], .pointer (some ⟨p, 0, none⟩), .pointer (some ⟨g3, 1, none⟩), .int .i64 ((l.getD k (0, 0, 0, 0)).2.1), .pointer (some ⟨g3, 2, none⟩), .int .i64 ((l.getD k (0, 0, 0, 0)).2.2.1), .pointer (some ⟨g3, 3, none⟩), .int .i64 ((l.getD k (0, 0, 0, 0)).2.2.2), .tuple #[.agg #[.bool (nC1 rL ranks rs ((l.getD k (0, 0, 0, 0)).2.1) ((l.getD k (0, 0, 0, 0)).2.2.2)), .bool (nC2 pL ranks xs ((l.getD k (0, 0, 0, 0)).2.1) ((l.getD k (0, 0, 0, 0)).2.2.1) ((l.getD k (0, 0, 0, 0)).2.2.2))], .int .i64 (nE ranks ((l.getD k (0, 0, 0, 0)).2.1) ((l.getD k (0, 0, 0, 0)).2.2.2))], .agg #[.bool (nC1 rL ranks rs ((l.getD k (0, 0, 0, 0)).2.1) ((l.getD k (0, 0, 0, 0)).2.2.2)), .bool (nC2 pL ranks xs ((l.getD k (0, 0, 0, 0)).2.1) ((l.getD k (0, 0, 0, 0)).2.2.1) ((l.getD k (0, 0, 0, 0)).2.2.2))], .int .i64 (nE ranks ((l.getD k (0, 0, 0, 0)).2.1) ((l.getD k (0, 0, 0, 0)).2.2.2)), .pointer (some ⟨g3, 1, none⟩), .int .i64 ((l.getD k (0, 0, 0, 0)).2.1), .int .i64 ((i : Nat) : Int), .bool true, .bool true, .pointer (some ⟨g3, 3, none⟩), .int .i64 ((l.getD k (0, 0, 0, 0)).2.2.2), .bool true, .bool true, .tuple #[.agg #[.int .i64 ((bfill b (l.getD k (0, 0, 0, 0)).2.2.2).1), .int .i64 ((bfill b (l.getD k (0, 0, 0, 0)).2.2.2).2)], .bool false], .agg #[.int .i64 b.1, .int .i64 b.2], .pointer (some ⟨g1, 0, none⟩), .agg #[.int .i64 rL, .int .i64 rE], .pointer (some ⟨g3, 3, none⟩), .int .i64 ((l.getD k (0, 0, 0, 0)).2.2.2), .tuple #[.agg #[.int .i64 ((bfill b (l.getD k (0, 0, 0, 0)).2.2.2).1), .int .i64 ((bfill b (l.getD k (0, 0, 0, 0)).2.2.2).2)], .bool false], .agg #[.int .i64 ((bfill b (l.getD k (0, 0, 0, 0)).2.2.2).1), .int .i64 ((bfill b (l.getD k (0, 0, 0, 0)).2.2.2).2)], .bool false, (uf1 46), (uf1 47), (uf1 48), (uf1 49), (uf1 50), (uf1 51), (uf1 52), (uf1 53), .pointer (some ⟨p, 0, none⟩), .int .i64 ((i : Nat) : Int), .agg #[.int .i64 ((bfill b (l.getD k (0, 0, 0, 0)).2.2.2).1), .int .i64 ((bfill b (l.getD k (0, 0, 0, 0)).2.2.2).2)], .agg #[.int .i64 ((bfill b (l.getD k (0, 0, 0, 0)).2.2.2).1), .int .i64 ((bfill b (l.getD k (0, 0, 0, 0)).2.2.2).2)], .bool false, .bool false, .bool false, .bool false, undef, undef, undef, .bool false, .bool false, .bool false, .pointer (some ⟨g3, 1, none⟩), .int .i64 ((l.getD k (0, 0, 0, 0)).2.1), .int .i64 ((i : Nat) : Int), .bool true, .bool true, .pointer (some ⟨g4, 0, none⟩), .bool (nC1 rL ranks rs ((l.getD k (0, 0, 0, 0)).2.1) ((l.getD k (0, 0, 0, 0)).2.2.2)), .bool false, .bool false, .bool false, .bool false, .int .i64 (((k : Nat) : Int) + 1)]), (by kernel_rfl), H, (by omega), hk1, (by rw [← hb1]; unfold rgetI; rw [if_pos (by omega)]; rfl)⟩
            · skip
              exact absurd h15 (by rw [sums_c1 hi hbi h8p h10p, h14]; decide)
          · skip
            refine q_val (.pointer (some ⟨g4, 0, none⟩)) (by kernel_rfl) (fun _ => by kernel_rfl) ?_
            refine q_load1 4 g4 0 #[.bool (nC1 rL ranks rs ((l.getD k (0, 0, 0, 0)).2.1) ((l.getD k (0, 0, 0, 0)).2.2.2)), .bool (nC2 pL ranks xs ((l.getD k (0, 0, 0, 0)).2.1) ((l.getD k (0, 0, 0, 0)).2.2.1) ((l.getD k (0, 0, 0, 0)).2.2.2))] 90 (.bool (nC1 rL ranks rs ((l.getD k (0, 0, 0, 0)).2.1) ((l.getD k (0, 0, 0, 0)).2.2.2))) (by kernel_rfl) (by kernel_rfl) (by kernel_rfl) (fun _ => by kernel_rfl) ?_
            refine q_val (.bool (!(nC1 rL ranks rs ((l.getD k (0, 0, 0, 0)).2.1) ((l.getD k (0, 0, 0, 0)).2.2.2)))) (by kernel_rfl) (fun _ => by kernel_rfl) ?_
            refine q_val (.bool (!(nC1 rL ranks rs ((l.getD k (0, 0, 0, 0)).2.1) ((l.getD k (0, 0, 0, 0)).2.2.2)))) (by kernel_rfl) (fun _ => by kernel_rfl) ?_
            refine q_val (.bool (!(nC1 rL ranks rs ((l.getD k (0, 0, 0, 0)).2.1) ((l.getD k (0, 0, 0, 0)).2.2.2)))) (by kernel_rfl) (fun _ => by kernel_rfl) ?_
            refine q_val (.bool (!(nC1 rL ranks rs ((l.getD k (0, 0, 0, 0)).2.1) ((l.getD k (0, 0, 0, 0)).2.2.2)))) (by kernel_rfl) (fun _ => by kernel_rfl) ?_
            cases h16 : nC1 rL ranks rs ((l.getD k (0, 0, 0, 0)).2.1) ((l.getD k (0, 0, 0, 0)).2.2.2)
            · skip
              exact absurd h16 (by rw [sums_c1 hi hbi h8p h10p, h14]; decide)
            · skip
              refine q_val (.pointer (some ⟨g3, 1, none⟩)) (by kernel_rfl) (fun _ => by kernel_rfl) ?_
              refine q_load1 5 g3 1 #[.int .i64 ((l.getD k (0, 0, 0, 0)).1), .int .i64 ((l.getD k (0, 0, 0, 0)).2.1), .int .i64 ((l.getD k (0, 0, 0, 0)).2.2.1), .int .i64 ((l.getD k (0, 0, 0, 0)).2.2.2)] 88 (.int .i64 ((l.getD k (0, 0, 0, 0)).2.1)) (by kernel_rfl) (by kernel_rfl) (by kernel_rfl) (fun _ => by kernel_rfl) ?_
              refine q_val (.int .i64 ((i : Nat) : Int)) (by kernel_rfl) (fun _ => by kernel_rfl) ?_
              refine q_val (.bool (decide (((l.getD k (0, 0, 0, 0)).2.1) = ((i : Nat) : Int)))) (by kernel_rfl) (fun _ => by kernel_rfl) ?_
              refine q_val (.bool (decide (((l.getD k (0, 0, 0, 0)).2.1) = ((i : Nat) : Int)))) (by kernel_rfl) (fun _ => by kernel_rfl) ?_
              rw [h8]
              refine q_val (.pointer (some ⟨g4, 0, none⟩)) (by kernel_rfl) (fun _ => by kernel_rfl) ?_
              refine q_load1 4 g4 0 #[.bool true, .bool (nC2 pL ranks xs ((l.getD k (0, 0, 0, 0)).2.1) ((l.getD k (0, 0, 0, 0)).2.2.1) ((l.getD k (0, 0, 0, 0)).2.2.2))] 90 (.bool true) (by kernel_rfl) (by kernel_rfl) (by kernel_rfl) (fun _ => by kernel_rfl) ?_
              refine q_val (.bool true) (by kernel_rfl) (fun _ => by kernel_rfl) ?_
              refine q_val (.bool false) (by kernel_rfl) (fun _ => by kernel_rfl) ?_
              refine q_val (.bool false) (by kernel_rfl) (fun _ => by kernel_rfl) ?_
              refine q_val (.bool false) (by kernel_rfl) (fun _ => by kernel_rfl) ?_
              refine q_nil ?_
              clear H
              intro v25 H
              refine x_frame' { tmps := #[.agg #[.int .i64 rL, .int .i64 rE, .int .i64 pL, .int .i64 pE, .int .i64 ((room : Nat) : Int), .int .i64 hv], .int .i64 ((ranks : Nat) : Int), .slice ad nA cA, .int .i64 ((i : Nat) : Int), .pointer (some ⟨g1, 0, none⟩), undef, undef, undef, (uf1 0), .pointer (some ⟨p, 0, none⟩), .int .i64 0, .pointer (some ⟨g2, 0, none⟩), undef, .pointer (some ⟨g3, 0, none⟩), .bool true, .pointer (some ⟨g4, 0, none⟩), .int .i64 12, .bool true, .bool false, .tuple #[.pointer (some ⟨p, 0, none⟩), .int .i64 0], .agg #[.int .i64 rL, .int .i64 rE, .int .i64 pL, .int .i64 pE, .int .i64 ((room : Nat) : Int), .int .i64 hv], .int .i64 ((ranks : Nat) : Int), .tuple #[.pointer (some ⟨p, 0, none⟩), .int .i64 0], .pointer (some ⟨p, 0, none⟩), .int .i64 0, .int .i64 0, .bool false, .bool false, .pointer (some ⟨p, 0, none⟩), .bool false, .bool false, .bool false, .int .i64 ((i : Nat) : Int), .bool false, .bool false, .bool false, .int .i64 ((i : Nat) : Int), .int .i64 ((ranks : Nat) : Int), .bool false, .bool false, .bool false, .slice ad nA cA, .int .i64 ((nA : Nat) : Int), .bool false, .bool false, .slice ad nA cA, .int .i64 ((nA : Nat) : Int), .int .i64 ((k : Nat) : Int), .bool true, .pointer (some ⟨ga, oa + k * 4, none⟩), .agg #[.int .i64 ((l.getD k (0, 0, 0, 0)).1), .int .i64 ((l.getD k (0, 0, 0, 0)).2.1), .int .i64 ((l.getD k (0, 0, 0, 0)).2.2.1), .int .i64 ((l.getD k (0, 0, 0, 0)).2.2.2)], .tuple #[.agg #[.bool false, .bool false], .int .i64 12], .pointer (some ⟨p, 0, none⟩), .tuple #[.agg #[.bool false, .bool false], .int .i64 12], .agg #[.bool false, .bool false], .int .i64 12, .pointer (some ⟨g3, 0, none⟩), .int .i64 ((l.getD k (0, 0, 0, 0)).1), .bool true, .bool true, .tuple #[.agg #[.bool true, .bool (nC2 pL ranks xs ((l.getD k (0, 0, 0, 0)).2.1) ((l.getD k (0, 0, 0, 0)).2.2.1) ((l.getD k (0, 0, 0, 0)).2.2.2))], .int .i64 (nE ranks ((l.getD k (0, 0, 0, 0)).2.1) ((l.getD k (0, 0, 0, 0)).2.2.2))], .pointer (some ⟨p, 0, none⟩), .pointer (some ⟨g3, 1, none⟩), .int .i64 ((l.getD k (0, 0, 0, 0)).2.1), .pointer (some ⟨g3, 2, none⟩), .int .i64 ((l.getD k (0, 0, 0, 0)).2.2.1), .pointer (some ⟨g3, 3, none⟩), .int .i64 ((l.getD k (0, 0, 0, 0)).2.2.2), .tuple #[.agg #[.bool true, .bool (nC2 pL ranks xs ((l.getD k (0, 0, 0, 0)).2.1) ((l.getD k (0, 0, 0, 0)).2.2.1) ((l.getD k (0, 0, 0, 0)).2.2.2))], .int .i64 (nE ranks ((l.getD k (0, 0, 0, 0)).2.1) ((l.getD k (0, 0, 0, 0)).2.2.2))], .agg #[.bool true, .bool (nC2 pL ranks xs ((l.getD k (0, 0, 0, 0)).2.1) ((l.getD k (0, 0, 0, 0)).2.2.1) ((l.getD k (0, 0, 0, 0)).2.2.2))], .int .i64 (nE ranks ((l.getD k (0, 0, 0, 0)).2.1) ((l.getD k (0, 0, 0, 0)).2.2.2)), .pointer (some ⟨g3, 1, none⟩), .int .i64 ((l.getD k (0, 0, 0, 0)).2.1), .int .i64 ((i : Nat) : Int), .bool true, .bool true, .pointer (some ⟨g3, 3, none⟩), .int .i64 ((l.getD k (0, 0, 0, 0)).2.2.2), .bool true, .bool true, .tuple #[.agg #[.int .i64 ((bfill b (l.getD k (0, 0, 0, 0)).2.2.2).1), .int .i64 ((bfill b (l.getD k (0, 0, 0, 0)).2.2.2).2)], .bool true], .agg #[.int .i64 b.1, .int .i64 b.2], .pointer (some ⟨g1, 0, none⟩), .agg #[.int .i64 rL, .int .i64 rE], .pointer (some ⟨g3, 3, none⟩), .int .i64 ((l.getD k (0, 0, 0, 0)).2.2.2), .tuple #[.agg #[.int .i64 ((bfill b (l.getD k (0, 0, 0, 0)).2.2.2).1), .int .i64 ((bfill b (l.getD k (0, 0, 0, 0)).2.2.2).2)], .bool true], .agg #[.int .i64 ((bfill b (l.getD k (0, 0, 0, 0)).2.2.2).1), .int .i64 ((bfill b (l.getD k (0, 0, 0, 0)).2.2.2).2)], .bool true, (uf1 46), (uf1 47), (uf1 48), (uf1 49), (uf1 50), (uf1 51), (uf1 52), (uf1 53), .pointer (some ⟨p, 0, none⟩), .int .i64 ((i : Nat) : Int), .agg #[.int .i64 ((bfill b (l.getD k (0, 0, 0, 0)).2.2.2).1), .int .i64 ((bfill b (l.getD k (0, 0, 0, 0)).2.2.2).2)], .agg #[.int .i64 ((bfill b (l.getD k (0, 0, 0, 0)).2.2.2).1), .int .i64 ((bfill b (l.getD k (0, 0, 0, 0)).2.2.2).2)], .bool false, .bool false, .bool true, .bool true, .pointer (some ⟨g4, 0, none⟩), .bool true, .bool false, .bool false, .bool false, .bool false, .pointer (some ⟨g3, 1, none⟩), .int .i64 ((l.getD k (0, 0, 0, 0)).2.1), .int .i64 ((i : Nat) : Int), .bool true, .bool true, .pointer (some ⟨g4, 0, none⟩), .bool true, .bool true, .bool false, .bool false, .bool false, (uf1 79)], defers := [] } (by kernel_rfl) ?_
              refine x_then ?_
              refine x_f (by kernel_rfl) ?_
              refine x_skipc ?_
              refine x_blk ?_
              refine x_then ?_
              refine x_region ?_
              refine x_ar (((k : Nat) : Int) + 1) ⟨by omega, by omega⟩ (by kernel_rfl) rfl (by kernel_rfl) ?_
              refine x_val (.int .i64 (((k : Nat) : Int) + 1)) (by kernel_rfl) rfl (by kernel_rfl) ?_
              refine x_nil ?_
              refine x_then ?_
              replace H := H.pick [0, 1, 2, 3, 6, 7] [.blk p #[.int .i64 rL, .int .i64 rE, .int .i64 pL, .int .i64 pE, .int .i64 ((room : Nat) : Int), .int .i64 hv, .slice (some ⟨gr, 0, none⟩) ranks ranks, .pointer (some ⟨t, 0, none⟩)] 187, .row (.slice (some ⟨gr, 0, none⟩) ranks ranks) 86 2 ranks (List.flatMap bukL (nRs ranks rs ((l.getD k (0, 0, 0, 0)).2.1) ((l.getD k (0, 0, 0, 0)).2.2.2))), .blk t #[svn, .int .i64 ((room : Nat) : Int), .func (.func 103) #[] #[]] 228, .row (svn) 230 3 (List.length (nXs ranks room xs ((l.getD k (0, 0, 0, 0)).2.1) ((l.getD k (0, 0, 0, 0)).2.2.1) ((l.getD k (0, 0, 0, 0)).2.2.2))) (List.flatMap pairLB (nXs ranks room xs ((l.getD k (0, 0, 0, 0)).2.1) ((l.getD k (0, 0, 0, 0)).2.2.1) ((l.getD k (0, 0, 0, 0)).2.2.2))), .blk g2 #[.int .i64 ((bfill b (l.getD k (0, 0, 0, 0)).2.2.2).1), .int .i64 ((bfill b (l.getD k (0, 0, 0, 0)).2.2.2).2)] 86, .blk g1 #[.int .i64 rL, .int .i64 rE, .int .i64 pL, .int .i64 pE, .int .i64 ((room : Nat) : Int), .int .i64 hv] 80] (by decide) (by kernel_rfl)
              exact ⟨(k + 1, svn, (nRs ranks rs ((l.getD k (0, 0, 0, 0)).2.1) ((l.getD k (0, 0, 0, 0)).2.2.2)), (nXs ranks room xs ((l.getD k (0, 0, 0, 0)).2.1) ((l.getD k (0, 0, 0, 0)).2.2.1) ((l.getD k (0, 0, 0, 0)).2.2.2)), (bfill b (l.getD k (0, 0, 0, 0)).2.2.2)), (by dsimp only; omega), (nthV [(uf1 0), .pointer (some ⟨g3, 0, none⟩), .bool true, .pointer (some ⟨g4, 0, none⟩), .int .i64 12, .bool true, .pointer (some ⟨ga, oa + k * 4, none⟩), .agg #[.int .i64 ((l.getD k (0, 0, 0, 0)).1), .int .i64 ((l.getD k (0, 0, 0, 0)).2.1), .int .i64 ((l.getD k (0, 0, 0, 0)).2.2.1), .int .i64 ((l.getD k (0, 0, 0, 0)).2.2.2)], .tuple #[.agg #[.bool false, .bool false], .int .i64 12], .pointer (some ⟨p, 0, none⟩), .tuple #[.agg #[.bool false, .bool false], .int .i64 12], .agg #[.bool false, .bool false], .int .i64 12, .pointer (some ⟨g3, 0, none⟩), .int .i64 ((l.getD k (0, 0, 0, 0)).1), .bool true, .bool true, .tuple #[.agg #[.bool true, .bool (nC2 pL ranks xs ((l.getD k (0, 0, 0, 0)).2.1) ((l.getD k (0, 0, 0, 0)).2.2.1) ((l.getD k (0, 0, 0, 0)).2.2.2))], .int .i64 (nE ranks ((l.getD k (0, 0, 0, 0)).2.1) ((l.getD k (0, 0, 0, 0)).2.2.2))], .pointer (some ⟨p, 0, none⟩), .pointer (some ⟨g3, 1, none⟩), .int .i64 ((l.getD k (0, 0, 0, 0)).2.1), .pointer (some ⟨g3, 2, none⟩), .int .i64 ((l.getD k (0, 0, 0, 0)).2.2.1), .pointer (some ⟨g3, 3, none⟩), .int .i64 ((l.getD k (0, 0, 0, 0)).2.2.2), .tuple #[.agg #[.bool true, .bool (nC2 pL ranks xs ((l.getD k (0, 0, 0, 0)).2.1) ((l.getD k (0, 0, 0, 0)).2.2.1) ((l.getD k (0, 0, 0, 0)).2.2.2))], .int .i64 (nE ranks ((l.getD k (0, 0, 0, 0)).2.1) ((l.getD k (0, 0, 0, 0)).2.2.2))], .agg #[.bool true, .bool (nC2 pL ranks xs ((l.getD k (0, 0, 0, 0)).2.1) ((l.getD k (0, 0, 0, 0)).2.2.1) ((l.getD k (0, 0, 0, 0)).2.2.2))], .int .i64 (nE ranks ((l.getD k (0, 0, 0, 0)).2.1) ((l.getD k (0, 0, 0, 0)).2.2.2)), .pointer (some ⟨g3, 1, none⟩), .int .i64 ((l.getD k (0, 0, 0, 0)).2.1), .int .i64 ((i : Nat) : Int), .bool true, .bool true, .pointer (some ⟨g3, 3, none⟩), .int .i64 ((l.getD k (0, 0, 0, 0)).2.2.2), .bool true, .bool true, .tuple #[.agg #[.int .i64 ((bfill b (l.getD k (0, 0, 0, 0)).2.2.2).1), .int .i64 ((bfill b (l.getD k (0, 0, 0, 0)).2.2.2).2)], .bool true], .agg #[.int .i64 b.1, .int .i64 b.2], .pointer (some ⟨g1, 0, none⟩), .agg #[.int .i64 rL, .int .i64 rE], .pointer (some ⟨g3, 3, none⟩), .int .i64 ((l.getD k (0, 0, 0, 0)).2.2.2), .tuple #[.agg #[.int .i64 ((bfill b (l.getD k (0, 0, 0, 0)).2.2.2).1), .int .i64 ((bfill b (l.getD k (0, 0, 0, 0)).2.2.2).2)], .bool true], .agg #[.int .i64 ((bfill b (l.getD k (0, 0, 0, 0)).2.2.2).1), .int .i64 ((bfill b (l.getD k (0, 0, 0, 0)).2.2.2).2)], .bool true, (uf1 46), (uf1 47), (uf1 48), (uf1 49), (uf1 50), (uf1 51), (uf1 52), (uf1 53), .pointer (some ⟨p, 0, none⟩), .int .i64 ((i : Nat) : Int), .agg #[.int .i64 ((bfill b (l.getD k (0, 0, 0, 0)).2.2.2).1), .int .i64 ((bfill b (l.getD k (0, 0, 0, 0)).2.2.2).2)], .agg #[.int .i64 ((bfill b (l.getD k (0, 0, 0, 0)).2.2.2).1), .int .i64 ((bfill b (l.getD k (0, 0, 0, 0)).2.2.2).2)], .bool false, .bool false, .bool true, .bool true, .pointer (some ⟨g4, 0, none⟩), .bool true, .bool false, .bool false, .bool false, .bool false, .pointer (some ⟨g3, 1, none⟩), .int .i64 ((l.getD k (0, 0, 0, 0)).2.1), .int .i64 ((i : Nat) : Int), .bool true, .bool true, .pointer (some ⟨g4, 0, none⟩), .bool true, .bool true, .bool false, .bool false, .bool false, .int .i64 (((k : Nat) : Int) + 1)]), (by kernel_rfl), H, (by omega), hk1, (by rw [← hb1]; unfold rgetI; rw [if_pos (by omega)]; rfl)⟩

set_option maxRecDepth 100000 in
set_option maxHeartbeats 4000000 in
theorem sums_out_ (rL rE pL pE hv : Int) (room ranks : Nat) (ad : Option Addr) (nA cA : Nat) (rank : Int) (hb : (rank < 0 ∨ ((ranks : Nat) : Int) ≤ rank) ∨ 100 < nA) (hR : Rul rL rE pL pE ((room : Nat) : Int) hv) (h1 : 1 ≤ ranks) (h2 : ranks ≤ 8) (w0 : World) :
    Calls Try.prog 6 #[.agg #[.int .i64 rL, .int .i64 rE, .int .i64 pL, .int .i64 pE, .int .i64 ((room : Nat) : Int), .int .i64 hv], .int .i64 ((ranks : Nat) : Int), .slice ad nA cA, .int .i64 rank] w0 fun e w' => e = .returned (.bool true) ∧ Below w0.heap.size w0 w' := by
  refine x_enter Try.func6 rfl #[.agg #[.int .i64 rL, .int .i64 rE, .int .i64 pL, .int .i64 pE, .int .i64 ((room : Nat) : Int), .int .i64 hv], .int .i64 ((ranks : Nat) : Int), .slice ad nA cA, .int .i64 rank, undef, undef, undef, undef, undef, undef, undef, undef, undef, undef, undef, undef, undef, undef, undef, undef, undef, undef, undef, undef, undef, undef, undef, undef, undef, undef, undef, undef, undef, undef, undef, undef, undef, undef, undef, undef, undef, undef, undef, undef, undef, undef, undef, undef, undef, undef, undef, undef, undef, undef, undef, undef, undef, undef, undef, undef, undef, undef, undef, undef, undef, undef, undef, undef, undef, undef, undef, undef, undef, undef, undef, undef, undef, undef, undef, undef, undef, undef, undef, undef, undef, undef, undef, undef, undef, undef, undef, undef, undef, undef, undef, undef, undef, undef, undef, undef, undef, undef, undef, undef, undef, undef, undef, undef, undef, undef, undef, undef, undef, undef, undef, undef, undef, undef, undef, undef, undef, undef, undef] (by kernel_rfl) ?_
  have H := Hs.nil w0
  refine x_seq ?_
  refine x_region ?_
  refine x_box H #[.int .i64 rL, .int .i64 rE, .int .i64 pL, .int .i64 pE, .int .i64 ((room : Nat) : Int), .int .i64 hv] 80 (by kernel_rfl) rfl (by kernel_rfl) ?_
  clear H
  intro v1 g1 H
  refine x_val (.bool false) (by kernel_rfl) rfl (by kernel_rfl) ?_
  refine x_nil ?_
  refine x_then ?_
  refine x_seq ?_
  refine x_seq ?_
  refine x_region ?_
  refine x_callB (.bool true) H (by kernel_rfl) rfl (by kernel_rfl) (anchor18 _) ?_
  clear H
  intro v2 H
  refine x_val (.bool false) (by kernel_rfl) rfl (by kernel_rfl) ?_
  refine x_nil ?_
  refine x_then ?_
  refine x_f (by kernel_rfl) ?_
  refine x_skipc ?_
  refine x_then ?_
  refine x_seq ?_
  refine x_region ?_
  refine x_loadn (t := 80) H 0 g1 0 #[.int .i64 rL, .int .i64 rE, .int .i64 pL, .int .i64 pE, .int .i64 ((room : Nat) : Int), .int .i64 hv] 80 [.int .i64 rL, .int .i64 rE, .int .i64 pL, .int .i64 pE, .int .i64 ((room : Nat) : Int), .int .i64 hv] (by kernel_rfl) (by kernel_rfl) (by kernel_rfl) rfl (by kernel_rfl) (by kernel_rfl) ?_
  refine x_val (.int .i64 ((ranks : Nat) : Int)) (by kernel_rfl) rfl (by kernel_rfl) ?_
  refine x_call (by kernel_rfl) rfl (by kernel_rfl) (TkNew_yes rL rE pL pE hv room ranks hR h1 h2 _) ?_
  rintro _ v3 ⟨p, gr, t, rfl, hN'⟩
  refine ⟨_, rfl, ?_⟩
  replace H := H.more hN'
  clear hN'
  replace H : Hs [] w0 _ [.blk p #[.int .i64 rL, .int .i64 rE, .int .i64 pL, .int .i64 pE, .int .i64 ((room : Nat) : Int), .int .i64 hv, .slice (some ⟨gr, 0, none⟩) ranks ranks, .pointer (some ⟨t, 0, none⟩)] 187, .row (.slice (some ⟨gr, 0, none⟩) ranks ranks) 86 2 ranks (List.flatMap bukL (List.replicate ranks (0, 0))), .blk t #[.slice none 0 0, .int .i64 ((room : Nat) : Int), .func (.func 103) #[] #[]] 228, .row (.slice none 0 0) 230 3 (List.length ([] : List PairB)) (List.flatMap pairLB ([] : List PairB)), .blk g1 #[.int .i64 rL, .int .i64 rE, .int .i64 pL, .int .i64 pE, .int .i64 ((room : Nat) : Int), .int .i64 hv] 80] := H
  have hP : TP ranks room rL rE pL pE := ⟨hR.1, hR.2.1, ⟨by have := hR.2.2.1; omega, h2⟩, ⟨by have := hR.2.2.1; omega, h1⟩⟩
  refine x_val (.tuple #[.pointer (some ⟨p, 0, none⟩), .int .i64 0]) (by kernel_rfl) rfl (by kernel_rfl) ?_
  refine x_val (.pointer (some ⟨p, 0, none⟩)) (by kernel_rfl) rfl (by kernel_rfl) ?_
  refine x_val (.int .i64 0) (by kernel_rfl) rfl (by kernel_rfl) ?_
  refine x_val (.pointer (some ⟨p, 0, none⟩)) (by kernel_rfl) rfl (by kernel_rfl) ?_
  refine x_val (.int .i64 0) (by kernel_rfl) rfl (by kernel_rfl) ?_
  refine x_nil ?_
  refine x_then ?_
  refine x_seq ?_
  refine x_seq ?_
  refine x_region ?_
  refine x_val (.int .i64 0) (by kernel_rfl) rfl (by kernel_rfl) ?_
  refine x_val (.bool false) (by kernel_rfl) rfl (by kernel_rfl) ?_
  refine x_val (.bool false) (by kernel_rfl) rfl (by kernel_rfl) ?_
  refine x_val (.pointer (some ⟨p, 0, none⟩)) (by kernel_rfl) rfl (by kernel_rfl) ?_
  refine x_val (.bool false) (by kernel_rfl) rfl (by kernel_rfl) ?_
  refine x_val (.bool false) (by kernel_rfl) rfl (by kernel_rfl) ?_
  refine x_val (.bool false) (by kernel_rfl) rfl (by kernel_rfl) ?_
  refine x_val (.int .i64 rank) (by kernel_rfl) rfl (by kernel_rfl) ?_
  refine x_val (.bool (decide (rank < 0))) (by kernel_rfl) rfl (by kernel_rfl) ?_
  refine x_val (.bool (decide (rank < 0))) (by kernel_rfl) rfl (by kernel_rfl) ?_
  refine x_val (.bool (decide (rank < 0))) (by kernel_rfl) rfl (by kernel_rfl) ?_
  cases h1 : decide (rank < 0)
  · skip
    have h1p := of_decide_eq_false h1
    refine x_val (.int .i64 rank) (by kernel_rfl) rfl (by kernel_rfl) ?_
    refine x_val (.int .i64 ((ranks : Nat) : Int)) (by kernel_rfl) rfl (by kernel_rfl) ?_
    refine x_val (.bool (decide (((ranks : Nat) : Int) ≤ rank))) (by kernel_rfl) rfl (by kernel_rfl) ?_
    refine x_val (.bool (decide (((ranks : Nat) : Int) ≤ rank))) (by kernel_rfl) rfl (by kernel_rfl) ?_
    refine x_val (.bool (decide (((ranks : Nat) : Int) ≤ rank))) (by kernel_rfl) rfl (by kernel_rfl) ?_
    cases h2 : decide (((ranks : Nat) : Int) ≤ rank)
    · skip
      have h2p := of_decide_eq_false h2
      refine x_val (.slice ad nA cA) (by kernel_rfl) rfl (by kernel_rfl) ?_
      refine x_val (.int .i64 ((nA : Nat) : Int)) (by kernel_rfl) rfl (by kernel_rfl) ?_
      refine x_val (.bool (decide (100 < ((nA : Nat) : Int)))) (by kernel_rfl) rfl (by kernel_rfl) ?_
      refine x_val (.bool (decide (100 < ((nA : Nat) : Int)))) (by kernel_rfl) rfl (by kernel_rfl) ?_
      refine x_nil ?_
      refine x_frame' { tmps := #[.agg #[.int .i64 rL, .int .i64 rE, .int .i64 pL, .int .i64 pE, .int .i64 ((room : Nat) : Int), .int .i64 hv], .int .i64 ((ranks : Nat) : Int), .slice ad nA cA, .int .i64 rank, .pointer (some ⟨g1, 0, none⟩), undef, undef, undef, .bool false, .pointer (some ⟨p, 0, none⟩), .int .i64 0, undef, undef, undef, undef, undef, undef, .bool true, .bool false, .tuple #[.pointer (some ⟨p, 0, none⟩), .int .i64 0], .agg #[.int .i64 rL, .int .i64 rE, .int .i64 pL, .int .i64 pE, .int .i64 ((room : Nat) : Int), .int .i64 hv], .int .i64 ((ranks : Nat) : Int), .tuple #[.pointer (some ⟨p, 0, none⟩), .int .i64 0], .pointer (some ⟨p, 0, none⟩), .int .i64 0, .int .i64 0, .bool false, .bool false, .pointer (some ⟨p, 0, none⟩), .bool false, .bool false, .bool false, .int .i64 rank, .bool false, .bool false, .bool false, .int .i64 rank, .int .i64 ((ranks : Nat) : Int), .bool false, .bool false, .bool false, .slice ad nA cA, .int .i64 ((nA : Nat) : Int), .bool (decide (100 < ((nA : Nat) : Int))), .bool (decide (100 < ((nA : Nat) : Int))), undef, undef, undef, undef, undef, undef, undef, undef, undef, undef, undef, undef, undef, undef, undef, undef, undef, undef, undef, undef, undef, undef, undef, undef, undef, undef, undef, undef, undef, undef, undef, undef, undef, undef, undef, undef, undef, undef, undef, undef, undef, undef, undef, undef, undef, undef, undef, undef, undef, undef, undef, undef, undef, undef, undef, undef, undef, undef, undef, undef, undef, undef, undef, undef, undef, undef, undef, undef, undef, undef, undef, undef, undef, undef, undef, undef, undef, undef], defers := [] } (by kernel_rfl) ?_
      refine x_then ?_
      cases h3 : decide (100 < ((nA : Nat) : Int))
      · skip
        have h3p := of_decide_eq_false h3
        exfalso; omega
      · skip
        have h3p := of_decide_eq_true h3
        refine x_t (by kernel_rfl) ?_
        refine x_seq ?_
        refine x_region ?_
        refine x_val (.bool true) (by kernel_rfl) rfl (by kernel_rfl) ?_
        refine x_nil ?_
        refine x_then ?_
        refine x_retc ?_
        refine x_then_ret ?_
        refine x_ret (.bool true) (by kernel_rfl) (by kernel_rfl) ?_
        exact ⟨rfl, H.below⟩
    · skip
      have h2p := of_decide_eq_true h2
      refine x_skip (by kernel_rfl) ?_
      refine x_skip (by kernel_rfl) ?_
      refine x_skip (by kernel_rfl) ?_
      refine x_val (.bool true) (by kernel_rfl) rfl (by kernel_rfl) ?_
      refine x_nil ?_
      refine x_frame' { tmps := #[.agg #[.int .i64 rL, .int .i64 rE, .int .i64 pL, .int .i64 pE, .int .i64 ((room : Nat) : Int), .int .i64 hv], .int .i64 ((ranks : Nat) : Int), .slice ad nA cA, .int .i64 rank, .pointer (some ⟨g1, 0, none⟩), undef, undef, undef, .bool false, .pointer (some ⟨p, 0, none⟩), .int .i64 0, undef, undef, undef, undef, undef, undef, .bool true, .bool false, .tuple #[.pointer (some ⟨p, 0, none⟩), .int .i64 0], .agg #[.int .i64 rL, .int .i64 rE, .int .i64 pL, .int .i64 pE, .int .i64 ((room : Nat) : Int), .int .i64 hv], .int .i64 ((ranks : Nat) : Int), .tuple #[.pointer (some ⟨p, 0, none⟩), .int .i64 0], .pointer (some ⟨p, 0, none⟩), .int .i64 0, .int .i64 0, .bool false, .bool false, .pointer (some ⟨p, 0, none⟩), .bool false, .bool false, .bool false, .int .i64 rank, .bool false, .bool false, .bool false, .int .i64 rank, .int .i64 ((ranks : Nat) : Int), .bool true, .bool true, .bool true, undef, undef, undef, .bool true, undef, undef, undef, undef, undef, undef, undef, undef, undef, undef, undef, undef, undef, undef, undef, undef, undef, undef, undef, undef, undef, undef, undef, undef, undef, undef, undef, undef, undef, undef, undef, undef, undef, undef, undef, undef, undef, undef, undef, undef, undef, undef, undef, undef, undef, undef, undef, undef, undef, undef, undef, undef, undef, undef, undef, undef, undef, undef, undef, undef, undef, undef, undef, undef, undef, undef, undef, undef, undef, undef, undef, undef, undef, undef, undef, undef, undef, undef], defers := [] } (by kernel_rfl) ?_
      refine x_then ?_
      refine x_t (by kernel_rfl) ?_
      refine x_seq ?_
      refine x_region ?_
      refine x_val (.bool true) (by kernel_rfl) rfl (by kernel_rfl) ?_
      refine x_nil ?_
      refine x_then ?_
      refine x_retc ?_
      refine x_then_ret ?_
      refine x_ret (.bool true) (by kernel_rfl) (by kernel_rfl) ?_
      exact ⟨rfl, H.below⟩
  · skip
    have h1p := of_decide_eq_true h1
    refine x_skip (by kernel_rfl) ?_
    refine x_skip (by kernel_rfl) ?_
    refine x_skip (by kernel_rfl) ?_
    refine x_val (.bool true) (by kernel_rfl) rfl (by kernel_rfl) ?_
    refine x_val (.bool true) (by kernel_rfl) rfl (by kernel_rfl) ?_
    refine x_skip (by kernel_rfl) ?_
    refine x_skip (by kernel_rfl) ?_
    refine x_skip (by kernel_rfl) ?_
    refine x_val (.bool true) (by kernel_rfl) rfl (by kernel_rfl) ?_
    refine x_nil ?_
    refine x_frame' { tmps := #[.agg #[.int .i64 rL, .int .i64 rE, .int .i64 pL, .int .i64 pE, .int .i64 ((room : Nat) : Int), .int .i64 hv], .int .i64 ((ranks : Nat) : Int), .slice ad nA cA, .int .i64 rank, .pointer (some ⟨g1, 0, none⟩), undef, undef, undef, .bool false, .pointer (some ⟨p, 0, none⟩), .int .i64 0, undef, undef, undef, undef, undef, undef, .bool true, .bool false, .tuple #[.pointer (some ⟨p, 0, none⟩), .int .i64 0], .agg #[.int .i64 rL, .int .i64 rE, .int .i64 pL, .int .i64 pE, .int .i64 ((room : Nat) : Int), .int .i64 hv], .int .i64 ((ranks : Nat) : Int), .tuple #[.pointer (some ⟨p, 0, none⟩), .int .i64 0], .pointer (some ⟨p, 0, none⟩), .int .i64 0, .int .i64 0, .bool false, .bool false, .pointer (some ⟨p, 0, none⟩), .bool false, .bool false, .bool false, .int .i64 rank, .bool true, .bool true, .bool true, undef, undef, undef, .bool true, .bool true, undef, undef, undef, .bool true, undef, undef, undef, undef, undef, undef, undef, undef, undef, undef, undef, undef, undef, undef, undef, undef, undef, undef, undef, undef, undef, undef, undef, undef, undef, undef, undef, undef, undef, undef, undef, undef, undef, undef, undef, undef, undef, undef, undef, undef, undef, undef, undef, undef, undef, undef, undef, undef, undef, undef, undef, undef, undef, undef, undef, undef, undef, undef, undef, undef, undef, undef, undef, undef, undef, undef, undef, undef, undef, undef, undef, undef, undef, undef, undef, undef, undef, undef], defers := [] } (by kernel_rfl) ?_
    refine x_then ?_
    refine x_t (by kernel_rfl) ?_
    refine x_seq ?_
    refine x_region ?_
    refine x_val (.bool true) (by kernel_rfl) rfl (by kernel_rfl) ?_
    refine x_nil ?_
    refine x_then ?_
    refine x_retc ?_
    refine x_then_ret ?_
    refine x_ret (.bool true) (by kernel_rfl) (by kernel_rfl) ?_
    exact ⟨rfl, H.below⟩

end Go.Proofs.Ytgpalgbdacoagaa
