/- Contracts of a table of buckets: New, Put, Get, Drop, All. -/
import Derived.Test.YtgpalgbdacoagaaTrkA
namespace Go.Proofs.Ytgpalgbdacoagaa
open Go Go.RowKit
set_option linter.unusedVariables false
set_option linter.unusedSimpArgs false

/-- What a table with room for some has, the key that went, and whether one did. -/
def putB (room : Nat) (xs : List PairB) (k : Int) (v : Buk) : List PairB × Int × Bool :=
  if fkB xs k < xs.length then (xs.set (fkB xs k) ((xs.getD (fkB xs k) (0, 0, 0)).1, v), 0, false)
  else if xs.length < room then (xs ++ [(k, v)], 0, false)
  else (xs.eraseIdx (ltB xs xs.length).1 ++ [(k, v)], (xs.getD (ltB xs xs.length).1 (0, 0, 0)).1, true)
theorem take_nextB (xs : List PairB) (k : Nat) (h : k < xs.length) : xs.take (k + 1) = xs.take k ++ [xs.getD k (0, 0, 0)] := by
  rw [List.take_succ_eq_append_getElem h]; simp [List.getD, h]
theorem prefix_getB {pre xs : List PairB} {x : PairB} (h : pre ++ [x] <+: xs) : xs.getD pre.length (0, 0, 0) = x ∧ pre.length < xs.length := by
  obtain ⟨r, rfl⟩ := h
  constructor
  · simp [List.getD]
  · simp

set_option maxRecDepth 100000 in
set_option maxHeartbeats 4000000 in
theorem Put_setB {t : Nat} {xs : List PairB} {room : Nat} (k : Int) (v : Buk) {g cap : Nat} (hn : xs.length ≤ 4096) (hq : (fkB xs k) < xs.length) (w0 : World) (H0 : Hs (fps [.blk t #[.slice (some ⟨g, 0, none⟩) (List.length xs) cap, .int .i64 ((room : Nat) : Int), .func (.func 103) #[] #[]] 228, .row (.slice (some ⟨g, 0, none⟩) (List.length xs) cap) 230 3 (List.length xs) (List.flatMap pairLB xs)]) w0 w0 [.blk t #[.slice (some ⟨g, 0, none⟩) (List.length xs) cap, .int .i64 ((room : Nat) : Int), .func (.func 103) #[] #[]] 228, .row (.slice (some ⟨g, 0, none⟩) (List.length xs) cap) 230 3 (List.length xs) (List.flatMap pairLB xs)]) :
    Calls Try.prog 106 #[.pointer (some ⟨t, 0, none⟩), .int .i64 k, .agg #[.int .i64 v.1, .int .i64 v.2]] w0 fun e w' => ∃ sv', e = .returned (.tuple #[.int .i64 0, .bool false]) ∧ Hs (fps [.blk t #[.slice (some ⟨g, 0, none⟩) (List.length xs) cap, .int .i64 ((room : Nat) : Int), .func (.func 103) #[] #[]] 228, .row (.slice (some ⟨g, 0, none⟩) (List.length xs) cap) 230 3 (List.length xs) (List.flatMap pairLB xs)]) w0 w' [.blk t #[sv', .int .i64 ((room : Nat) : Int), .func (.func 103) #[] #[]] 228, .row (sv') 230 3 (List.length (xs.set (fkB xs k) ((xs.getD (fkB xs k) (0, 0, 0)).1, v))) (List.flatMap pairLB (xs.set (fkB xs k) ((xs.getD (fkB xs k) (0, 0, 0)).1, v)))] := by
  refine x_enter Try.func106 rfl #[.pointer (some ⟨t, 0, none⟩), .int .i64 k, .agg #[.int .i64 v.1, .int .i64 v.2], undef, undef, undef, undef, undef, undef, undef, undef, undef, undef, undef, undef, undef, undef, undef, undef, undef, undef, undef, undef, undef, undef, undef, undef, undef, undef, undef, undef, undef, undef, undef, undef, undef, undef, undef, undef, undef, undef, undef, undef, undef, undef, undef, undef, undef, undef, undef, undef] (by kernel_rfl) ?_
  have H := H0
  refine x_seq ?_
  refine x_region ?_
  refine x_box H #[.int .i64 v.1, .int .i64 v.2] 86 (by kernel_rfl) rfl (by kernel_rfl) ?_
  clear H
  intro v1 g1 H
  refine x_val (.int .i64 0) (by kernel_rfl) rfl (by kernel_rfl) ?_
  refine x_val (.bool false) (by kernel_rfl) rfl (by kernel_rfl) ?_
  refine x_nil ?_
  refine x_then ?_
  refine x_seq ?_
  refine x_seq ?_
  refine x_region ?_
  refine x_val (.pointer (some ⟨t, 0, none⟩)) (by kernel_rfl) rfl (by kernel_rfl) ?_
  refine x_val (.int .i64 k) (by kernel_rfl) rfl (by kernel_rfl) ?_
  refine x_callB (.int .i64 (((fkB xs k) : Nat) : Int)) H (by kernel_rfl) rfl (by kernel_rfl) (by have h := find_B (room := room) k hn _ (H.roOf [1, 2] [.blk t #[.slice (some ⟨g, 0, none⟩) (List.length xs) cap, .int .i64 ((room : Nat) : Int), .func (.func 103) #[] #[]] 228, .row (.slice (some ⟨g, 0, none⟩) (List.length xs) cap) 230 3 (List.length xs) (List.flatMap pairLB xs)] (by kernel_rfl)); rw [show findB xs k = (((fkB xs k) : Nat) : Int) by unfold findB; rw [if_pos hq]] at h; exact h) ?_
  clear H
  intro v2 H
  refine x_val (.int .i64 (((fkB xs k) : Nat) : Int)) (by kernel_rfl) rfl (by kernel_rfl) ?_
  refine x_nil ?_
  refine x_then ?_
  refine x_seq ?_
  refine x_region ?_
  refine x_val (.int .i64 (((fkB xs k) : Nat) : Int)) (by kernel_rfl) rfl (by kernel_rfl) ?_
  refine x_val (.bool (decide (0 ≤ (((fkB xs k) : Nat) : Int)))) (by kernel_rfl) rfl (by kernel_rfl) ?_
  refine x_nil ?_
  refine x_then ?_
  cases h1 : decide (0 ≤ (((fkB xs k) : Nat) : Int))
  · skip
    have h1p := of_decide_eq_false h1
    exact absurd h1p (by omega)
  · skip
    have h1p := of_decide_eq_true h1
    refine x_t (by kernel_rfl) ?_
    refine x_seq ?_
    refine x_region_head 8 (fun w' => Hs (fps [.blk t #[.slice (some ⟨g, 0, none⟩) (List.length xs) cap, .int .i64 ((room : Nat) : Int), .func (.func 103) #[] #[]] 228, .row (.slice (some ⟨g, 0, none⟩) (List.length xs) cap) 230 3 (List.length xs) (List.flatMap pairLB xs)]) w0 w' [.blk g1 #[.int .i64 v.1, .int .i64 v.2] 86, .blk t #[.slice (some ⟨g, 0, none⟩) (List.length xs) cap, .int .i64 ((room : Nat) : Int), .func (.func 103) #[] #[]] 228, .row (.slice (some ⟨g, 0, none⟩) (List.length xs) cap) 230 3 (List.length xs) (List.flatMap pairLB xs)]) (by kernel_rfl) (by kernel_rfl) (by kernel_rfl) H.drew ?_
    simp only [List.take_succ_cons, List.take_zero, List.drop_succ_cons, List.drop_zero]
    refine q_val (.pointer (some ⟨t, 0, none⟩)) (by kernel_rfl) (fun _ => by kernel_rfl) ?_
    refine q_val (.pointer (some ⟨t, 0, none⟩)) (by kernel_rfl) (fun _ => by kernel_rfl) ?_
    refine q_val (.pointer (some ⟨t, 0, none⟩)) (by kernel_rfl) (fun _ => by kernel_rfl) ?_
    refine q_load1 1 t 0 #[.slice (some ⟨g, 0, none⟩) (List.length xs) cap, .int .i64 ((room : Nat) : Int), .func (.func 103) #[] #[]] 228 (.slice (some ⟨g, 0, none⟩) (List.length xs) cap) (by kernel_rfl) (by kernel_rfl) (by kernel_rfl) (fun _ => by kernel_rfl) ?_
    refine q_val (.int .i64 (((fkB xs k) : Nat) : Int)) (by kernel_rfl) (fun _ => by kernel_rfl) ?_
    refine q_loadn (t := 86) 0 g1 0 #[.int .i64 v.1, .int .i64 v.2] 86 [.int .i64 v.1, .int .i64 v.2] (by kernel_rfl) (by kernel_rfl) (by kernel_rfl) (by kernel_rfl) (by kernel_rfl) ?_
    refine q_ix (t := 226) g 0 (fkB xs k) (List.length xs) cap 230 3 ((fkB xs k) * 3) (by omega) (by omega) (by kernel_rfl) (by kernel_rfl) (by kernel_rfl) (fun _ => by kernel_rfl) ?_
    refine q_val (.pointer (some ⟨g, (fkB xs k) * 3 + 1, none⟩)) (by kernel_rfl) (fun _ => by kernel_rfl) ?_
    refine q_nil ?_
    clear H
    intro v3 H
    refine x_storeRow (t := 86) (v := .agg #[.int .i64 v.1, .int .i64 v.2]) H 2 g ((fkB xs k) * 3 + 1) (List.length xs) cap 230 3 (List.flatMap pairLB xs) [.int .i64 v.1, .int .i64 v.2] (List.flatMap pairLB (xs.set (fkB xs k) ((xs.getD (fkB xs k) (0, 0, 0)).1, v))) [.blk g1 #[.int .i64 v.1, .int .i64 v.2] 86, .blk t #[.slice (some ⟨g, 0, none⟩) (List.length xs) cap, .int .i64 ((room : Nat) : Int), .func (.func 103) #[] #[]] 228, .row (.slice (some ⟨g, 0, none⟩) (List.length xs) cap) 230 3 (List.length xs) (List.flatMap pairLB (xs.set (fkB xs k) ((xs.getD (fkB xs k) (0, 0, 0)).1, v)))] rfl (by simp only [List.length_cons, List.length_nil]; omega) (by kernel_rfl) (flatSetN pairLenB (d := (0, 0, 0)) xs (by omega) 1 _ _ rfl (Nat.le_of_ble_eq_true rfl)) rfl (by kernel_rfl) rfl (by kernel_rfl) (by kernel_rfl) (by kernel_rfl) ?_
    clear H
    intro v4 H
    refine x_nil ?_
    refine x_then ?_
    refine x_seq ?_
    refine x_region ?_
    refine x_val (.int .i64 0) (by kernel_rfl) rfl (by kernel_rfl) ?_
    refine x_val (.int .i64 0) (by kernel_rfl) rfl (by kernel_rfl) ?_
    refine x_val (.bool false) (by kernel_rfl) rfl (by kernel_rfl) ?_
    refine x_nil ?_
    refine x_then ?_
    refine x_retc ?_
    refine x_then_ret ?_
    refine x_ret (.tuple #[.int .i64 0, .bool false]) (by kernel_rfl) (by kernel_rfl) ?_
    have hll : (xs.set (fkB xs k) ((xs.getD (fkB xs k) (0, 0, 0)).1, v)).length = xs.length := List.length_set
    refine ⟨.slice (some ⟨g, 0, none⟩) (List.length xs) cap, rfl, ?_⟩
    rw [hll]
    exact H.pick [1, 2] _ (by decide) (by kernel_rfl)

set_option maxRecDepth 100000 in
set_option maxHeartbeats 4000000 in
theorem Put_roomB_n {t : Nat} {xs : List PairB} {room : Nat} (k : Int) (v : Buk) (hn : xs.length ≤ 4096) (hq : ¬ (fkB xs k) < xs.length) (hr : xs.length < room) (w0 : World) (H0 : Hs (fps [.blk t #[.slice none 0 0, .int .i64 ((room : Nat) : Int), .func (.func 103) #[] #[]] 228, .row (.slice none 0 0) 230 3 (List.length xs) (List.flatMap pairLB xs)]) w0 w0 [.blk t #[.slice none 0 0, .int .i64 ((room : Nat) : Int), .func (.func 103) #[] #[]] 228, .row (.slice none 0 0) 230 3 (List.length xs) (List.flatMap pairLB xs)]) :
    Calls Try.prog 106 #[.pointer (some ⟨t, 0, none⟩), .int .i64 k, .agg #[.int .i64 v.1, .int .i64 v.2]] w0 fun e w' => ∃ sv', e = .returned (.tuple #[.int .i64 0, .bool false]) ∧ Hs (fps [.blk t #[.slice none 0 0, .int .i64 ((room : Nat) : Int), .func (.func 103) #[] #[]] 228, .row (.slice none 0 0) 230 3 (List.length xs) (List.flatMap pairLB xs)]) w0 w' [.blk t #[sv', .int .i64 ((room : Nat) : Int), .func (.func 103) #[] #[]] 228, .row (sv') 230 3 (List.length (xs ++ [(k, v)])) (List.flatMap pairLB (xs ++ [(k, v)]))] := by
  refine x_enter Try.func106 rfl #[.pointer (some ⟨t, 0, none⟩), .int .i64 k, .agg #[.int .i64 v.1, .int .i64 v.2], undef, undef, undef, undef, undef, undef, undef, undef, undef, undef, undef, undef, undef, undef, undef, undef, undef, undef, undef, undef, undef, undef, undef, undef, undef, undef, undef, undef, undef, undef, undef, undef, undef, undef, undef, undef, undef, undef, undef, undef, undef, undef, undef, undef, undef, undef, undef, undef] (by kernel_rfl) ?_
  have H := H0
  have q1 : decide (0 = ((room : Nat) : Int)) = false := by simp; omega
  refine x_seq ?_
  refine x_region ?_
  refine x_box H #[.int .i64 v.1, .int .i64 v.2] 86 (by kernel_rfl) rfl (by kernel_rfl) ?_
  clear H
  intro v1 g1 H
  refine x_val (.int .i64 0) (by kernel_rfl) rfl (by kernel_rfl) ?_
  refine x_val (.bool false) (by kernel_rfl) rfl (by kernel_rfl) ?_
  refine x_nil ?_
  refine x_then ?_
  refine x_seq ?_
  refine x_seq ?_
  refine x_region ?_
  refine x_val (.pointer (some ⟨t, 0, none⟩)) (by kernel_rfl) rfl (by kernel_rfl) ?_
  refine x_val (.int .i64 k) (by kernel_rfl) rfl (by kernel_rfl) ?_
  refine x_callB (.int .i64 (-1)) H (by kernel_rfl) rfl (by kernel_rfl) (by have h := find_B (room := room) k hn _ (H.roOf [1, 2] [.blk t #[.slice none 0 0, .int .i64 ((room : Nat) : Int), .func (.func 103) #[] #[]] 228, .row (.slice none 0 0) 230 3 (List.length xs) (List.flatMap pairLB xs)] (by kernel_rfl)); rw [show findB xs k = -1 by unfold findB; rw [if_neg hq]] at h; exact h) ?_
  clear H
  intro v2 H
  refine x_val (.int .i64 (-1)) (by kernel_rfl) rfl (by kernel_rfl) ?_
  refine x_nil ?_
  refine x_then ?_
  refine x_seq ?_
  refine x_region ?_
  refine x_val (.int .i64 (-1)) (by kernel_rfl) rfl (by kernel_rfl) ?_
  refine x_val (.bool false) (by kernel_rfl) rfl (by kernel_rfl) ?_
  refine x_nil ?_
  refine x_then ?_
  refine x_f (by kernel_rfl) ?_
  refine x_skipc ?_
  refine x_then ?_
  refine x_seq ?_
  refine x_seq ?_
  refine x_region_whole (fun w' => Hs (fps [.blk t #[.slice none 0 0, .int .i64 ((room : Nat) : Int), .func (.func 103) #[] #[]] 228, .row (.slice none 0 0) 230 3 (List.length xs) (List.flatMap pairLB xs)]) w0 w' [.blk g1 #[.int .i64 v.1, .int .i64 v.2] 86, .blk t #[.slice none 0 0, .int .i64 ((room : Nat) : Int), .func (.func 103) #[] #[]] 228, .row (.slice none 0 0) 230 3 (List.length xs) (List.flatMap pairLB xs)]) (by kernel_rfl) (by kernel_rfl) (by kernel_rfl) H.drew ?_
  refine q_val (.pointer (some ⟨t, 0, none⟩)) (by kernel_rfl) (fun _ => by kernel_rfl) ?_
  refine q_val (.pointer (some ⟨t, 0, none⟩)) (by kernel_rfl) (fun _ => by kernel_rfl) ?_
  refine q_val (.pointer (some ⟨t, 0, none⟩)) (by kernel_rfl) (fun _ => by kernel_rfl) ?_
  refine q_load1 1 t 0 #[.slice none 0 0, .int .i64 ((room : Nat) : Int), .func (.func 103) #[] #[]] 228 (.slice none 0 0) (by kernel_rfl) (by kernel_rfl) (by kernel_rfl) (fun _ => by kernel_rfl) ?_
  refine q_val (.int .i64 0) (by kernel_rfl) (fun _ => by kernel_rfl) ?_
  refine q_val (.pointer (some ⟨t, 0, none⟩)) (by kernel_rfl) (fun _ => by kernel_rfl) ?_
  refine q_val (.pointer (some ⟨t, 0, none⟩)) (by kernel_rfl) (fun _ => by kernel_rfl) ?_
  refine q_val (.pointer (some ⟨t, 1, none⟩)) (by kernel_rfl) (fun _ => by kernel_rfl) ?_
  refine q_load1 1 t 1 #[.slice none 0 0, .int .i64 ((room : Nat) : Int), .func (.func 103) #[] #[]] 228 (.int .i64 ((room : Nat) : Int)) (by kernel_rfl) (by kernel_rfl) (by kernel_rfl) (fun _ => by kernel_rfl) ?_
  refine q_val (.bool (decide (0 = ((room : Nat) : Int)))) (by kernel_rfl) (fun _ => by kernel_rfl) ?_
  refine q_nil ?_
  clear H
  intro v3 H
  refine x_then ?_
  rw [q1]
  refine x_f (by kernel_rfl) ?_
  refine x_skipc ?_
  refine x_then ?_
  refine x_seq ?_
  refine x_region_s 13 (fun w' => Hs (fps [.blk t #[.slice none 0 0, .int .i64 ((room : Nat) : Int), .func (.func 103) #[] #[]] 228, .row (.slice none 0 0) 230 3 (List.length xs) (List.flatMap pairLB xs)]) w0 w' [.blk g1 #[.int .i64 v.1, .int .i64 v.2] 86]) (fun w' => Hs (fps [.blk t #[.slice none 0 0, .int .i64 ((room : Nat) : Int), .func (.func 103) #[] #[]] 228, .row (.slice none 0 0) 230 3 (List.length xs) (List.flatMap pairLB xs)]) w0 w' [.blk g1 #[.int .i64 v.1, .int .i64 v.2] 86, .blk t #[.slice none 0 0, .int .i64 ((room : Nat) : Int), .func (.func 103) #[] #[]] 228, .row (.slice none 0 0) 230 3 (List.length xs) (List.flatMap pairLB xs)]) (by kernel_rfl) (by kernel_rfl) (by kernel_rfl) hsShut (fun _ h => h.pick [0] _ (by decide) (by kernel_rfl)) H.drew ?_
  refine s_quiet 0 rfl (by kernel_rfl) (y_val (.pointer (some ⟨t, 0, none⟩)) (by kernel_rfl) (fun _ => by kernel_rfl)) ?_
  refine s_quiet 1 rfl (by kernel_rfl) (y_val (.pointer (some ⟨t, 0, none⟩)) (by kernel_rfl) (fun _ => by kernel_rfl)) ?_
  refine s_quiet 2 rfl (by kernel_rfl) (y_val (.pointer (some ⟨t, 0, none⟩)) (by kernel_rfl) (fun _ => by kernel_rfl)) ?_
  refine s_quiet 3 rfl (by kernel_rfl) (y_val (.pointer (some ⟨t, 0, none⟩)) (by kernel_rfl) (fun _ => by kernel_rfl)) ?_
  refine s_quiet 5 rfl (by kernel_rfl) (y_val (.int .i64 k) (by kernel_rfl) (fun _ => by kernel_rfl)) ?_
  refine s_quiet 6 rfl (by kernel_rfl) (y_loadn (t := 86) 0 g1 0 #[.int .i64 v.1, .int .i64 v.2] 86 [.int .i64 v.1, .int .i64 v.2] (by kernel_rfl) (by kernel_rfl) (by kernel_rfl) (by kernel_rfl) (by kernel_rfl)) ?_
  refine s_quiet 7 rfl (by kernel_rfl) (y_val (.agg #[.int .i64 k, .int .i64 v.1, .int .i64 v.2]) (by kernel_rfl) (fun _ => by kernel_rfl)) ?_
  refine s_two 4 8 rfl rfl (by kernel_rfl) rfl rfl ?_ ?_
  · skip
    clear H
    intro v4 H
    refine x_load1 H 1 t 0 _ _ (.slice none 0 0) rfl (by kernel_rfl) (by kernel_rfl) rfl (by kernel_rfl) ?_
    refine x_nil ?_
    refine x_then ?_
    refine ⟨fun w' => Hs (fps [.blk t #[.slice none 0 0, .int .i64 ((room : Nat) : Int), .func (.func 103) #[] #[]] 228, .row (.slice none 0 0) 230 3 (List.length xs) (List.flatMap pairLB xs)]) w0 w' [.blk g1 #[.int .i64 v.1, .int .i64 v.2] 86], fun w' => Hs (fps [.blk t #[.slice none 0 0, .int .i64 ((room : Nat) : Int), .func (.func 103) #[] #[]] 228, .row (.slice none 0 0) 230 3 (List.length xs) (List.flatMap pairLB xs)]) w0 w' [.blk g1 #[.int .i64 v.1, .int .i64 v.2] 86, .blk t #[.slice none 0 0, .int .i64 ((room : Nat) : Int), .func (.func 103) #[] #[]] 228, .row (.slice none 0 0) 230 3 (List.length xs) (List.flatMap pairLB xs)], H, hsShut, fun _ h => h.pick [0] _ (by decide) (by kernel_rfl), fun _ h => h.pick [0] _ (by decide) (by kernel_rfl), ?_⟩
    refine s_one 8 rfl (by kernel_rfl) rfl ?_
    clear H
    intro v5 H
    refine x_box' H #[.int .i64 k, .int .i64 v.1, .int .i64 v.2] 230 1 (by kernel_rfl) rfl (by kernel_rfl) ?_
    clear H
    intro v6 g2 H
    refine x_nil ?_
    refine x_then ?_
    refine ⟨fun w' => Hs (fps [.blk t #[.slice none 0 0, .int .i64 ((room : Nat) : Int), .func (.func 103) #[] #[]] 228, .row (.slice none 0 0) 230 3 (List.length xs) (List.flatMap pairLB xs)]) w0 w' [.blk g1 #[.int .i64 v.1, .int .i64 v.2] 86], fun w' => Hs (fps [.blk t #[.slice none 0 0, .int .i64 ((room : Nat) : Int), .func (.func 103) #[] #[]] 228, .row (.slice none 0 0) 230 3 (List.length xs) (List.flatMap pairLB xs)]) w0 w' [.blk g2 #[.int .i64 k, .int .i64 v.1, .int .i64 v.2] 230, .blk g1 #[.int .i64 v.1, .int .i64 v.2] 86, .blk t #[.slice none 0 0, .int .i64 ((room : Nat) : Int), .func (.func 103) #[] #[]] 228, .row (.slice none 0 0) 230 3 (List.length xs) (List.flatMap pairLB xs)], H, hsShut, fun _ h => h.pick [1] _ (by decide) (by kernel_rfl), fun _ h => h.pick [0] _ (by decide) (by kernel_rfl), ?_⟩
    refine s_one 9 rfl (by kernel_rfl) rfl ?_
    clear H
    intro v7 H
    refine x_append H 3 (.slice none 0 0) 226 230 3 24 (List.length xs) (.agg #[.int .i64 0, .int .i64 0, .int .i64 0]) (List.flatMap pairLB xs) ⟨g2, 0, none⟩ 1 1 [.int .i64 k, .int .i64 v.1, .int .i64 v.2] rfl (by kernel_rfl) (by kernel_rfl) rfl (by decide) (by decide) rfl (fun j u hj => by rw [add_none]; exact cellOf (H.blk 0 rfl) (by simpa using hj)) (List.all_eq_true.1 (by kernel_rfl)) (by unfold maxLen; omega) (by omega) (by kernel_rfl) rfl (by kernel_rfl) ?_
    clear H
    intro v8 g3 c3 hc3 H
    rw [show (((List.length xs) + 1) : Nat) = (List.length (xs ++ [(k, v)])) from (by simp)] at H ⊢
    rw [show (List.flatMap pairLB xs) ++ [.int .i64 k, .int .i64 v.1, .int .i64 v.2] = (List.flatMap pairLB (xs ++ [(k, v)])) from (by rw [List.flatMap_append]; rfl)] at H
    replace H : Hs (fps [.blk t #[.slice none 0 0, .int .i64 ((room : Nat) : Int), .func (.func 103) #[] #[]] 228, .row (.slice none 0 0) 230 3 (List.length xs) (List.flatMap pairLB xs)]) w0 v8 [.blk g2 #[.int .i64 k, .int .i64 v.1, .int .i64 v.2] 230, .blk g1 #[.int .i64 v.1, .int .i64 v.2] 86, .blk t #[.slice none 0 0, .int .i64 ((room : Nat) : Int), .func (.func 103) #[] #[]] 228, .row (.slice (some ⟨g3, 0, none⟩) (List.length (xs ++ [(k, v)])) c3) 230 3 (List.length (xs ++ [(k, v)])) (List.flatMap pairLB (xs ++ [(k, v)]))] := H
    replace H := H.pick [1, 2, 3] [.blk g1 #[.int .i64 v.1, .int .i64 v.2] 86, .blk t #[.slice none 0 0, .int .i64 ((room : Nat) : Int), .func (.func 103) #[] #[]] 228, .row (.slice (some ⟨g3, 0, none⟩) (List.length (xs ++ [(k, v)])) c3) 230 3 (List.length (xs ++ [(k, v)])) (List.flatMap pairLB (xs ++ [(k, v)]))] (by decide) (by kernel_rfl)
    refine x_nil ?_
    refine x_then ?_
    refine ⟨fun w' => Hs (fps [.blk t #[.slice none 0 0, .int .i64 ((room : Nat) : Int), .func (.func 103) #[] #[]] 228, .row (.slice none 0 0) 230 3 (List.length xs) (List.flatMap pairLB xs)]) w0 w' [.blk g1 #[.int .i64 v.1, .int .i64 v.2] 86, .row (.slice (some ⟨g3, 0, none⟩) (List.length (xs ++ [(k, v)])) c3) 230 3 (List.length (xs ++ [(k, v)])) (List.flatMap pairLB (xs ++ [(k, v)]))], fun w' => Hs (fps [.blk t #[.slice none 0 0, .int .i64 ((room : Nat) : Int), .func (.func 103) #[] #[]] 228, .row (.slice none 0 0) 230 3 (List.length xs) (List.flatMap pairLB xs)]) w0 w' [.blk g1 #[.int .i64 v.1, .int .i64 v.2] 86, .blk t #[.slice none 0 0, .int .i64 ((room : Nat) : Int), .func (.func 103) #[] #[]] 228, .row (.slice (some ⟨g3, 0, none⟩) (List.length (xs ++ [(k, v)])) c3) 230 3 (List.length (xs ++ [(k, v)])) (List.flatMap pairLB (xs ++ [(k, v)]))], H, hsShut, fun _ h => h.pick [0, 2] _ (by decide) (by kernel_rfl), fun _ h => h.pick [0] _ (by decide) (by kernel_rfl), ?_⟩
    refine s_quiet 10 rfl (by kernel_rfl) (y_val (.pointer (some ⟨t, 0, none⟩)) (by kernel_rfl) (fun _ => by kernel_rfl)) ?_
    refine s_quiet 11 rfl (by kernel_rfl) (y_val (.pointer (some ⟨t, 0, none⟩)) (by kernel_rfl) (fun _ => by kernel_rfl)) ?_
    refine s_one 12 rfl (by kernel_rfl) rfl ?_
    clear H
    intro v9 H
    refine x_store (t := 226) (v := .slice (some ⟨g3, 0, none⟩) (List.length (xs ++ [(k, v)])) c3) H 1 t 0 _ #[.slice (some ⟨g3, 0, none⟩) (List.length (xs ++ [(k, v)])) c3, .int .i64 ((room : Nat) : Int), .func (.func 103) #[] #[]] 228 [.slice (some ⟨g3, 0, none⟩) (List.length (xs ++ [(k, v)])) c3] _ rfl rfl (by kernel_rfl) (by kernel_rfl) (by kernel_rfl) rfl (by kernel_rfl) (by kernel_rfl) (by kernel_rfl) (by kernel_rfl) ?_
    clear H
    intro v10 H
    refine x_nil ?_
    refine x_then ?_
    refine ⟨fun w' => Hs (fps [.blk t #[.slice none 0 0, .int .i64 ((room : Nat) : Int), .func (.func 103) #[] #[]] 228, .row (.slice none 0 0) 230 3 (List.length xs) (List.flatMap pairLB xs)]) w0 w' [.blk g1 #[.int .i64 v.1, .int .i64 v.2] 86, .blk t #[.slice (some ⟨g3, 0, none⟩) (List.length (xs ++ [(k, v)])) c3, .int .i64 ((room : Nat) : Int), .func (.func 103) #[] #[]] 228, .row (.slice (some ⟨g3, 0, none⟩) (List.length (xs ++ [(k, v)])) c3) 230 3 (List.length (xs ++ [(k, v)])) (List.flatMap pairLB (xs ++ [(k, v)]))], fun w' => Hs (fps [.blk t #[.slice none 0 0, .int .i64 ((room : Nat) : Int), .func (.func 103) #[] #[]] 228, .row (.slice none 0 0) 230 3 (List.length xs) (List.flatMap pairLB xs)]) w0 w' [.blk g1 #[.int .i64 v.1, .int .i64 v.2] 86, .blk t #[.slice (some ⟨g3, 0, none⟩) (List.length (xs ++ [(k, v)])) c3, .int .i64 ((room : Nat) : Int), .func (.func 103) #[] #[]] 228, .row (.slice (some ⟨g3, 0, none⟩) (List.length (xs ++ [(k, v)])) c3) 230 3 (List.length (xs ++ [(k, v)])) (List.flatMap pairLB (xs ++ [(k, v)]))], H, hsShut, fun _ h => h.pick [0, 1, 2] _ (by decide) (by kernel_rfl), fun _ h => h.pick [0, 2] _ (by decide) (by kernel_rfl), ?_⟩
    refine s_done (by kernel_rfl) ?_
    clear H
    intro v11 H
    refine x_then ?_
    refine x_seq ?_
    refine x_region ?_
    refine x_val (.int .i64 0) (by kernel_rfl) rfl (by kernel_rfl) ?_
    refine x_val (.bool false) (by kernel_rfl) rfl (by kernel_rfl) ?_
    refine x_val (.int .i64 0) (by kernel_rfl) rfl (by kernel_rfl) ?_
    refine x_val (.bool false) (by kernel_rfl) rfl (by kernel_rfl) ?_
    refine x_nil ?_
    refine x_then ?_
    refine x_retc ?_
    refine x_ret (.tuple #[.int .i64 0, .bool false]) (by kernel_rfl) (by kernel_rfl) ?_
    replace H := H.pick [1, 2] [.blk t #[.slice (some ⟨g3, 0, none⟩) (List.length (xs ++ [(k, v)])) c3, .int .i64 ((room : Nat) : Int), .func (.func 103) #[] #[]] 228, .row (.slice (some ⟨g3, 0, none⟩) (List.length (xs ++ [(k, v)])) c3) 230 3 (List.length (xs ++ [(k, v)])) (List.flatMap pairLB (xs ++ [(k, v)]))] (by decide) (by kernel_rfl)
    exact ⟨_, rfl, H⟩
  · skip
    clear H
    intro v12 H
    refine x_box' H #[.int .i64 k, .int .i64 v.1, .int .i64 v.2] 230 1 (by kernel_rfl) rfl (by kernel_rfl) ?_
    clear H
    intro v13 g4 H
    refine x_nil ?_
    refine x_then ?_
    refine ⟨fun w' => Hs (fps [.blk t #[.slice none 0 0, .int .i64 ((room : Nat) : Int), .func (.func 103) #[] #[]] 228, .row (.slice none 0 0) 230 3 (List.length xs) (List.flatMap pairLB xs)]) w0 w' [.blk g1 #[.int .i64 v.1, .int .i64 v.2] 86], fun w' => Hs (fps [.blk t #[.slice none 0 0, .int .i64 ((room : Nat) : Int), .func (.func 103) #[] #[]] 228, .row (.slice none 0 0) 230 3 (List.length xs) (List.flatMap pairLB xs)]) w0 w' [.blk g4 #[.int .i64 k, .int .i64 v.1, .int .i64 v.2] 230, .blk g1 #[.int .i64 v.1, .int .i64 v.2] 86, .blk t #[.slice none 0 0, .int .i64 ((room : Nat) : Int), .func (.func 103) #[] #[]] 228, .row (.slice none 0 0) 230 3 (List.length xs) (List.flatMap pairLB xs)], H, hsShut, fun _ h => h.pick [1] _ (by decide) (by kernel_rfl), fun _ h => h.pick [0] _ (by decide) (by kernel_rfl), ?_⟩
    refine s_one 4 rfl (by kernel_rfl) rfl ?_
    clear H
    intro v14 H
    refine x_load1 H 2 t 0 _ _ (.slice none 0 0) rfl (by kernel_rfl) (by kernel_rfl) rfl (by kernel_rfl) ?_
    refine x_nil ?_
    refine x_then ?_
    refine ⟨fun w' => Hs (fps [.blk t #[.slice none 0 0, .int .i64 ((room : Nat) : Int), .func (.func 103) #[] #[]] 228, .row (.slice none 0 0) 230 3 (List.length xs) (List.flatMap pairLB xs)]) w0 w' [.blk g1 #[.int .i64 v.1, .int .i64 v.2] 86], fun w' => Hs (fps [.blk t #[.slice none 0 0, .int .i64 ((room : Nat) : Int), .func (.func 103) #[] #[]] 228, .row (.slice none 0 0) 230 3 (List.length xs) (List.flatMap pairLB xs)]) w0 w' [.blk g4 #[.int .i64 k, .int .i64 v.1, .int .i64 v.2] 230, .blk g1 #[.int .i64 v.1, .int .i64 v.2] 86, .blk t #[.slice none 0 0, .int .i64 ((room : Nat) : Int), .func (.func 103) #[] #[]] 228, .row (.slice none 0 0) 230 3 (List.length xs) (List.flatMap pairLB xs)], H, hsShut, fun _ h => h.pick [1] _ (by decide) (by kernel_rfl), fun _ h => h.pick [0] _ (by decide) (by kernel_rfl), ?_⟩
    refine s_one 9 rfl (by kernel_rfl) rfl ?_
    clear H
    intro v15 H
    refine x_append H 3 (.slice none 0 0) 226 230 3 24 (List.length xs) (.agg #[.int .i64 0, .int .i64 0, .int .i64 0]) (List.flatMap pairLB xs) ⟨g4, 0, none⟩ 1 1 [.int .i64 k, .int .i64 v.1, .int .i64 v.2] rfl (by kernel_rfl) (by kernel_rfl) rfl (by decide) (by decide) rfl (fun j u hj => by rw [add_none]; exact cellOf (H.blk 0 rfl) (by simpa using hj)) (List.all_eq_true.1 (by kernel_rfl)) (by unfold maxLen; omega) (by omega) (by kernel_rfl) rfl (by kernel_rfl) ?_
    clear H
    intro v16 g5 c5 hc5 H
    rw [show (((List.length xs) + 1) : Nat) = (List.length (xs ++ [(k, v)])) from (by simp)] at H ⊢
    rw [show (List.flatMap pairLB xs) ++ [.int .i64 k, .int .i64 v.1, .int .i64 v.2] = (List.flatMap pairLB (xs ++ [(k, v)])) from (by rw [List.flatMap_append]; rfl)] at H
    replace H : Hs (fps [.blk t #[.slice none 0 0, .int .i64 ((room : Nat) : Int), .func (.func 103) #[] #[]] 228, .row (.slice none 0 0) 230 3 (List.length xs) (List.flatMap pairLB xs)]) w0 v16 [.blk g4 #[.int .i64 k, .int .i64 v.1, .int .i64 v.2] 230, .blk g1 #[.int .i64 v.1, .int .i64 v.2] 86, .blk t #[.slice none 0 0, .int .i64 ((room : Nat) : Int), .func (.func 103) #[] #[]] 228, .row (.slice (some ⟨g5, 0, none⟩) (List.length (xs ++ [(k, v)])) c5) 230 3 (List.length (xs ++ [(k, v)])) (List.flatMap pairLB (xs ++ [(k, v)]))] := H
    replace H := H.pick [1, 2, 3] [.blk g1 #[.int .i64 v.1, .int .i64 v.2] 86, .blk t #[.slice none 0 0, .int .i64 ((room : Nat) : Int), .func (.func 103) #[] #[]] 228, .row (.slice (some ⟨g5, 0, none⟩) (List.length (xs ++ [(k, v)])) c5) 230 3 (List.length (xs ++ [(k, v)])) (List.flatMap pairLB (xs ++ [(k, v)]))] (by decide) (by kernel_rfl)
    refine x_nil ?_
    refine x_then ?_
    refine ⟨fun w' => Hs (fps [.blk t #[.slice none 0 0, .int .i64 ((room : Nat) : Int), .func (.func 103) #[] #[]] 228, .row (.slice none 0 0) 230 3 (List.length xs) (List.flatMap pairLB xs)]) w0 w' [.blk g1 #[.int .i64 v.1, .int .i64 v.2] 86], fun w' => Hs (fps [.blk t #[.slice none 0 0, .int .i64 ((room : Nat) : Int), .func (.func 103) #[] #[]] 228, .row (.slice none 0 0) 230 3 (List.length xs) (List.flatMap pairLB xs)]) w0 w' [.blk g1 #[.int .i64 v.1, .int .i64 v.2] 86, .blk t #[.slice none 0 0, .int .i64 ((room : Nat) : Int), .func (.func 103) #[] #[]] 228, .row (.slice (some ⟨g5, 0, none⟩) (List.length (xs ++ [(k, v)])) c5) 230 3 (List.length (xs ++ [(k, v)])) (List.flatMap pairLB (xs ++ [(k, v)]))], H, hsShut, fun _ h => h.pick [0] _ (by decide) (by kernel_rfl), fun _ h => h.pick [0] _ (by decide) (by kernel_rfl), ?_⟩
    refine s_quiet 10 rfl (by kernel_rfl) (y_val (.pointer (some ⟨t, 0, none⟩)) (by kernel_rfl) (fun _ => by kernel_rfl)) ?_
    refine s_quiet 11 rfl (by kernel_rfl) (y_val (.pointer (some ⟨t, 0, none⟩)) (by kernel_rfl) (fun _ => by kernel_rfl)) ?_
    refine s_one 12 rfl (by kernel_rfl) rfl ?_
    clear H
    intro v17 H
    refine x_store (t := 226) (v := .slice (some ⟨g5, 0, none⟩) (List.length (xs ++ [(k, v)])) c5) H 1 t 0 _ #[.slice (some ⟨g5, 0, none⟩) (List.length (xs ++ [(k, v)])) c5, .int .i64 ((room : Nat) : Int), .func (.func 103) #[] #[]] 228 [.slice (some ⟨g5, 0, none⟩) (List.length (xs ++ [(k, v)])) c5] _ rfl rfl (by kernel_rfl) (by kernel_rfl) (by kernel_rfl) rfl (by kernel_rfl) (by kernel_rfl) (by kernel_rfl) (by kernel_rfl) ?_
    clear H
    intro v18 H
    refine x_nil ?_
    refine x_then ?_
    refine ⟨fun w' => Hs (fps [.blk t #[.slice none 0 0, .int .i64 ((room : Nat) : Int), .func (.func 103) #[] #[]] 228, .row (.slice none 0 0) 230 3 (List.length xs) (List.flatMap pairLB xs)]) w0 w' [.blk g1 #[.int .i64 v.1, .int .i64 v.2] 86], fun w' => Hs (fps [.blk t #[.slice none 0 0, .int .i64 ((room : Nat) : Int), .func (.func 103) #[] #[]] 228, .row (.slice none 0 0) 230 3 (List.length xs) (List.flatMap pairLB xs)]) w0 w' [.blk g1 #[.int .i64 v.1, .int .i64 v.2] 86, .blk t #[.slice (some ⟨g5, 0, none⟩) (List.length (xs ++ [(k, v)])) c5, .int .i64 ((room : Nat) : Int), .func (.func 103) #[] #[]] 228, .row (.slice (some ⟨g5, 0, none⟩) (List.length (xs ++ [(k, v)])) c5) 230 3 (List.length (xs ++ [(k, v)])) (List.flatMap pairLB (xs ++ [(k, v)]))], H, hsShut, fun _ h => h.pick [0] _ (by decide) (by kernel_rfl), fun _ h => h.pick [0] _ (by decide) (by kernel_rfl), ?_⟩
    refine s_done (by kernel_rfl) ?_
    clear H
    intro v19 H
    refine x_then ?_
    refine x_seq ?_
    refine x_region ?_
    refine x_val (.int .i64 0) (by kernel_rfl) rfl (by kernel_rfl) ?_
    refine x_val (.bool false) (by kernel_rfl) rfl (by kernel_rfl) ?_
    refine x_val (.int .i64 0) (by kernel_rfl) rfl (by kernel_rfl) ?_
    refine x_val (.bool false) (by kernel_rfl) rfl (by kernel_rfl) ?_
    refine x_nil ?_
    refine x_then ?_
    refine x_retc ?_
    refine x_ret (.tuple #[.int .i64 0, .bool false]) (by kernel_rfl) (by kernel_rfl) ?_
    replace H := H.pick [1, 2] [.blk t #[.slice (some ⟨g5, 0, none⟩) (List.length (xs ++ [(k, v)])) c5, .int .i64 ((room : Nat) : Int), .func (.func 103) #[] #[]] 228, .row (.slice (some ⟨g5, 0, none⟩) (List.length (xs ++ [(k, v)])) c5) 230 3 (List.length (xs ++ [(k, v)])) (List.flatMap pairLB (xs ++ [(k, v)]))] (by decide) (by kernel_rfl)
    exact ⟨_, rfl, H⟩

set_option maxRecDepth 100000 in
set_option maxHeartbeats 4000000 in
theorem Put_roomB_s {t : Nat} {xs : List PairB} {room : Nat} (k : Int) (v : Buk) {g cap : Nat} (hn : xs.length ≤ 4096) (hq : ¬ (fkB xs k) < xs.length) (hr : xs.length < room) (w0 : World) (H0 : Hs (fps [.blk t #[.slice (some ⟨g, 0, none⟩) (List.length xs) cap, .int .i64 ((room : Nat) : Int), .func (.func 103) #[] #[]] 228, .row (.slice (some ⟨g, 0, none⟩) (List.length xs) cap) 230 3 (List.length xs) (List.flatMap pairLB xs)]) w0 w0 [.blk t #[.slice (some ⟨g, 0, none⟩) (List.length xs) cap, .int .i64 ((room : Nat) : Int), .func (.func 103) #[] #[]] 228, .row (.slice (some ⟨g, 0, none⟩) (List.length xs) cap) 230 3 (List.length xs) (List.flatMap pairLB xs)]) :
    Calls Try.prog 106 #[.pointer (some ⟨t, 0, none⟩), .int .i64 k, .agg #[.int .i64 v.1, .int .i64 v.2]] w0 fun e w' => ∃ sv', e = .returned (.tuple #[.int .i64 0, .bool false]) ∧ Hs (fps [.blk t #[.slice (some ⟨g, 0, none⟩) (List.length xs) cap, .int .i64 ((room : Nat) : Int), .func (.func 103) #[] #[]] 228, .row (.slice (some ⟨g, 0, none⟩) (List.length xs) cap) 230 3 (List.length xs) (List.flatMap pairLB xs)]) w0 w' [.blk t #[sv', .int .i64 ((room : Nat) : Int), .func (.func 103) #[] #[]] 228, .row (sv') 230 3 (List.length (xs ++ [(k, v)])) (List.flatMap pairLB (xs ++ [(k, v)]))] := by
  refine x_enter Try.func106 rfl #[.pointer (some ⟨t, 0, none⟩), .int .i64 k, .agg #[.int .i64 v.1, .int .i64 v.2], undef, undef, undef, undef, undef, undef, undef, undef, undef, undef, undef, undef, undef, undef, undef, undef, undef, undef, undef, undef, undef, undef, undef, undef, undef, undef, undef, undef, undef, undef, undef, undef, undef, undef, undef, undef, undef, undef, undef, undef, undef, undef, undef, undef, undef, undef, undef, undef] (by kernel_rfl) ?_
  have H := H0
  have q1 : decide ((((List.length xs) : Nat) : Int) = ((room : Nat) : Int)) = false := by simp; omega
  refine x_seq ?_
  refine x_region ?_
  refine x_box H #[.int .i64 v.1, .int .i64 v.2] 86 (by kernel_rfl) rfl (by kernel_rfl) ?_
  clear H
  intro v1 g1 H
  refine x_val (.int .i64 0) (by kernel_rfl) rfl (by kernel_rfl) ?_
  refine x_val (.bool false) (by kernel_rfl) rfl (by kernel_rfl) ?_
  refine x_nil ?_
  refine x_then ?_
  refine x_seq ?_
  refine x_seq ?_
  refine x_region ?_
  refine x_val (.pointer (some ⟨t, 0, none⟩)) (by kernel_rfl) rfl (by kernel_rfl) ?_
  refine x_val (.int .i64 k) (by kernel_rfl) rfl (by kernel_rfl) ?_
  refine x_callB (.int .i64 (-1)) H (by kernel_rfl) rfl (by kernel_rfl) (by have h := find_B (room := room) k hn _ (H.roOf [1, 2] [.blk t #[.slice (some ⟨g, 0, none⟩) (List.length xs) cap, .int .i64 ((room : Nat) : Int), .func (.func 103) #[] #[]] 228, .row (.slice (some ⟨g, 0, none⟩) (List.length xs) cap) 230 3 (List.length xs) (List.flatMap pairLB xs)] (by kernel_rfl)); rw [show findB xs k = -1 by unfold findB; rw [if_neg hq]] at h; exact h) ?_
  clear H
  intro v2 H
  refine x_val (.int .i64 (-1)) (by kernel_rfl) rfl (by kernel_rfl) ?_
  refine x_nil ?_
  refine x_then ?_
  refine x_seq ?_
  refine x_region ?_
  refine x_val (.int .i64 (-1)) (by kernel_rfl) rfl (by kernel_rfl) ?_
  refine x_val (.bool false) (by kernel_rfl) rfl (by kernel_rfl) ?_
  refine x_nil ?_
  refine x_then ?_
  refine x_f (by kernel_rfl) ?_
  refine x_skipc ?_
  refine x_then ?_
  refine x_seq ?_
  refine x_seq ?_
  refine x_region_whole (fun w' => Hs (fps [.blk t #[.slice (some ⟨g, 0, none⟩) (List.length xs) cap, .int .i64 ((room : Nat) : Int), .func (.func 103) #[] #[]] 228, .row (.slice (some ⟨g, 0, none⟩) (List.length xs) cap) 230 3 (List.length xs) (List.flatMap pairLB xs)]) w0 w' [.blk g1 #[.int .i64 v.1, .int .i64 v.2] 86, .blk t #[.slice (some ⟨g, 0, none⟩) (List.length xs) cap, .int .i64 ((room : Nat) : Int), .func (.func 103) #[] #[]] 228, .row (.slice (some ⟨g, 0, none⟩) (List.length xs) cap) 230 3 (List.length xs) (List.flatMap pairLB xs)]) (by kernel_rfl) (by kernel_rfl) (by kernel_rfl) H.drew ?_
  refine q_val (.pointer (some ⟨t, 0, none⟩)) (by kernel_rfl) (fun _ => by kernel_rfl) ?_
  refine q_val (.pointer (some ⟨t, 0, none⟩)) (by kernel_rfl) (fun _ => by kernel_rfl) ?_
  refine q_val (.pointer (some ⟨t, 0, none⟩)) (by kernel_rfl) (fun _ => by kernel_rfl) ?_
  refine q_load1 1 t 0 #[.slice (some ⟨g, 0, none⟩) (List.length xs) cap, .int .i64 ((room : Nat) : Int), .func (.func 103) #[] #[]] 228 (.slice (some ⟨g, 0, none⟩) (List.length xs) cap) (by kernel_rfl) (by kernel_rfl) (by kernel_rfl) (fun _ => by kernel_rfl) ?_
  refine q_val (.int .i64 (((List.length xs) : Nat) : Int)) (by kernel_rfl) (fun _ => by kernel_rfl) ?_
  refine q_val (.pointer (some ⟨t, 0, none⟩)) (by kernel_rfl) (fun _ => by kernel_rfl) ?_
  refine q_val (.pointer (some ⟨t, 0, none⟩)) (by kernel_rfl) (fun _ => by kernel_rfl) ?_
  refine q_val (.pointer (some ⟨t, 1, none⟩)) (by kernel_rfl) (fun _ => by kernel_rfl) ?_
  refine q_load1 1 t 1 #[.slice (some ⟨g, 0, none⟩) (List.length xs) cap, .int .i64 ((room : Nat) : Int), .func (.func 103) #[] #[]] 228 (.int .i64 ((room : Nat) : Int)) (by kernel_rfl) (by kernel_rfl) (by kernel_rfl) (fun _ => by kernel_rfl) ?_
  refine q_val (.bool (decide ((((List.length xs) : Nat) : Int) = ((room : Nat) : Int)))) (by kernel_rfl) (fun _ => by kernel_rfl) ?_
  refine q_nil ?_
  clear H
  intro v3 H
  refine x_then ?_
  rw [q1]
  refine x_f (by kernel_rfl) ?_
  refine x_skipc ?_
  refine x_then ?_
  refine x_seq ?_
  refine x_region_s 13 (fun w' => Hs (fps [.blk t #[.slice (some ⟨g, 0, none⟩) (List.length xs) cap, .int .i64 ((room : Nat) : Int), .func (.func 103) #[] #[]] 228, .row (.slice (some ⟨g, 0, none⟩) (List.length xs) cap) 230 3 (List.length xs) (List.flatMap pairLB xs)]) w0 w' [.blk g1 #[.int .i64 v.1, .int .i64 v.2] 86]) (fun w' => Hs (fps [.blk t #[.slice (some ⟨g, 0, none⟩) (List.length xs) cap, .int .i64 ((room : Nat) : Int), .func (.func 103) #[] #[]] 228, .row (.slice (some ⟨g, 0, none⟩) (List.length xs) cap) 230 3 (List.length xs) (List.flatMap pairLB xs)]) w0 w' [.blk g1 #[.int .i64 v.1, .int .i64 v.2] 86, .blk t #[.slice (some ⟨g, 0, none⟩) (List.length xs) cap, .int .i64 ((room : Nat) : Int), .func (.func 103) #[] #[]] 228, .row (.slice (some ⟨g, 0, none⟩) (List.length xs) cap) 230 3 (List.length xs) (List.flatMap pairLB xs)]) (by kernel_rfl) (by kernel_rfl) (by kernel_rfl) hsShut (fun _ h => h.pick [0] _ (by decide) (by kernel_rfl)) H.drew ?_
  refine s_quiet 0 rfl (by kernel_rfl) (y_val (.pointer (some ⟨t, 0, none⟩)) (by kernel_rfl) (fun _ => by kernel_rfl)) ?_
  refine s_quiet 1 rfl (by kernel_rfl) (y_val (.pointer (some ⟨t, 0, none⟩)) (by kernel_rfl) (fun _ => by kernel_rfl)) ?_
  refine s_quiet 2 rfl (by kernel_rfl) (y_val (.pointer (some ⟨t, 0, none⟩)) (by kernel_rfl) (fun _ => by kernel_rfl)) ?_
  refine s_quiet 3 rfl (by kernel_rfl) (y_val (.pointer (some ⟨t, 0, none⟩)) (by kernel_rfl) (fun _ => by kernel_rfl)) ?_
  refine s_quiet 5 rfl (by kernel_rfl) (y_val (.int .i64 k) (by kernel_rfl) (fun _ => by kernel_rfl)) ?_
  refine s_quiet 6 rfl (by kernel_rfl) (y_loadn (t := 86) 0 g1 0 #[.int .i64 v.1, .int .i64 v.2] 86 [.int .i64 v.1, .int .i64 v.2] (by kernel_rfl) (by kernel_rfl) (by kernel_rfl) (by kernel_rfl) (by kernel_rfl)) ?_
  refine s_quiet 7 rfl (by kernel_rfl) (y_val (.agg #[.int .i64 k, .int .i64 v.1, .int .i64 v.2]) (by kernel_rfl) (fun _ => by kernel_rfl)) ?_
  refine s_two 4 8 rfl rfl (by kernel_rfl) rfl rfl ?_ ?_
  · skip
    clear H
    intro v4 H
    refine x_load1 H 1 t 0 _ _ (.slice (some ⟨g, 0, none⟩) (List.length xs) cap) rfl (by kernel_rfl) (by kernel_rfl) rfl (by kernel_rfl) ?_
    refine x_nil ?_
    refine x_then ?_
    refine ⟨fun w' => Hs (fps [.blk t #[.slice (some ⟨g, 0, none⟩) (List.length xs) cap, .int .i64 ((room : Nat) : Int), .func (.func 103) #[] #[]] 228, .row (.slice (some ⟨g, 0, none⟩) (List.length xs) cap) 230 3 (List.length xs) (List.flatMap pairLB xs)]) w0 w' [.blk g1 #[.int .i64 v.1, .int .i64 v.2] 86], fun w' => Hs (fps [.blk t #[.slice (some ⟨g, 0, none⟩) (List.length xs) cap, .int .i64 ((room : Nat) : Int), .func (.func 103) #[] #[]] 228, .row (.slice (some ⟨g, 0, none⟩) (List.length xs) cap) 230 3 (List.length xs) (List.flatMap pairLB xs)]) w0 w' [.blk g1 #[.int .i64 v.1, .int .i64 v.2] 86, .blk t #[.slice (some ⟨g, 0, none⟩) (List.length xs) cap, .int .i64 ((room : Nat) : Int), .func (.func 103) #[] #[]] 228, .row (.slice (some ⟨g, 0, none⟩) (List.length xs) cap) 230 3 (List.length xs) (List.flatMap pairLB xs)], H, hsShut, fun _ h => h.pick [0] _ (by decide) (by kernel_rfl), fun _ h => h.pick [0] _ (by decide) (by kernel_rfl), ?_⟩
    refine s_one 8 rfl (by kernel_rfl) rfl ?_
    clear H
    intro v5 H
    refine x_box' H #[.int .i64 k, .int .i64 v.1, .int .i64 v.2] 230 1 (by kernel_rfl) rfl (by kernel_rfl) ?_
    clear H
    intro v6 g2 H
    refine x_nil ?_
    refine x_then ?_
    refine ⟨fun w' => Hs (fps [.blk t #[.slice (some ⟨g, 0, none⟩) (List.length xs) cap, .int .i64 ((room : Nat) : Int), .func (.func 103) #[] #[]] 228, .row (.slice (some ⟨g, 0, none⟩) (List.length xs) cap) 230 3 (List.length xs) (List.flatMap pairLB xs)]) w0 w' [.blk g1 #[.int .i64 v.1, .int .i64 v.2] 86], fun w' => Hs (fps [.blk t #[.slice (some ⟨g, 0, none⟩) (List.length xs) cap, .int .i64 ((room : Nat) : Int), .func (.func 103) #[] #[]] 228, .row (.slice (some ⟨g, 0, none⟩) (List.length xs) cap) 230 3 (List.length xs) (List.flatMap pairLB xs)]) w0 w' [.blk g2 #[.int .i64 k, .int .i64 v.1, .int .i64 v.2] 230, .blk g1 #[.int .i64 v.1, .int .i64 v.2] 86, .blk t #[.slice (some ⟨g, 0, none⟩) (List.length xs) cap, .int .i64 ((room : Nat) : Int), .func (.func 103) #[] #[]] 228, .row (.slice (some ⟨g, 0, none⟩) (List.length xs) cap) 230 3 (List.length xs) (List.flatMap pairLB xs)], H, hsShut, fun _ h => h.pick [1] _ (by decide) (by kernel_rfl), fun _ h => h.pick [0] _ (by decide) (by kernel_rfl), ?_⟩
    refine s_one 9 rfl (by kernel_rfl) rfl ?_
    clear H
    intro v7 H
    refine x_append H 3 (.slice (some ⟨g, 0, none⟩) (List.length xs) cap) 226 230 3 24 (List.length xs) (.agg #[.int .i64 0, .int .i64 0, .int .i64 0]) (List.flatMap pairLB xs) ⟨g2, 0, none⟩ 1 1 [.int .i64 k, .int .i64 v.1, .int .i64 v.2] rfl (by kernel_rfl) (by kernel_rfl) rfl (by decide) (by decide) rfl (fun j u hj => by rw [add_none]; exact cellOf (H.blk 0 rfl) (by simpa using hj)) (List.all_eq_true.1 (by kernel_rfl)) (by unfold maxLen; omega) (by omega) (by kernel_rfl) rfl (by kernel_rfl) ?_
    clear H
    intro v8 g3 c3 hc3 H
    rw [show (((List.length xs) + 1) : Nat) = (List.length (xs ++ [(k, v)])) from (by simp)] at H ⊢
    rw [show (List.flatMap pairLB xs) ++ [.int .i64 k, .int .i64 v.1, .int .i64 v.2] = (List.flatMap pairLB (xs ++ [(k, v)])) from (by rw [List.flatMap_append]; rfl)] at H
    replace H : Hs (fps [.blk t #[.slice (some ⟨g, 0, none⟩) (List.length xs) cap, .int .i64 ((room : Nat) : Int), .func (.func 103) #[] #[]] 228, .row (.slice (some ⟨g, 0, none⟩) (List.length xs) cap) 230 3 (List.length xs) (List.flatMap pairLB xs)]) w0 v8 [.blk g2 #[.int .i64 k, .int .i64 v.1, .int .i64 v.2] 230, .blk g1 #[.int .i64 v.1, .int .i64 v.2] 86, .blk t #[.slice (some ⟨g, 0, none⟩) (List.length xs) cap, .int .i64 ((room : Nat) : Int), .func (.func 103) #[] #[]] 228, .row (.slice (some ⟨g3, 0, none⟩) (List.length (xs ++ [(k, v)])) c3) 230 3 (List.length (xs ++ [(k, v)])) (List.flatMap pairLB (xs ++ [(k, v)]))] := H
    replace H := H.pick [1, 2, 3] [.blk g1 #[.int .i64 v.1, .int .i64 v.2] 86, .blk t #[.slice (some ⟨g, 0, none⟩) (List.length xs) cap, .int .i64 ((room : Nat) : Int), .func (.func 103) #[] #[]] 228, .row (.slice (some ⟨g3, 0, none⟩) (List.length (xs ++ [(k, v)])) c3) 230 3 (List.length (xs ++ [(k, v)])) (List.flatMap pairLB (xs ++ [(k, v)]))] (by decide) (by kernel_rfl)
    refine x_nil ?_
    refine x_then ?_
    refine ⟨fun w' => Hs (fps [.blk t #[.slice (some ⟨g, 0, none⟩) (List.length xs) cap, .int .i64 ((room : Nat) : Int), .func (.func 103) #[] #[]] 228, .row (.slice (some ⟨g, 0, none⟩) (List.length xs) cap) 230 3 (List.length xs) (List.flatMap pairLB xs)]) w0 w' [.blk g1 #[.int .i64 v.1, .int .i64 v.2] 86, .row (.slice (some ⟨g3, 0, none⟩) (List.length (xs ++ [(k, v)])) c3) 230 3 (List.length (xs ++ [(k, v)])) (List.flatMap pairLB (xs ++ [(k, v)]))], fun w' => Hs (fps [.blk t #[.slice (some ⟨g, 0, none⟩) (List.length xs) cap, .int .i64 ((room : Nat) : Int), .func (.func 103) #[] #[]] 228, .row (.slice (some ⟨g, 0, none⟩) (List.length xs) cap) 230 3 (List.length xs) (List.flatMap pairLB xs)]) w0 w' [.blk g1 #[.int .i64 v.1, .int .i64 v.2] 86, .blk t #[.slice (some ⟨g, 0, none⟩) (List.length xs) cap, .int .i64 ((room : Nat) : Int), .func (.func 103) #[] #[]] 228, .row (.slice (some ⟨g3, 0, none⟩) (List.length (xs ++ [(k, v)])) c3) 230 3 (List.length (xs ++ [(k, v)])) (List.flatMap pairLB (xs ++ [(k, v)]))], H, hsShut, fun _ h => h.pick [0, 2] _ (by decide) (by kernel_rfl), fun _ h => h.pick [0] _ (by decide) (by kernel_rfl), ?_⟩
    refine s_quiet 10 rfl (by kernel_rfl) (y_val (.pointer (some ⟨t, 0, none⟩)) (by kernel_rfl) (fun _ => by kernel_rfl)) ?_
    refine s_quiet 11 rfl (by kernel_rfl) (y_val (.pointer (some ⟨t, 0, none⟩)) (by kernel_rfl) (fun _ => by kernel_rfl)) ?_
    refine s_one 12 rfl (by kernel_rfl) rfl ?_
    clear H
    intro v9 H
    refine x_store (t := 226) (v := .slice (some ⟨g3, 0, none⟩) (List.length (xs ++ [(k, v)])) c3) H 1 t 0 _ #[.slice (some ⟨g3, 0, none⟩) (List.length (xs ++ [(k, v)])) c3, .int .i64 ((room : Nat) : Int), .func (.func 103) #[] #[]] 228 [.slice (some ⟨g3, 0, none⟩) (List.length (xs ++ [(k, v)])) c3] _ rfl rfl (by kernel_rfl) (by kernel_rfl) (by kernel_rfl) rfl (by kernel_rfl) (by kernel_rfl) (by kernel_rfl) (by kernel_rfl) ?_
    clear H
    intro v10 H
    refine x_nil ?_
    refine x_then ?_
    refine ⟨fun w' => Hs (fps [.blk t #[.slice (some ⟨g, 0, none⟩) (List.length xs) cap, .int .i64 ((room : Nat) : Int), .func (.func 103) #[] #[]] 228, .row (.slice (some ⟨g, 0, none⟩) (List.length xs) cap) 230 3 (List.length xs) (List.flatMap pairLB xs)]) w0 w' [.blk g1 #[.int .i64 v.1, .int .i64 v.2] 86, .blk t #[.slice (some ⟨g3, 0, none⟩) (List.length (xs ++ [(k, v)])) c3, .int .i64 ((room : Nat) : Int), .func (.func 103) #[] #[]] 228, .row (.slice (some ⟨g3, 0, none⟩) (List.length (xs ++ [(k, v)])) c3) 230 3 (List.length (xs ++ [(k, v)])) (List.flatMap pairLB (xs ++ [(k, v)]))], fun w' => Hs (fps [.blk t #[.slice (some ⟨g, 0, none⟩) (List.length xs) cap, .int .i64 ((room : Nat) : Int), .func (.func 103) #[] #[]] 228, .row (.slice (some ⟨g, 0, none⟩) (List.length xs) cap) 230 3 (List.length xs) (List.flatMap pairLB xs)]) w0 w' [.blk g1 #[.int .i64 v.1, .int .i64 v.2] 86, .blk t #[.slice (some ⟨g3, 0, none⟩) (List.length (xs ++ [(k, v)])) c3, .int .i64 ((room : Nat) : Int), .func (.func 103) #[] #[]] 228, .row (.slice (some ⟨g3, 0, none⟩) (List.length (xs ++ [(k, v)])) c3) 230 3 (List.length (xs ++ [(k, v)])) (List.flatMap pairLB (xs ++ [(k, v)]))], H, hsShut, fun _ h => h.pick [0, 1, 2] _ (by decide) (by kernel_rfl), fun _ h => h.pick [0, 2] _ (by decide) (by kernel_rfl), ?_⟩
    refine s_done (by kernel_rfl) ?_
    clear H
    intro v11 H
    refine x_then ?_
    refine x_seq ?_
    refine x_region ?_
    refine x_val (.int .i64 0) (by kernel_rfl) rfl (by kernel_rfl) ?_
    refine x_val (.bool false) (by kernel_rfl) rfl (by kernel_rfl) ?_
    refine x_val (.int .i64 0) (by kernel_rfl) rfl (by kernel_rfl) ?_
    refine x_val (.bool false) (by kernel_rfl) rfl (by kernel_rfl) ?_
    refine x_nil ?_
    refine x_then ?_
    refine x_retc ?_
    refine x_ret (.tuple #[.int .i64 0, .bool false]) (by kernel_rfl) (by kernel_rfl) ?_
    replace H := H.pick [1, 2] [.blk t #[.slice (some ⟨g3, 0, none⟩) (List.length (xs ++ [(k, v)])) c3, .int .i64 ((room : Nat) : Int), .func (.func 103) #[] #[]] 228, .row (.slice (some ⟨g3, 0, none⟩) (List.length (xs ++ [(k, v)])) c3) 230 3 (List.length (xs ++ [(k, v)])) (List.flatMap pairLB (xs ++ [(k, v)]))] (by decide) (by kernel_rfl)
    exact ⟨_, rfl, H⟩
  · skip
    clear H
    intro v12 H
    refine x_box' H #[.int .i64 k, .int .i64 v.1, .int .i64 v.2] 230 1 (by kernel_rfl) rfl (by kernel_rfl) ?_
    clear H
    intro v13 g4 H
    refine x_nil ?_
    refine x_then ?_
    refine ⟨fun w' => Hs (fps [.blk t #[.slice (some ⟨g, 0, none⟩) (List.length xs) cap, .int .i64 ((room : Nat) : Int), .func (.func 103) #[] #[]] 228, .row (.slice (some ⟨g, 0, none⟩) (List.length xs) cap) 230 3 (List.length xs) (List.flatMap pairLB xs)]) w0 w' [.blk g1 #[.int .i64 v.1, .int .i64 v.2] 86], fun w' => Hs (fps [.blk t #[.slice (some ⟨g, 0, none⟩) (List.length xs) cap, .int .i64 ((room : Nat) : Int), .func (.func 103) #[] #[]] 228, .row (.slice (some ⟨g, 0, none⟩) (List.length xs) cap) 230 3 (List.length xs) (List.flatMap pairLB xs)]) w0 w' [.blk g4 #[.int .i64 k, .int .i64 v.1, .int .i64 v.2] 230, .blk g1 #[.int .i64 v.1, .int .i64 v.2] 86, .blk t #[.slice (some ⟨g, 0, none⟩) (List.length xs) cap, .int .i64 ((room : Nat) : Int), .func (.func 103) #[] #[]] 228, .row (.slice (some ⟨g, 0, none⟩) (List.length xs) cap) 230 3 (List.length xs) (List.flatMap pairLB xs)], H, hsShut, fun _ h => h.pick [1] _ (by decide) (by kernel_rfl), fun _ h => h.pick [0] _ (by decide) (by kernel_rfl), ?_⟩
    refine s_one 4 rfl (by kernel_rfl) rfl ?_
    clear H
    intro v14 H
    refine x_load1 H 2 t 0 _ _ (.slice (some ⟨g, 0, none⟩) (List.length xs) cap) rfl (by kernel_rfl) (by kernel_rfl) rfl (by kernel_rfl) ?_
    refine x_nil ?_
    refine x_then ?_
    refine ⟨fun w' => Hs (fps [.blk t #[.slice (some ⟨g, 0, none⟩) (List.length xs) cap, .int .i64 ((room : Nat) : Int), .func (.func 103) #[] #[]] 228, .row (.slice (some ⟨g, 0, none⟩) (List.length xs) cap) 230 3 (List.length xs) (List.flatMap pairLB xs)]) w0 w' [.blk g1 #[.int .i64 v.1, .int .i64 v.2] 86], fun w' => Hs (fps [.blk t #[.slice (some ⟨g, 0, none⟩) (List.length xs) cap, .int .i64 ((room : Nat) : Int), .func (.func 103) #[] #[]] 228, .row (.slice (some ⟨g, 0, none⟩) (List.length xs) cap) 230 3 (List.length xs) (List.flatMap pairLB xs)]) w0 w' [.blk g4 #[.int .i64 k, .int .i64 v.1, .int .i64 v.2] 230, .blk g1 #[.int .i64 v.1, .int .i64 v.2] 86, .blk t #[.slice (some ⟨g, 0, none⟩) (List.length xs) cap, .int .i64 ((room : Nat) : Int), .func (.func 103) #[] #[]] 228, .row (.slice (some ⟨g, 0, none⟩) (List.length xs) cap) 230 3 (List.length xs) (List.flatMap pairLB xs)], H, hsShut, fun _ h => h.pick [1] _ (by decide) (by kernel_rfl), fun _ h => h.pick [0] _ (by decide) (by kernel_rfl), ?_⟩
    refine s_one 9 rfl (by kernel_rfl) rfl ?_
    clear H
    intro v15 H
    refine x_append H 3 (.slice (some ⟨g, 0, none⟩) (List.length xs) cap) 226 230 3 24 (List.length xs) (.agg #[.int .i64 0, .int .i64 0, .int .i64 0]) (List.flatMap pairLB xs) ⟨g4, 0, none⟩ 1 1 [.int .i64 k, .int .i64 v.1, .int .i64 v.2] rfl (by kernel_rfl) (by kernel_rfl) rfl (by decide) (by decide) rfl (fun j u hj => by rw [add_none]; exact cellOf (H.blk 0 rfl) (by simpa using hj)) (List.all_eq_true.1 (by kernel_rfl)) (by unfold maxLen; omega) (by omega) (by kernel_rfl) rfl (by kernel_rfl) ?_
    clear H
    intro v16 g5 c5 hc5 H
    rw [show (((List.length xs) + 1) : Nat) = (List.length (xs ++ [(k, v)])) from (by simp)] at H ⊢
    rw [show (List.flatMap pairLB xs) ++ [.int .i64 k, .int .i64 v.1, .int .i64 v.2] = (List.flatMap pairLB (xs ++ [(k, v)])) from (by rw [List.flatMap_append]; rfl)] at H
    replace H : Hs (fps [.blk t #[.slice (some ⟨g, 0, none⟩) (List.length xs) cap, .int .i64 ((room : Nat) : Int), .func (.func 103) #[] #[]] 228, .row (.slice (some ⟨g, 0, none⟩) (List.length xs) cap) 230 3 (List.length xs) (List.flatMap pairLB xs)]) w0 v16 [.blk g4 #[.int .i64 k, .int .i64 v.1, .int .i64 v.2] 230, .blk g1 #[.int .i64 v.1, .int .i64 v.2] 86, .blk t #[.slice (some ⟨g, 0, none⟩) (List.length xs) cap, .int .i64 ((room : Nat) : Int), .func (.func 103) #[] #[]] 228, .row (.slice (some ⟨g5, 0, none⟩) (List.length (xs ++ [(k, v)])) c5) 230 3 (List.length (xs ++ [(k, v)])) (List.flatMap pairLB (xs ++ [(k, v)]))] := H
    replace H := H.pick [1, 2, 3] [.blk g1 #[.int .i64 v.1, .int .i64 v.2] 86, .blk t #[.slice (some ⟨g, 0, none⟩) (List.length xs) cap, .int .i64 ((room : Nat) : Int), .func (.func 103) #[] #[]] 228, .row (.slice (some ⟨g5, 0, none⟩) (List.length (xs ++ [(k, v)])) c5) 230 3 (List.length (xs ++ [(k, v)])) (List.flatMap pairLB (xs ++ [(k, v)]))] (by decide) (by kernel_rfl)
    refine x_nil ?_
    refine x_then ?_
    refine ⟨fun w' => Hs (fps [.blk t #[.slice (some ⟨g, 0, none⟩) (List.length xs) cap, .int .i64 ((room : Nat) : Int), .func (.func 103) #[] #[]] 228, .row (.slice (some ⟨g, 0, none⟩) (List.length xs) cap) 230 3 (List.length xs) (List.flatMap pairLB xs)]) w0 w' [.blk g1 #[.int .i64 v.1, .int .i64 v.2] 86], fun w' => Hs (fps [.blk t #[.slice (some ⟨g, 0, none⟩) (List.length xs) cap, .int .i64 ((room : Nat) : Int), .func (.func 103) #[] #[]] 228, .row (.slice (some ⟨g, 0, none⟩) (List.length xs) cap) 230 3 (List.length xs) (List.flatMap pairLB xs)]) w0 w' [.blk g1 #[.int .i64 v.1, .int .i64 v.2] 86, .blk t #[.slice (some ⟨g, 0, none⟩) (List.length xs) cap, .int .i64 ((room : Nat) : Int), .func (.func 103) #[] #[]] 228, .row (.slice (some ⟨g5, 0, none⟩) (List.length (xs ++ [(k, v)])) c5) 230 3 (List.length (xs ++ [(k, v)])) (List.flatMap pairLB (xs ++ [(k, v)]))], H, hsShut, fun _ h => h.pick [0] _ (by decide) (by kernel_rfl), fun _ h => h.pick [0] _ (by decide) (by kernel_rfl), ?_⟩
    refine s_quiet 10 rfl (by kernel_rfl) (y_val (.pointer (some ⟨t, 0, none⟩)) (by kernel_rfl) (fun _ => by kernel_rfl)) ?_
    refine s_quiet 11 rfl (by kernel_rfl) (y_val (.pointer (some ⟨t, 0, none⟩)) (by kernel_rfl) (fun _ => by kernel_rfl)) ?_
    refine s_one 12 rfl (by kernel_rfl) rfl ?_
    clear H
    intro v17 H
    refine x_store (t := 226) (v := .slice (some ⟨g5, 0, none⟩) (List.length (xs ++ [(k, v)])) c5) H 1 t 0 _ #[.slice (some ⟨g5, 0, none⟩) (List.length (xs ++ [(k, v)])) c5, .int .i64 ((room : Nat) : Int), .func (.func 103) #[] #[]] 228 [.slice (some ⟨g5, 0, none⟩) (List.length (xs ++ [(k, v)])) c5] _ rfl rfl (by kernel_rfl) (by kernel_rfl) (by kernel_rfl) rfl (by kernel_rfl) (by kernel_rfl) (by kernel_rfl) (by kernel_rfl) ?_
    clear H
    intro v18 H
    refine x_nil ?_
    refine x_then ?_
    refine ⟨fun w' => Hs (fps [.blk t #[.slice (some ⟨g, 0, none⟩) (List.length xs) cap, .int .i64 ((room : Nat) : Int), .func (.func 103) #[] #[]] 228, .row (.slice (some ⟨g, 0, none⟩) (List.length xs) cap) 230 3 (List.length xs) (List.flatMap pairLB xs)]) w0 w' [.blk g1 #[.int .i64 v.1, .int .i64 v.2] 86], fun w' => Hs (fps [.blk t #[.slice (some ⟨g, 0, none⟩) (List.length xs) cap, .int .i64 ((room : Nat) : Int), .func (.func 103) #[] #[]] 228, .row (.slice (some ⟨g, 0, none⟩) (List.length xs) cap) 230 3 (List.length xs) (List.flatMap pairLB xs)]) w0 w' [.blk g1 #[.int .i64 v.1, .int .i64 v.2] 86, .blk t #[.slice (some ⟨g5, 0, none⟩) (List.length (xs ++ [(k, v)])) c5, .int .i64 ((room : Nat) : Int), .func (.func 103) #[] #[]] 228, .row (.slice (some ⟨g5, 0, none⟩) (List.length (xs ++ [(k, v)])) c5) 230 3 (List.length (xs ++ [(k, v)])) (List.flatMap pairLB (xs ++ [(k, v)]))], H, hsShut, fun _ h => h.pick [0] _ (by decide) (by kernel_rfl), fun _ h => h.pick [0] _ (by decide) (by kernel_rfl), ?_⟩
    refine s_done (by kernel_rfl) ?_
    clear H
    intro v19 H
    refine x_then ?_
    refine x_seq ?_
    refine x_region ?_
    refine x_val (.int .i64 0) (by kernel_rfl) rfl (by kernel_rfl) ?_
    refine x_val (.bool false) (by kernel_rfl) rfl (by kernel_rfl) ?_
    refine x_val (.int .i64 0) (by kernel_rfl) rfl (by kernel_rfl) ?_
    refine x_val (.bool false) (by kernel_rfl) rfl (by kernel_rfl) ?_
    refine x_nil ?_
    refine x_then ?_
    refine x_retc ?_
    refine x_ret (.tuple #[.int .i64 0, .bool false]) (by kernel_rfl) (by kernel_rfl) ?_
    replace H := H.pick [1, 2] [.blk t #[.slice (some ⟨g5, 0, none⟩) (List.length (xs ++ [(k, v)])) c5, .int .i64 ((room : Nat) : Int), .func (.func 103) #[] #[]] 228, .row (.slice (some ⟨g5, 0, none⟩) (List.length (xs ++ [(k, v)])) c5) 230 3 (List.length (xs ++ [(k, v)])) (List.flatMap pairLB (xs ++ [(k, v)]))] (by decide) (by kernel_rfl)
    exact ⟨_, rfl, H⟩

set_option maxRecDepth 100000 in
set_option maxHeartbeats 4000000 in
theorem Put_evictB {t : Nat} {xs : List PairB} {room : Nat} (k : Int) (v : Buk) {g cap : Nat} (hn : xs.length ≤ 4096) (hq : ¬ (fkB xs k) < xs.length) (hr : xs.length = room) (h1 : 1 ≤ room) (w0 : World) (H0 : Hs (fps [.blk t #[.slice (some ⟨g, 0, none⟩) (List.length xs) cap, .int .i64 ((room : Nat) : Int), .func (.func 103) #[] #[]] 228, .row (.slice (some ⟨g, 0, none⟩) (List.length xs) cap) 230 3 (List.length xs) (List.flatMap pairLB xs)]) w0 w0 [.blk t #[.slice (some ⟨g, 0, none⟩) (List.length xs) cap, .int .i64 ((room : Nat) : Int), .func (.func 103) #[] #[]] 228, .row (.slice (some ⟨g, 0, none⟩) (List.length xs) cap) 230 3 (List.length xs) (List.flatMap pairLB xs)]) :
    Calls Try.prog 106 #[.pointer (some ⟨t, 0, none⟩), .int .i64 k, .agg #[.int .i64 v.1, .int .i64 v.2]] w0 fun e w' => ∃ sv', e = .returned (.tuple #[.int .i64 ((xs.getD ((ltB xs xs.length).1) (0, 0, 0)).1), .bool true]) ∧ Hs (fps [.blk t #[.slice (some ⟨g, 0, none⟩) (List.length xs) cap, .int .i64 ((room : Nat) : Int), .func (.func 103) #[] #[]] 228, .row (.slice (some ⟨g, 0, none⟩) (List.length xs) cap) 230 3 (List.length xs) (List.flatMap pairLB xs)]) w0 w' [.blk t #[sv', .int .i64 ((room : Nat) : Int), .func (.func 103) #[] #[]] 228, .row (sv') 230 3 (List.length ((xs.eraseIdx (ltB xs xs.length).1) ++ [(k, v)])) (List.flatMap pairLB ((xs.eraseIdx (ltB xs xs.length).1) ++ [(k, v)]))] := by
  refine x_enter Try.func106 rfl #[.pointer (some ⟨t, 0, none⟩), .int .i64 k, .agg #[.int .i64 v.1, .int .i64 v.2], undef, undef, undef, undef, undef, undef, undef, undef, undef, undef, undef, undef, undef, undef, undef, undef, undef, undef, undef, undef, undef, undef, undef, undef, undef, undef, undef, undef, undef, undef, undef, undef, undef, undef, undef, undef, undef, undef, undef, undef, undef, undef, undef, undef, undef, undef, undef, undef] (by kernel_rfl) ?_
  have H := H0
  have q1 : decide ((((List.length xs) : Nat) : Int) = ((room : Nat) : Int)) = true := by simp; omega
  have hl : (ltB xs xs.length).1 < xs.length := lt_ltB xs _ (by omega)
  refine x_seq ?_
  refine x_region ?_
  refine x_box H #[.int .i64 v.1, .int .i64 v.2] 86 (by kernel_rfl) rfl (by kernel_rfl) ?_
  clear H
  intro v1 g1 H
  refine x_val (.int .i64 0) (by kernel_rfl) rfl (by kernel_rfl) ?_
  refine x_val (.bool false) (by kernel_rfl) rfl (by kernel_rfl) ?_
  refine x_nil ?_
  refine x_then ?_
  refine x_seq ?_
  refine x_seq ?_
  refine x_region ?_
  refine x_val (.pointer (some ⟨t, 0, none⟩)) (by kernel_rfl) rfl (by kernel_rfl) ?_
  refine x_val (.int .i64 k) (by kernel_rfl) rfl (by kernel_rfl) ?_
  refine x_callB (.int .i64 (-1)) H (by kernel_rfl) rfl (by kernel_rfl) (by have h := find_B (room := room) k hn _ (H.roOf [1, 2] [.blk t #[.slice (some ⟨g, 0, none⟩) (List.length xs) cap, .int .i64 ((room : Nat) : Int), .func (.func 103) #[] #[]] 228, .row (.slice (some ⟨g, 0, none⟩) (List.length xs) cap) 230 3 (List.length xs) (List.flatMap pairLB xs)] (by kernel_rfl)); rw [show findB xs k = -1 by unfold findB; rw [if_neg hq]] at h; exact h) ?_
  clear H
  intro v2 H
  refine x_val (.int .i64 (-1)) (by kernel_rfl) rfl (by kernel_rfl) ?_
  refine x_nil ?_
  refine x_then ?_
  refine x_seq ?_
  refine x_region ?_
  refine x_val (.int .i64 (-1)) (by kernel_rfl) rfl (by kernel_rfl) ?_
  refine x_val (.bool false) (by kernel_rfl) rfl (by kernel_rfl) ?_
  refine x_nil ?_
  refine x_then ?_
  refine x_f (by kernel_rfl) ?_
  refine x_skipc ?_
  refine x_then ?_
  refine x_seq ?_
  refine x_seq ?_
  refine x_region_whole (fun w' => Hs (fps [.blk t #[.slice (some ⟨g, 0, none⟩) (List.length xs) cap, .int .i64 ((room : Nat) : Int), .func (.func 103) #[] #[]] 228, .row (.slice (some ⟨g, 0, none⟩) (List.length xs) cap) 230 3 (List.length xs) (List.flatMap pairLB xs)]) w0 w' [.blk g1 #[.int .i64 v.1, .int .i64 v.2] 86, .blk t #[.slice (some ⟨g, 0, none⟩) (List.length xs) cap, .int .i64 ((room : Nat) : Int), .func (.func 103) #[] #[]] 228, .row (.slice (some ⟨g, 0, none⟩) (List.length xs) cap) 230 3 (List.length xs) (List.flatMap pairLB xs)]) (by kernel_rfl) (by kernel_rfl) (by kernel_rfl) H.drew ?_
  refine q_val (.pointer (some ⟨t, 0, none⟩)) (by kernel_rfl) (fun _ => by kernel_rfl) ?_
  refine q_val (.pointer (some ⟨t, 0, none⟩)) (by kernel_rfl) (fun _ => by kernel_rfl) ?_
  refine q_val (.pointer (some ⟨t, 0, none⟩)) (by kernel_rfl) (fun _ => by kernel_rfl) ?_
  refine q_load1 1 t 0 #[.slice (some ⟨g, 0, none⟩) (List.length xs) cap, .int .i64 ((room : Nat) : Int), .func (.func 103) #[] #[]] 228 (.slice (some ⟨g, 0, none⟩) (List.length xs) cap) (by kernel_rfl) (by kernel_rfl) (by kernel_rfl) (fun _ => by kernel_rfl) ?_
  refine q_val (.int .i64 (((List.length xs) : Nat) : Int)) (by kernel_rfl) (fun _ => by kernel_rfl) ?_
  refine q_val (.pointer (some ⟨t, 0, none⟩)) (by kernel_rfl) (fun _ => by kernel_rfl) ?_
  refine q_val (.pointer (some ⟨t, 0, none⟩)) (by kernel_rfl) (fun _ => by kernel_rfl) ?_
  refine q_val (.pointer (some ⟨t, 1, none⟩)) (by kernel_rfl) (fun _ => by kernel_rfl) ?_
  refine q_load1 1 t 1 #[.slice (some ⟨g, 0, none⟩) (List.length xs) cap, .int .i64 ((room : Nat) : Int), .func (.func 103) #[] #[]] 228 (.int .i64 ((room : Nat) : Int)) (by kernel_rfl) (by kernel_rfl) (by kernel_rfl) (fun _ => by kernel_rfl) ?_
  refine q_val (.bool (decide ((((List.length xs) : Nat) : Int) = ((room : Nat) : Int)))) (by kernel_rfl) (fun _ => by kernel_rfl) ?_
  refine q_nil ?_
  clear H
  intro v3 H
  refine x_then ?_
  rw [q1]
  refine x_t (by kernel_rfl) ?_
  refine x_region ?_
  refine x_val (.pointer (some ⟨t, 0, none⟩)) (by kernel_rfl) rfl (by kernel_rfl) ?_
  refine x_val (.pointer (some ⟨t, 0, none⟩)) (by kernel_rfl) rfl (by kernel_rfl) ?_
  refine x_callB (.int .i64 ((((ltB xs xs.length).1) : Nat) : Int)) H (by kernel_rfl) rfl (by kernel_rfl) (lightest_B hn _ (H.roOf [1, 2] [.blk t #[.slice (some ⟨g, 0, none⟩) (List.length xs) cap, .int .i64 ((room : Nat) : Int), .func (.func 103) #[] #[]] 228, .row (.slice (some ⟨g, 0, none⟩) (List.length xs) cap) 230 3 (List.length xs) (List.flatMap pairLB xs)] (by kernel_rfl))) ?_
  clear H
  intro v4 H
  refine x_callH (.int .i64 ((xs.getD ((ltB xs xs.length).1) (0, 0, 0)).1)) [.blk t #[.slice (some ⟨g, 0, none⟩) (List.length (xs.eraseIdx (ltB xs xs.length).1)) cap, .int .i64 ((room : Nat) : Int), .func (.func 103) #[] #[]] 228, .row (.slice (some ⟨g, 0, none⟩) (List.length (xs.eraseIdx (ltB xs xs.length).1)) cap) 230 3 (List.length (xs.eraseIdx (ltB xs xs.length).1)) (List.flatMap pairLB (xs.eraseIdx (ltB xs xs.length).1)), .blk g1 #[.int .i64 v.1, .int .i64 v.2] 86] (by kernel_rfl) rfl (by kernel_rfl) (Hs.use (A := [.blk t #[.slice (some ⟨g, 0, none⟩) (List.length xs) cap, .int .i64 ((room : Nat) : Int), .func (.func 103) #[] #[]] 228, .row (.slice (some ⟨g, 0, none⟩) (List.length xs) cap) 230 3 (List.length xs) (List.flatMap pairLB xs)]) (R := [.blk g1 #[.int .i64 v.1, .int .i64 v.2] 86]) (H.pick [1, 2, 0] _ (by decide) (by kernel_rfl)) (fun h => remove_B ((ltB xs xs.length).1) hl hn _ h)) ?_
  clear H
  intro v5 H
  refine x_val (.int .i64 ((xs.getD ((ltB xs xs.length).1) (0, 0, 0)).1)) (by kernel_rfl) rfl (by kernel_rfl) ?_
  refine x_val (.bool true) (by kernel_rfl) rfl (by kernel_rfl) ?_
  refine x_nil ?_
  refine x_then ?_
  refine x_seq ?_
  refine x_region_s 13 (fun w' => Hs (fps [.blk t #[.slice (some ⟨g, 0, none⟩) (List.length xs) cap, .int .i64 ((room : Nat) : Int), .func (.func 103) #[] #[]] 228, .row (.slice (some ⟨g, 0, none⟩) (List.length xs) cap) 230 3 (List.length xs) (List.flatMap pairLB xs)]) w0 w' [.blk g1 #[.int .i64 v.1, .int .i64 v.2] 86]) (fun w' => Hs (fps [.blk t #[.slice (some ⟨g, 0, none⟩) (List.length xs) cap, .int .i64 ((room : Nat) : Int), .func (.func 103) #[] #[]] 228, .row (.slice (some ⟨g, 0, none⟩) (List.length xs) cap) 230 3 (List.length xs) (List.flatMap pairLB xs)]) w0 w' [.blk t #[.slice (some ⟨g, 0, none⟩) (List.length (xs.eraseIdx (ltB xs xs.length).1)) cap, .int .i64 ((room : Nat) : Int), .func (.func 103) #[] #[]] 228, .row (.slice (some ⟨g, 0, none⟩) (List.length (xs.eraseIdx (ltB xs xs.length).1)) cap) 230 3 (List.length (xs.eraseIdx (ltB xs xs.length).1)) (List.flatMap pairLB (xs.eraseIdx (ltB xs xs.length).1)), .blk g1 #[.int .i64 v.1, .int .i64 v.2] 86]) (by kernel_rfl) (by kernel_rfl) (by kernel_rfl) hsShut (fun _ h => h.pick [2] _ (by decide) (by kernel_rfl)) H.drew ?_
  refine s_quiet 0 rfl (by kernel_rfl) (y_val (.pointer (some ⟨t, 0, none⟩)) (by kernel_rfl) (fun _ => by kernel_rfl)) ?_
  refine s_quiet 1 rfl (by kernel_rfl) (y_val (.pointer (some ⟨t, 0, none⟩)) (by kernel_rfl) (fun _ => by kernel_rfl)) ?_
  refine s_quiet 2 rfl (by kernel_rfl) (y_val (.pointer (some ⟨t, 0, none⟩)) (by kernel_rfl) (fun _ => by kernel_rfl)) ?_
  refine s_quiet 3 rfl (by kernel_rfl) (y_val (.pointer (some ⟨t, 0, none⟩)) (by kernel_rfl) (fun _ => by kernel_rfl)) ?_
  refine s_quiet 5 rfl (by kernel_rfl) (y_val (.int .i64 k) (by kernel_rfl) (fun _ => by kernel_rfl)) ?_
  refine s_quiet 6 rfl (by kernel_rfl) (y_loadn (t := 86) 0 g1 0 #[.int .i64 v.1, .int .i64 v.2] 86 [.int .i64 v.1, .int .i64 v.2] (by kernel_rfl) (by kernel_rfl) (by kernel_rfl) (by kernel_rfl) (by kernel_rfl)) ?_
  refine s_quiet 7 rfl (by kernel_rfl) (y_val (.agg #[.int .i64 k, .int .i64 v.1, .int .i64 v.2]) (by kernel_rfl) (fun _ => by kernel_rfl)) ?_
  refine s_two 4 8 rfl rfl (by kernel_rfl) rfl rfl ?_ ?_
  · skip
    clear H
    intro v6 H
    refine x_load1 H 0 t 0 _ _ (.slice (some ⟨g, 0, none⟩) (List.length (xs.eraseIdx (ltB xs xs.length).1)) cap) rfl (by kernel_rfl) (by kernel_rfl) rfl (by kernel_rfl) ?_
    refine x_nil ?_
    refine x_then ?_
    refine ⟨fun w' => Hs (fps [.blk t #[.slice (some ⟨g, 0, none⟩) (List.length xs) cap, .int .i64 ((room : Nat) : Int), .func (.func 103) #[] #[]] 228, .row (.slice (some ⟨g, 0, none⟩) (List.length xs) cap) 230 3 (List.length xs) (List.flatMap pairLB xs)]) w0 w' [.blk g1 #[.int .i64 v.1, .int .i64 v.2] 86], fun w' => Hs (fps [.blk t #[.slice (some ⟨g, 0, none⟩) (List.length xs) cap, .int .i64 ((room : Nat) : Int), .func (.func 103) #[] #[]] 228, .row (.slice (some ⟨g, 0, none⟩) (List.length xs) cap) 230 3 (List.length xs) (List.flatMap pairLB xs)]) w0 w' [.blk t #[.slice (some ⟨g, 0, none⟩) (List.length (xs.eraseIdx (ltB xs xs.length).1)) cap, .int .i64 ((room : Nat) : Int), .func (.func 103) #[] #[]] 228, .row (.slice (some ⟨g, 0, none⟩) (List.length (xs.eraseIdx (ltB xs xs.length).1)) cap) 230 3 (List.length (xs.eraseIdx (ltB xs xs.length).1)) (List.flatMap pairLB (xs.eraseIdx (ltB xs xs.length).1)), .blk g1 #[.int .i64 v.1, .int .i64 v.2] 86], H, hsShut, fun _ h => h.pick [2] _ (by decide) (by kernel_rfl), fun _ h => h.pick [0] _ (by decide) (by kernel_rfl), ?_⟩
    refine s_one 8 rfl (by kernel_rfl) rfl ?_
    clear H
    intro v7 H
    refine x_box' H #[.int .i64 k, .int .i64 v.1, .int .i64 v.2] 230 1 (by kernel_rfl) rfl (by kernel_rfl) ?_
    clear H
    intro v8 g2 H
    refine x_nil ?_
    refine x_then ?_
    refine ⟨fun w' => Hs (fps [.blk t #[.slice (some ⟨g, 0, none⟩) (List.length xs) cap, .int .i64 ((room : Nat) : Int), .func (.func 103) #[] #[]] 228, .row (.slice (some ⟨g, 0, none⟩) (List.length xs) cap) 230 3 (List.length xs) (List.flatMap pairLB xs)]) w0 w' [.blk g1 #[.int .i64 v.1, .int .i64 v.2] 86], fun w' => Hs (fps [.blk t #[.slice (some ⟨g, 0, none⟩) (List.length xs) cap, .int .i64 ((room : Nat) : Int), .func (.func 103) #[] #[]] 228, .row (.slice (some ⟨g, 0, none⟩) (List.length xs) cap) 230 3 (List.length xs) (List.flatMap pairLB xs)]) w0 w' [.blk g2 #[.int .i64 k, .int .i64 v.1, .int .i64 v.2] 230, .blk t #[.slice (some ⟨g, 0, none⟩) (List.length (xs.eraseIdx (ltB xs xs.length).1)) cap, .int .i64 ((room : Nat) : Int), .func (.func 103) #[] #[]] 228, .row (.slice (some ⟨g, 0, none⟩) (List.length (xs.eraseIdx (ltB xs xs.length).1)) cap) 230 3 (List.length (xs.eraseIdx (ltB xs xs.length).1)) (List.flatMap pairLB (xs.eraseIdx (ltB xs xs.length).1)), .blk g1 #[.int .i64 v.1, .int .i64 v.2] 86], H, hsShut, fun _ h => h.pick [3] _ (by decide) (by kernel_rfl), fun _ h => h.pick [0] _ (by decide) (by kernel_rfl), ?_⟩
    refine s_one 9 rfl (by kernel_rfl) rfl ?_
    clear H
    intro v9 H
    refine x_append H 2 (.slice (some ⟨g, 0, none⟩) (List.length (xs.eraseIdx (ltB xs xs.length).1)) cap) 226 230 3 24 (List.length (xs.eraseIdx (ltB xs xs.length).1)) (.agg #[.int .i64 0, .int .i64 0, .int .i64 0]) (List.flatMap pairLB (xs.eraseIdx (ltB xs xs.length).1)) ⟨g2, 0, none⟩ 1 1 [.int .i64 k, .int .i64 v.1, .int .i64 v.2] rfl (by kernel_rfl) (by kernel_rfl) rfl (by decide) (by decide) rfl (fun j u hj => by rw [add_none]; exact cellOf (H.blk 0 rfl) (by simpa using hj)) (List.all_eq_true.1 (by kernel_rfl)) (by rw [List.length_eraseIdx]; unfold maxLen; split <;> omega) (by rw [List.length_eraseIdx]; split <;> omega) (by kernel_rfl) rfl (by kernel_rfl) ?_
    clear H
    intro v10 g3 c3 hc3 H
    rw [show (((List.length (xs.eraseIdx (ltB xs xs.length).1)) + 1) : Nat) = (List.length ((xs.eraseIdx (ltB xs xs.length).1) ++ [(k, v)])) from (by simp)] at H ⊢
    rw [show (List.flatMap pairLB (xs.eraseIdx (ltB xs xs.length).1)) ++ [.int .i64 k, .int .i64 v.1, .int .i64 v.2] = (List.flatMap pairLB ((xs.eraseIdx (ltB xs xs.length).1) ++ [(k, v)])) from (by rw [List.flatMap_append]; rfl)] at H
    replace H : Hs (fps [.blk t #[.slice (some ⟨g, 0, none⟩) (List.length xs) cap, .int .i64 ((room : Nat) : Int), .func (.func 103) #[] #[]] 228, .row (.slice (some ⟨g, 0, none⟩) (List.length xs) cap) 230 3 (List.length xs) (List.flatMap pairLB xs)]) w0 v10 [.blk g2 #[.int .i64 k, .int .i64 v.1, .int .i64 v.2] 230, .blk t #[.slice (some ⟨g, 0, none⟩) (List.length (xs.eraseIdx (ltB xs xs.length).1)) cap, .int .i64 ((room : Nat) : Int), .func (.func 103) #[] #[]] 228, .row (.slice (some ⟨g3, 0, none⟩) (List.length ((xs.eraseIdx (ltB xs xs.length).1) ++ [(k, v)])) c3) 230 3 (List.length ((xs.eraseIdx (ltB xs xs.length).1) ++ [(k, v)])) (List.flatMap pairLB ((xs.eraseIdx (ltB xs xs.length).1) ++ [(k, v)])), .blk g1 #[.int .i64 v.1, .int .i64 v.2] 86] := H
    replace H := H.pick [1, 2, 3] [.blk t #[.slice (some ⟨g, 0, none⟩) (List.length (xs.eraseIdx (ltB xs xs.length).1)) cap, .int .i64 ((room : Nat) : Int), .func (.func 103) #[] #[]] 228, .row (.slice (some ⟨g3, 0, none⟩) (List.length ((xs.eraseIdx (ltB xs xs.length).1) ++ [(k, v)])) c3) 230 3 (List.length ((xs.eraseIdx (ltB xs xs.length).1) ++ [(k, v)])) (List.flatMap pairLB ((xs.eraseIdx (ltB xs xs.length).1) ++ [(k, v)])), .blk g1 #[.int .i64 v.1, .int .i64 v.2] 86] (by decide) (by kernel_rfl)
    refine x_nil ?_
    refine x_then ?_
    refine ⟨fun w' => Hs (fps [.blk t #[.slice (some ⟨g, 0, none⟩) (List.length xs) cap, .int .i64 ((room : Nat) : Int), .func (.func 103) #[] #[]] 228, .row (.slice (some ⟨g, 0, none⟩) (List.length xs) cap) 230 3 (List.length xs) (List.flatMap pairLB xs)]) w0 w' [.row (.slice (some ⟨g3, 0, none⟩) (List.length ((xs.eraseIdx (ltB xs xs.length).1) ++ [(k, v)])) c3) 230 3 (List.length ((xs.eraseIdx (ltB xs xs.length).1) ++ [(k, v)])) (List.flatMap pairLB ((xs.eraseIdx (ltB xs xs.length).1) ++ [(k, v)])), .blk g1 #[.int .i64 v.1, .int .i64 v.2] 86], fun w' => Hs (fps [.blk t #[.slice (some ⟨g, 0, none⟩) (List.length xs) cap, .int .i64 ((room : Nat) : Int), .func (.func 103) #[] #[]] 228, .row (.slice (some ⟨g, 0, none⟩) (List.length xs) cap) 230 3 (List.length xs) (List.flatMap pairLB xs)]) w0 w' [.blk t #[.slice (some ⟨g, 0, none⟩) (List.length (xs.eraseIdx (ltB xs xs.length).1)) cap, .int .i64 ((room : Nat) : Int), .func (.func 103) #[] #[]] 228, .row (.slice (some ⟨g3, 0, none⟩) (List.length ((xs.eraseIdx (ltB xs xs.length).1) ++ [(k, v)])) c3) 230 3 (List.length ((xs.eraseIdx (ltB xs xs.length).1) ++ [(k, v)])) (List.flatMap pairLB ((xs.eraseIdx (ltB xs xs.length).1) ++ [(k, v)])), .blk g1 #[.int .i64 v.1, .int .i64 v.2] 86], H, hsShut, fun _ h => h.pick [1, 2] _ (by decide) (by kernel_rfl), fun _ h => h.pick [1] _ (by decide) (by kernel_rfl), ?_⟩
    refine s_quiet 10 rfl (by kernel_rfl) (y_val (.pointer (some ⟨t, 0, none⟩)) (by kernel_rfl) (fun _ => by kernel_rfl)) ?_
    refine s_quiet 11 rfl (by kernel_rfl) (y_val (.pointer (some ⟨t, 0, none⟩)) (by kernel_rfl) (fun _ => by kernel_rfl)) ?_
    refine s_one 12 rfl (by kernel_rfl) rfl ?_
    clear H
    intro v11 H
    refine x_store (t := 226) (v := .slice (some ⟨g3, 0, none⟩) (List.length ((xs.eraseIdx (ltB xs xs.length).1) ++ [(k, v)])) c3) H 0 t 0 _ #[.slice (some ⟨g3, 0, none⟩) (List.length ((xs.eraseIdx (ltB xs xs.length).1) ++ [(k, v)])) c3, .int .i64 ((room : Nat) : Int), .func (.func 103) #[] #[]] 228 [.slice (some ⟨g3, 0, none⟩) (List.length ((xs.eraseIdx (ltB xs xs.length).1) ++ [(k, v)])) c3] _ rfl rfl (by kernel_rfl) (by kernel_rfl) (by kernel_rfl) rfl (by kernel_rfl) (by kernel_rfl) (by kernel_rfl) (by kernel_rfl) ?_
    clear H
    intro v12 H
    refine x_nil ?_
    refine x_then ?_
    refine ⟨fun w' => Hs (fps [.blk t #[.slice (some ⟨g, 0, none⟩) (List.length xs) cap, .int .i64 ((room : Nat) : Int), .func (.func 103) #[] #[]] 228, .row (.slice (some ⟨g, 0, none⟩) (List.length xs) cap) 230 3 (List.length xs) (List.flatMap pairLB xs)]) w0 w' [.blk t #[.slice (some ⟨g3, 0, none⟩) (List.length ((xs.eraseIdx (ltB xs xs.length).1) ++ [(k, v)])) c3, .int .i64 ((room : Nat) : Int), .func (.func 103) #[] #[]] 228, .row (.slice (some ⟨g3, 0, none⟩) (List.length ((xs.eraseIdx (ltB xs xs.length).1) ++ [(k, v)])) c3) 230 3 (List.length ((xs.eraseIdx (ltB xs xs.length).1) ++ [(k, v)])) (List.flatMap pairLB ((xs.eraseIdx (ltB xs xs.length).1) ++ [(k, v)])), .blk g1 #[.int .i64 v.1, .int .i64 v.2] 86], fun w' => Hs (fps [.blk t #[.slice (some ⟨g, 0, none⟩) (List.length xs) cap, .int .i64 ((room : Nat) : Int), .func (.func 103) #[] #[]] 228, .row (.slice (some ⟨g, 0, none⟩) (List.length xs) cap) 230 3 (List.length xs) (List.flatMap pairLB xs)]) w0 w' [.blk t #[.slice (some ⟨g3, 0, none⟩) (List.length ((xs.eraseIdx (ltB xs xs.length).1) ++ [(k, v)])) c3, .int .i64 ((room : Nat) : Int), .func (.func 103) #[] #[]] 228, .row (.slice (some ⟨g3, 0, none⟩) (List.length ((xs.eraseIdx (ltB xs xs.length).1) ++ [(k, v)])) c3) 230 3 (List.length ((xs.eraseIdx (ltB xs xs.length).1) ++ [(k, v)])) (List.flatMap pairLB ((xs.eraseIdx (ltB xs xs.length).1) ++ [(k, v)])), .blk g1 #[.int .i64 v.1, .int .i64 v.2] 86], H, hsShut, fun _ h => h.pick [0, 1, 2] _ (by decide) (by kernel_rfl), fun _ h => h.pick [1, 2] _ (by decide) (by kernel_rfl), ?_⟩
    refine s_done (by kernel_rfl) ?_
    clear H
    intro v13 H
    refine x_then ?_
    refine x_seq ?_
    refine x_region ?_
    refine x_val (.int .i64 ((xs.getD ((ltB xs xs.length).1) (0, 0, 0)).1)) (by kernel_rfl) rfl (by kernel_rfl) ?_
    refine x_val (.bool true) (by kernel_rfl) rfl (by kernel_rfl) ?_
    refine x_val (.int .i64 ((xs.getD ((ltB xs xs.length).1) (0, 0, 0)).1)) (by kernel_rfl) rfl (by kernel_rfl) ?_
    refine x_val (.bool true) (by kernel_rfl) rfl (by kernel_rfl) ?_
    refine x_nil ?_
    refine x_then ?_
    refine x_retc ?_
    refine x_ret (.tuple #[.int .i64 ((xs.getD ((ltB xs xs.length).1) (0, 0, 0)).1), .bool true]) (by kernel_rfl) (by kernel_rfl) ?_
    replace H := H.pick [0, 1] [.blk t #[.slice (some ⟨g3, 0, none⟩) (List.length ((xs.eraseIdx (ltB xs xs.length).1) ++ [(k, v)])) c3, .int .i64 ((room : Nat) : Int), .func (.func 103) #[] #[]] 228, .row (.slice (some ⟨g3, 0, none⟩) (List.length ((xs.eraseIdx (ltB xs xs.length).1) ++ [(k, v)])) c3) 230 3 (List.length ((xs.eraseIdx (ltB xs xs.length).1) ++ [(k, v)])) (List.flatMap pairLB ((xs.eraseIdx (ltB xs xs.length).1) ++ [(k, v)]))] (by decide) (by kernel_rfl)
    exact ⟨_, rfl, H⟩
  · skip
    clear H
    intro v14 H
    refine x_box' H #[.int .i64 k, .int .i64 v.1, .int .i64 v.2] 230 1 (by kernel_rfl) rfl (by kernel_rfl) ?_
    clear H
    intro v15 g4 H
    refine x_nil ?_
    refine x_then ?_
    refine ⟨fun w' => Hs (fps [.blk t #[.slice (some ⟨g, 0, none⟩) (List.length xs) cap, .int .i64 ((room : Nat) : Int), .func (.func 103) #[] #[]] 228, .row (.slice (some ⟨g, 0, none⟩) (List.length xs) cap) 230 3 (List.length xs) (List.flatMap pairLB xs)]) w0 w' [.blk g1 #[.int .i64 v.1, .int .i64 v.2] 86], fun w' => Hs (fps [.blk t #[.slice (some ⟨g, 0, none⟩) (List.length xs) cap, .int .i64 ((room : Nat) : Int), .func (.func 103) #[] #[]] 228, .row (.slice (some ⟨g, 0, none⟩) (List.length xs) cap) 230 3 (List.length xs) (List.flatMap pairLB xs)]) w0 w' [.blk g4 #[.int .i64 k, .int .i64 v.1, .int .i64 v.2] 230, .blk t #[.slice (some ⟨g, 0, none⟩) (List.length (xs.eraseIdx (ltB xs xs.length).1)) cap, .int .i64 ((room : Nat) : Int), .func (.func 103) #[] #[]] 228, .row (.slice (some ⟨g, 0, none⟩) (List.length (xs.eraseIdx (ltB xs xs.length).1)) cap) 230 3 (List.length (xs.eraseIdx (ltB xs xs.length).1)) (List.flatMap pairLB (xs.eraseIdx (ltB xs xs.length).1)), .blk g1 #[.int .i64 v.1, .int .i64 v.2] 86], H, hsShut, fun _ h => h.pick [3] _ (by decide) (by kernel_rfl), fun _ h => h.pick [0] _ (by decide) (by kernel_rfl), ?_⟩
    refine s_one 4 rfl (by kernel_rfl) rfl ?_
    clear H
    intro v16 H
    refine x_load1 H 1 t 0 _ _ (.slice (some ⟨g, 0, none⟩) (List.length (xs.eraseIdx (ltB xs xs.length).1)) cap) rfl (by kernel_rfl) (by kernel_rfl) rfl (by kernel_rfl) ?_
    refine x_nil ?_
    refine x_then ?_
    refine ⟨fun w' => Hs (fps [.blk t #[.slice (some ⟨g, 0, none⟩) (List.length xs) cap, .int .i64 ((room : Nat) : Int), .func (.func 103) #[] #[]] 228, .row (.slice (some ⟨g, 0, none⟩) (List.length xs) cap) 230 3 (List.length xs) (List.flatMap pairLB xs)]) w0 w' [.blk g1 #[.int .i64 v.1, .int .i64 v.2] 86], fun w' => Hs (fps [.blk t #[.slice (some ⟨g, 0, none⟩) (List.length xs) cap, .int .i64 ((room : Nat) : Int), .func (.func 103) #[] #[]] 228, .row (.slice (some ⟨g, 0, none⟩) (List.length xs) cap) 230 3 (List.length xs) (List.flatMap pairLB xs)]) w0 w' [.blk g4 #[.int .i64 k, .int .i64 v.1, .int .i64 v.2] 230, .blk t #[.slice (some ⟨g, 0, none⟩) (List.length (xs.eraseIdx (ltB xs xs.length).1)) cap, .int .i64 ((room : Nat) : Int), .func (.func 103) #[] #[]] 228, .row (.slice (some ⟨g, 0, none⟩) (List.length (xs.eraseIdx (ltB xs xs.length).1)) cap) 230 3 (List.length (xs.eraseIdx (ltB xs xs.length).1)) (List.flatMap pairLB (xs.eraseIdx (ltB xs xs.length).1)), .blk g1 #[.int .i64 v.1, .int .i64 v.2] 86], H, hsShut, fun _ h => h.pick [3] _ (by decide) (by kernel_rfl), fun _ h => h.pick [0] _ (by decide) (by kernel_rfl), ?_⟩
    refine s_one 9 rfl (by kernel_rfl) rfl ?_
    clear H
    intro v17 H
    refine x_append H 2 (.slice (some ⟨g, 0, none⟩) (List.length (xs.eraseIdx (ltB xs xs.length).1)) cap) 226 230 3 24 (List.length (xs.eraseIdx (ltB xs xs.length).1)) (.agg #[.int .i64 0, .int .i64 0, .int .i64 0]) (List.flatMap pairLB (xs.eraseIdx (ltB xs xs.length).1)) ⟨g4, 0, none⟩ 1 1 [.int .i64 k, .int .i64 v.1, .int .i64 v.2] rfl (by kernel_rfl) (by kernel_rfl) rfl (by decide) (by decide) rfl (fun j u hj => by rw [add_none]; exact cellOf (H.blk 0 rfl) (by simpa using hj)) (List.all_eq_true.1 (by kernel_rfl)) (by rw [List.length_eraseIdx]; unfold maxLen; split <;> omega) (by rw [List.length_eraseIdx]; split <;> omega) (by kernel_rfl) rfl (by kernel_rfl) ?_
    clear H
    intro v18 g5 c5 hc5 H
    rw [show (((List.length (xs.eraseIdx (ltB xs xs.length).1)) + 1) : Nat) = (List.length ((xs.eraseIdx (ltB xs xs.length).1) ++ [(k, v)])) from (by simp)] at H ⊢
    rw [show (List.flatMap pairLB (xs.eraseIdx (ltB xs xs.length).1)) ++ [.int .i64 k, .int .i64 v.1, .int .i64 v.2] = (List.flatMap pairLB ((xs.eraseIdx (ltB xs xs.length).1) ++ [(k, v)])) from (by rw [List.flatMap_append]; rfl)] at H
    replace H : Hs (fps [.blk t #[.slice (some ⟨g, 0, none⟩) (List.length xs) cap, .int .i64 ((room : Nat) : Int), .func (.func 103) #[] #[]] 228, .row (.slice (some ⟨g, 0, none⟩) (List.length xs) cap) 230 3 (List.length xs) (List.flatMap pairLB xs)]) w0 v18 [.blk g4 #[.int .i64 k, .int .i64 v.1, .int .i64 v.2] 230, .blk t #[.slice (some ⟨g, 0, none⟩) (List.length (xs.eraseIdx (ltB xs xs.length).1)) cap, .int .i64 ((room : Nat) : Int), .func (.func 103) #[] #[]] 228, .row (.slice (some ⟨g5, 0, none⟩) (List.length ((xs.eraseIdx (ltB xs xs.length).1) ++ [(k, v)])) c5) 230 3 (List.length ((xs.eraseIdx (ltB xs xs.length).1) ++ [(k, v)])) (List.flatMap pairLB ((xs.eraseIdx (ltB xs xs.length).1) ++ [(k, v)])), .blk g1 #[.int .i64 v.1, .int .i64 v.2] 86] := H
    replace H := H.pick [1, 2, 3] [.blk t #[.slice (some ⟨g, 0, none⟩) (List.length (xs.eraseIdx (ltB xs xs.length).1)) cap, .int .i64 ((room : Nat) : Int), .func (.func 103) #[] #[]] 228, .row (.slice (some ⟨g5, 0, none⟩) (List.length ((xs.eraseIdx (ltB xs xs.length).1) ++ [(k, v)])) c5) 230 3 (List.length ((xs.eraseIdx (ltB xs xs.length).1) ++ [(k, v)])) (List.flatMap pairLB ((xs.eraseIdx (ltB xs xs.length).1) ++ [(k, v)])), .blk g1 #[.int .i64 v.1, .int .i64 v.2] 86] (by decide) (by kernel_rfl)
    refine x_nil ?_
    refine x_then ?_
    refine ⟨fun w' => Hs (fps [.blk t #[.slice (some ⟨g, 0, none⟩) (List.length xs) cap, .int .i64 ((room : Nat) : Int), .func (.func 103) #[] #[]] 228, .row (.slice (some ⟨g, 0, none⟩) (List.length xs) cap) 230 3 (List.length xs) (List.flatMap pairLB xs)]) w0 w' [.blk g1 #[.int .i64 v.1, .int .i64 v.2] 86], fun w' => Hs (fps [.blk t #[.slice (some ⟨g, 0, none⟩) (List.length xs) cap, .int .i64 ((room : Nat) : Int), .func (.func 103) #[] #[]] 228, .row (.slice (some ⟨g, 0, none⟩) (List.length xs) cap) 230 3 (List.length xs) (List.flatMap pairLB xs)]) w0 w' [.blk t #[.slice (some ⟨g, 0, none⟩) (List.length (xs.eraseIdx (ltB xs xs.length).1)) cap, .int .i64 ((room : Nat) : Int), .func (.func 103) #[] #[]] 228, .row (.slice (some ⟨g5, 0, none⟩) (List.length ((xs.eraseIdx (ltB xs xs.length).1) ++ [(k, v)])) c5) 230 3 (List.length ((xs.eraseIdx (ltB xs xs.length).1) ++ [(k, v)])) (List.flatMap pairLB ((xs.eraseIdx (ltB xs xs.length).1) ++ [(k, v)])), .blk g1 #[.int .i64 v.1, .int .i64 v.2] 86], H, hsShut, fun _ h => h.pick [2] _ (by decide) (by kernel_rfl), fun _ h => h.pick [0] _ (by decide) (by kernel_rfl), ?_⟩
    refine s_quiet 10 rfl (by kernel_rfl) (y_val (.pointer (some ⟨t, 0, none⟩)) (by kernel_rfl) (fun _ => by kernel_rfl)) ?_
    refine s_quiet 11 rfl (by kernel_rfl) (y_val (.pointer (some ⟨t, 0, none⟩)) (by kernel_rfl) (fun _ => by kernel_rfl)) ?_
    refine s_one 12 rfl (by kernel_rfl) rfl ?_
    clear H
    intro v19 H
    refine x_store (t := 226) (v := .slice (some ⟨g5, 0, none⟩) (List.length ((xs.eraseIdx (ltB xs xs.length).1) ++ [(k, v)])) c5) H 0 t 0 _ #[.slice (some ⟨g5, 0, none⟩) (List.length ((xs.eraseIdx (ltB xs xs.length).1) ++ [(k, v)])) c5, .int .i64 ((room : Nat) : Int), .func (.func 103) #[] #[]] 228 [.slice (some ⟨g5, 0, none⟩) (List.length ((xs.eraseIdx (ltB xs xs.length).1) ++ [(k, v)])) c5] _ rfl rfl (by kernel_rfl) (by kernel_rfl) (by kernel_rfl) rfl (by kernel_rfl) (by kernel_rfl) (by kernel_rfl) (by kernel_rfl) ?_
    clear H
    intro v20 H
    refine x_nil ?_
    refine x_then ?_
    refine ⟨fun w' => Hs (fps [.blk t #[.slice (some ⟨g, 0, none⟩) (List.length xs) cap, .int .i64 ((room : Nat) : Int), .func (.func 103) #[] #[]] 228, .row (.slice (some ⟨g, 0, none⟩) (List.length xs) cap) 230 3 (List.length xs) (List.flatMap pairLB xs)]) w0 w' [.blk g1 #[.int .i64 v.1, .int .i64 v.2] 86], fun w' => Hs (fps [.blk t #[.slice (some ⟨g, 0, none⟩) (List.length xs) cap, .int .i64 ((room : Nat) : Int), .func (.func 103) #[] #[]] 228, .row (.slice (some ⟨g, 0, none⟩) (List.length xs) cap) 230 3 (List.length xs) (List.flatMap pairLB xs)]) w0 w' [.blk t #[.slice (some ⟨g5, 0, none⟩) (List.length ((xs.eraseIdx (ltB xs xs.length).1) ++ [(k, v)])) c5, .int .i64 ((room : Nat) : Int), .func (.func 103) #[] #[]] 228, .row (.slice (some ⟨g5, 0, none⟩) (List.length ((xs.eraseIdx (ltB xs xs.length).1) ++ [(k, v)])) c5) 230 3 (List.length ((xs.eraseIdx (ltB xs xs.length).1) ++ [(k, v)])) (List.flatMap pairLB ((xs.eraseIdx (ltB xs xs.length).1) ++ [(k, v)])), .blk g1 #[.int .i64 v.1, .int .i64 v.2] 86], H, hsShut, fun _ h => h.pick [2] _ (by decide) (by kernel_rfl), fun _ h => h.pick [0] _ (by decide) (by kernel_rfl), ?_⟩
    refine s_done (by kernel_rfl) ?_
    clear H
    intro v21 H
    refine x_then ?_
    refine x_seq ?_
    refine x_region ?_
    refine x_val (.int .i64 ((xs.getD ((ltB xs xs.length).1) (0, 0, 0)).1)) (by kernel_rfl) rfl (by kernel_rfl) ?_
    refine x_val (.bool true) (by kernel_rfl) rfl (by kernel_rfl) ?_
    refine x_val (.int .i64 ((xs.getD ((ltB xs xs.length).1) (0, 0, 0)).1)) (by kernel_rfl) rfl (by kernel_rfl) ?_
    refine x_val (.bool true) (by kernel_rfl) rfl (by kernel_rfl) ?_
    refine x_nil ?_
    refine x_then ?_
    refine x_retc ?_
    refine x_ret (.tuple #[.int .i64 ((xs.getD ((ltB xs xs.length).1) (0, 0, 0)).1), .bool true]) (by kernel_rfl) (by kernel_rfl) ?_
    replace H := H.pick [0, 1] [.blk t #[.slice (some ⟨g5, 0, none⟩) (List.length ((xs.eraseIdx (ltB xs xs.length).1) ++ [(k, v)])) c5, .int .i64 ((room : Nat) : Int), .func (.func 103) #[] #[]] 228, .row (.slice (some ⟨g5, 0, none⟩) (List.length ((xs.eraseIdx (ltB xs xs.length).1) ++ [(k, v)])) c5) 230 3 (List.length ((xs.eraseIdx (ltB xs xs.length).1) ++ [(k, v)])) (List.flatMap pairLB ((xs.eraseIdx (ltB xs xs.length).1) ++ [(k, v)]))] (by decide) (by kernel_rfl)
    exact ⟨_, rfl, H⟩

theorem Put_B {t : Nat} {xs : List PairB} {room : Nat} (k : Int) (v : Buk) {sv : Value} (hn : xs.length ≤ 4096) (hr : xs.length ≤ room) (h1 : 1 ≤ room) (w0 : World) (H0 : Hs (fps [.blk t #[sv, .int .i64 ((room : Nat) : Int), .func (.func 103) #[] #[]] 228, .row (sv) 230 3 (List.length xs) (List.flatMap pairLB xs)]) w0 w0 [.blk t #[sv, .int .i64 ((room : Nat) : Int), .func (.func 103) #[] #[]] 228, .row (sv) 230 3 (List.length xs) (List.flatMap pairLB xs)]) :
    Calls Try.prog 106 #[.pointer (some ⟨t, 0, none⟩), .int .i64 k, .agg #[.int .i64 v.1, .int .i64 v.2]] w0 fun e w' => ∃ sv', e = .returned (.tuple #[.int .i64 (putB room xs k v).2.1, .bool (putB room xs k v).2.2]) ∧ Hs (fps [.blk t #[sv, .int .i64 ((room : Nat) : Int), .func (.func 103) #[] #[]] 228, .row (sv) 230 3 (List.length xs) (List.flatMap pairLB xs)]) w0 w' [.blk t #[sv', .int .i64 ((room : Nat) : Int), .func (.func 103) #[] #[]] 228, .row (sv') 230 3 (List.length ((putB room xs k v).1)) (List.flatMap pairLB ((putB room xs k v).1))] := by
  rcases H0.rowForm 1 rfl with ⟨rfl, h0⟩ | ⟨g, cap, rfl, hc, _⟩
  · have e : (putB room xs k v) = (xs ++ [(k, v)], 0, false) := by unfold putB; rw [if_neg (by omega), if_pos (by omega)]
    rw [e]; exact Put_roomB_n k v hn (by omega) (by omega) w0 H0
  · by_cases hq : (fkB xs k) < xs.length
    · have e : (putB room xs k v) = ((xs.set (fkB xs k) ((xs.getD (fkB xs k) (0, 0, 0)).1, v)), 0, false) := by unfold putB; rw [if_pos hq]
      rw [e]; exact Put_setB k v hn hq w0 H0
    · by_cases hlt : xs.length < room
      · have e : (putB room xs k v) = (xs ++ [(k, v)], 0, false) := by unfold putB; rw [if_neg hq, if_pos hlt]
        rw [e]; exact Put_roomB_s k v hn hq hlt w0 H0
      · have e : (putB room xs k v) = ((xs.eraseIdx (ltB xs xs.length).1) ++ [(k, v)], (xs.getD ((ltB xs xs.length).1) (0, 0, 0)).1, true) := by unfold putB; rw [if_neg hq, if_neg hlt]
        rw [e]; exact Put_evictB k v hn hq (by omega) h1 w0 H0

set_option maxRecDepth 100000 in
set_option maxHeartbeats 4000000 in
theorem TNewB_yes (room : Nat) (h1 : 1 ≤ room) (h2 : room ≤ 256) (w0 : World) :
    Calls Try.prog 102 #[.int .i64 ((room : Nat) : Int), .func (.func 103) #[] #[]] w0 fun e w' => ∃ t, e = .returned (.tuple #[.pointer (some ⟨t, 0, none⟩), .int .i64 0]) ∧ Hs [] w0 w' [.blk t #[.slice none 0 0, .int .i64 ((room : Nat) : Int), .func (.func 103) #[] #[]] 228, .row (.slice none 0 0) 230 3 (List.length ([] : List PairB)) (List.flatMap pairLB ([] : List PairB))] := by
  refine x_enter Try.func102 rfl #[.int .i64 ((room : Nat) : Int), .func (.func 103) #[] #[], undef, undef, undef, undef, undef, undef, undef, undef, undef, undef, undef, undef, undef, undef] (by kernel_rfl) ?_
  have H := Hs.nil w0
  have q1 : decide (((room : Nat) : Int) < 1) = false := by simp; omega
  have q2 : decide (256 < ((room : Nat) : Int)) = false := by simp; omega
  refine x_seq ?_
  refine x_region ?_
  refine x_val (.pointer none) (by kernel_rfl) rfl (by kernel_rfl) ?_
  refine x_val (.int .i64 0) (by kernel_rfl) rfl (by kernel_rfl) ?_
  refine x_nil ?_
  refine x_then ?_
  refine x_seq ?_
  refine x_seq ?_
  refine x_region ?_
  refine x_val (.int .i64 ((room : Nat) : Int)) (by kernel_rfl) rfl (by kernel_rfl) ?_
  refine x_val (.bool (decide (((room : Nat) : Int) < 1))) (by kernel_rfl) rfl (by kernel_rfl) ?_
  refine x_val (.bool (decide (((room : Nat) : Int) < 1))) (by kernel_rfl) rfl (by kernel_rfl) ?_
  rw [q1]
  refine x_val (.int .i64 ((room : Nat) : Int)) (by kernel_rfl) rfl (by kernel_rfl) ?_
  refine x_val (.bool (decide (256 < ((room : Nat) : Int)))) (by kernel_rfl) rfl (by kernel_rfl) ?_
  refine x_val (.bool (decide (256 < ((room : Nat) : Int)))) (by kernel_rfl) rfl (by kernel_rfl) ?_
  refine x_nil ?_
  refine x_then ?_
  rw [q2]
  refine x_f (by kernel_rfl) ?_
  refine x_skipc ?_
  refine x_then ?_
  refine x_seq ?_
  refine x_region ?_
  refine x_val (.int .i64 ((room : Nat) : Int)) (by kernel_rfl) rfl (by kernel_rfl) ?_
  refine x_val (.func (.func 103) #[] #[]) (by kernel_rfl) rfl (by kernel_rfl) ?_
  refine x_val (.agg #[.slice none 0 0, .int .i64 ((room : Nat) : Int), .func (.func 103) #[] #[]]) (by kernel_rfl) rfl (by kernel_rfl) ?_
  refine x_box H #[.slice none 0 0, .int .i64 ((room : Nat) : Int), .func (.func 103) #[] #[]] 228 (by kernel_rfl) rfl (by kernel_rfl) ?_
  clear H
  intro v1 g1 H
  refine x_val (.pointer (some ⟨g1, 0, none⟩)) (by kernel_rfl) rfl (by kernel_rfl) ?_
  refine x_val (.int .i64 0) (by kernel_rfl) rfl (by kernel_rfl) ?_
  refine x_nil ?_
  refine x_then ?_
  refine x_retc ?_
  refine x_ret (.tuple #[.pointer (some ⟨g1, 0, none⟩), .int .i64 0]) (by kernel_rfl) (by kernel_rfl) ?_
  replace H := H.nilRow 230 3
  exact ⟨_, rfl, H.pick [1, 0] _ (by decide) (by kernel_rfl)⟩

set_option maxRecDepth 100000 in
set_option maxHeartbeats 4000000 in
theorem GetB_s {t : Nat} {xs : List PairB} {room : Nat} (k : Int) {g cap : Nat} (hn : xs.length ≤ 4096) (hq : (fkB xs k) < xs.length) (w0 : World) (hR : Ro w0 [.blk t #[.slice (some ⟨g, 0, none⟩) (List.length xs) cap, .int .i64 ((room : Nat) : Int), .func (.func 103) #[] #[]] 228, .row (.slice (some ⟨g, 0, none⟩) (List.length xs) cap) 230 3 (List.length xs) (List.flatMap pairLB xs)]) :
    Calls Try.prog 105 #[.pointer (some ⟨t, 0, none⟩), .int .i64 k] w0 fun e w' => e = .returned (.tuple #[.agg #[.int .i64 ((xs.getD (fkB xs k) (0, 0, 0)).2.1), .int .i64 ((xs.getD (fkB xs k) (0, 0, 0)).2.2)], .bool true]) ∧ Below w0.heap.size w0 w' := by
  refine x_enter Try.func105 rfl #[.pointer (some ⟨t, 0, none⟩), .int .i64 k, undef, undef, undef, undef, undef, undef, undef, undef, undef, undef, undef, undef, undef, undef, undef, undef, undef, undef, undef, undef] (by kernel_rfl) ?_
  have H := Hs.nil w0
  have R0 := hR
  refine x_seq ?_
  refine x_region ?_
  refine x_box H #[.int .i64 0, .int .i64 0] 86 (by kernel_rfl) rfl (by kernel_rfl) ?_
  clear H
  intro v1 g1 H
  refine x_val (.bool false) (by kernel_rfl) rfl (by kernel_rfl) ?_
  refine x_nil ?_
  refine x_then ?_
  refine x_seq ?_
  refine x_region ?_
  refine x_val (.pointer (some ⟨t, 0, none⟩)) (by kernel_rfl) rfl (by kernel_rfl) ?_
  refine x_val (.int .i64 k) (by kernel_rfl) rfl (by kernel_rfl) ?_
  refine x_callB (.int .i64 (((fkB xs k) : Nat) : Int)) H (by kernel_rfl) rfl (by kernel_rfl) (by have h := find_B (room := room) k hn _ (H.ro R0); rw [show findB xs k = (((fkB xs k) : Nat) : Int) by unfold findB; rw [if_pos hq]] at h; exact h) ?_
  clear H
  intro v2 H
  refine x_val (.int .i64 (((fkB xs k) : Nat) : Int)) (by kernel_rfl) rfl (by kernel_rfl) ?_
  refine x_nil ?_
  refine x_then ?_
  refine x_seq ?_
  refine x_seq ?_
  refine x_region ?_
  refine x_val (.int .i64 (((fkB xs k) : Nat) : Int)) (by kernel_rfl) rfl (by kernel_rfl) ?_
  refine x_val (.bool (decide ((((fkB xs k) : Nat) : Int) < 0))) (by kernel_rfl) rfl (by kernel_rfl) ?_
  refine x_nil ?_
  refine x_then ?_
  cases h1 : decide ((((fkB xs k) : Nat) : Int) < 0)
  · skip
    have h1p := of_decide_eq_false h1
    refine x_f (by kernel_rfl) ?_
    refine x_skipc ?_
    refine x_then ?_
    refine x_seq ?_
    refine x_region ?_
    refine x_val (.pointer (some ⟨t, 0, none⟩)) (by kernel_rfl) rfl (by kernel_rfl) ?_
    refine x_val (.pointer (some ⟨t, 0, none⟩)) (by kernel_rfl) rfl (by kernel_rfl) ?_
    refine x_val (.pointer (some ⟨t, 0, none⟩)) (by kernel_rfl) rfl (by kernel_rfl) ?_
    refine x_loadc t 0 (.slice (some ⟨g, 0, none⟩) (List.length xs) cap) ((H.ro R0).cell 0 rfl 0 rfl) (by kernel_rfl) rfl (by kernel_rfl) ?_
    refine x_val (.int .i64 (((fkB xs k) : Nat) : Int)) (by kernel_rfl) rfl (by kernel_rfl) ?_
    refine x_ix (t := 226) g 0 (fkB xs k) (List.length xs) cap 230 3 ((fkB xs k) * 3) (by omega) (by omega) (by kernel_rfl) (by kernel_rfl) (by kernel_rfl) rfl (by kernel_rfl) ?_
    refine x_val (.pointer (some ⟨g, (fkB xs k) * 3 + 1, none⟩)) (by kernel_rfl) rfl (by kernel_rfl) ?_
    refine x_loadcn (t := 86) g ((fkB xs k) * 3 + 1) [.int .i64 ((xs.getD (fkB xs k) (0, 0, 0)).2.1), .int .i64 ((xs.getD (fkB xs k) (0, 0, 0)).2.2)] (subCells (vs := [.int .i64 ((xs.getD (fkB xs k) (0, 0, 0)).1), .int .i64 ((xs.getD (fkB xs k) (0, 0, 0)).2.1), .int .i64 ((xs.getD (fkB xs k) (0, 0, 0)).2.2)]) ((H.ro R0).rowCells 1 rfl ((fkB xs k) * 3) (flatAt pairLenB (0, 0, 0) _ (by omega))) 1 _ rfl) (by kernel_rfl) rfl (by kernel_rfl) (by kernel_rfl) ?_
    refine x_store (t := 86) (v := .agg #[.int .i64 ((xs.getD (fkB xs k) (0, 0, 0)).2.1), .int .i64 ((xs.getD (fkB xs k) (0, 0, 0)).2.2)]) H 0 g1 0 _ #[.int .i64 ((xs.getD (fkB xs k) (0, 0, 0)).2.1), .int .i64 ((xs.getD (fkB xs k) (0, 0, 0)).2.2)] 86 [.int .i64 ((xs.getD (fkB xs k) (0, 0, 0)).2.1), .int .i64 ((xs.getD (fkB xs k) (0, 0, 0)).2.2)] _ rfl rfl (by kernel_rfl) (by kernel_rfl) (by kernel_rfl) rfl (by kernel_rfl) (by kernel_rfl) (by kernel_rfl) (by kernel_rfl) ?_
    clear H
    intro v3 H
    refine x_val (.bool true) (by kernel_rfl) rfl (by kernel_rfl) ?_
    refine x_nil ?_
    refine x_then ?_
    refine x_retc ?_
    refine x_ret (.tuple #[.agg #[.int .i64 ((xs.getD (fkB xs k) (0, 0, 0)).2.1), .int .i64 ((xs.getD (fkB xs k) (0, 0, 0)).2.2)], .bool true]) (by kernel_rfl) (x_rescell H 0 g1 0 #[.int .i64 ((xs.getD (fkB xs k) (0, 0, 0)).2.1), .int .i64 ((xs.getD (fkB xs k) (0, 0, 0)).2.2)] 86 [.int .i64 ((xs.getD (fkB xs k) (0, 0, 0)).2.1), .int .i64 ((xs.getD (fkB xs k) (0, 0, 0)).2.2)] (fun x => .tuple #[x, .bool true]) (by kernel_rfl) (by kernel_rfl) (by kernel_rfl)) ?_
    exact ⟨rfl, H.below⟩
  · skip
    have h1p := of_decide_eq_true h1
    exact absurd h1p (by omega)

set_option maxRecDepth 100000 in
set_option maxHeartbeats 4000000 in
theorem GetB_no {t : Nat} {xs : List PairB} {room : Nat} (k : Int) {sv : Value} (hn : xs.length ≤ 4096) (hq : ¬ (fkB xs k) < xs.length) (w0 : World) (hR : Ro w0 [.blk t #[sv, .int .i64 ((room : Nat) : Int), .func (.func 103) #[] #[]] 228, .row (sv) 230 3 (List.length xs) (List.flatMap pairLB xs)]) :
    Calls Try.prog 105 #[.pointer (some ⟨t, 0, none⟩), .int .i64 k] w0 fun e w' => e = .returned (.tuple #[.agg #[.int .i64 0, .int .i64 0], .bool false]) ∧ Below w0.heap.size w0 w' := by
  refine x_enter Try.func105 rfl #[.pointer (some ⟨t, 0, none⟩), .int .i64 k, undef, undef, undef, undef, undef, undef, undef, undef, undef, undef, undef, undef, undef, undef, undef, undef, undef, undef, undef, undef] (by kernel_rfl) ?_
  have H := Hs.nil w0
  have R0 := hR
  refine x_seq ?_
  refine x_region ?_
  refine x_box H #[.int .i64 0, .int .i64 0] 86 (by kernel_rfl) rfl (by kernel_rfl) ?_
  clear H
  intro v1 g1 H
  refine x_val (.bool false) (by kernel_rfl) rfl (by kernel_rfl) ?_
  refine x_nil ?_
  refine x_then ?_
  refine x_seq ?_
  refine x_region ?_
  refine x_val (.pointer (some ⟨t, 0, none⟩)) (by kernel_rfl) rfl (by kernel_rfl) ?_
  refine x_val (.int .i64 k) (by kernel_rfl) rfl (by kernel_rfl) ?_
  refine x_callB (.int .i64 (-1)) H (by kernel_rfl) rfl (by kernel_rfl) (by have h := find_B (room := room) k hn _ (H.ro R0); rw [show findB xs k = -1 by unfold findB; rw [if_neg hq]] at h; exact h) ?_
  clear H
  intro v2 H
  refine x_val (.int .i64 (-1)) (by kernel_rfl) rfl (by kernel_rfl) ?_
  refine x_nil ?_
  refine x_then ?_
  refine x_seq ?_
  refine x_seq ?_
  refine x_region ?_
  refine x_val (.int .i64 (-1)) (by kernel_rfl) rfl (by kernel_rfl) ?_
  refine x_val (.bool true) (by kernel_rfl) rfl (by kernel_rfl) ?_
  refine x_nil ?_
  refine x_then ?_
  refine x_t (by kernel_rfl) ?_
  refine x_seq ?_
  refine x_region ?_
  refine x_box H #[.int .i64 0, .int .i64 0] 86 (by kernel_rfl) rfl (by kernel_rfl) ?_
  clear H
  intro v3 g2 H
  refine x_nil ?_
  refine x_then ?_
  refine x_seq ?_
  refine x_region ?_
  refine x_loadn (t := 86) H 0 g2 0 _ _ [.int .i64 0, .int .i64 0] rfl (by kernel_rfl) (by kernel_rfl) rfl (by kernel_rfl) (by kernel_rfl) ?_
  refine x_store (t := 86) (v := .agg #[.int .i64 0, .int .i64 0]) H 1 g1 0 _ #[.int .i64 0, .int .i64 0] 86 [.int .i64 0, .int .i64 0] _ rfl rfl (by kernel_rfl) (by kernel_rfl) (by kernel_rfl) rfl (by kernel_rfl) (by kernel_rfl) (by kernel_rfl) (by kernel_rfl) ?_
  clear H
  intro v4 H
  refine x_val (.bool false) (by kernel_rfl) rfl (by kernel_rfl) ?_
  refine x_nil ?_
  refine x_then ?_
  refine x_retc ?_
  refine x_then_ret ?_
  refine x_ret (.tuple #[.agg #[.int .i64 0, .int .i64 0], .bool false]) (by kernel_rfl) (x_rescell H 1 g1 0 #[.int .i64 0, .int .i64 0] 86 [.int .i64 0, .int .i64 0] (fun x => .tuple #[x, .bool false]) (by kernel_rfl) (by kernel_rfl) (by kernel_rfl)) ?_
  exact ⟨rfl, H.below⟩

/-- A key's bucket; an empty one, where it has none. -/
def getB (xs : List PairB) (k : Int) : Buk := if fkB xs k < xs.length then (xs.getD (fkB xs k) (0, 0, 0)).2 else (0, 0)
theorem Get_B {t : Nat} {xs : List PairB} {room : Nat} (k : Int) {sv : Value} (hn : xs.length ≤ 4096) (w0 : World) (hR : Ro w0 [.blk t #[sv, .int .i64 ((room : Nat) : Int), .func (.func 103) #[] #[]] 228, .row (sv) 230 3 (List.length xs) (List.flatMap pairLB xs)]) : Calls Try.prog 105 #[.pointer (some ⟨t, 0, none⟩), .int .i64 k] w0 fun e w' => e = .returned (.tuple #[.agg #[.int .i64 (getB xs k).1, .int .i64 (getB xs k).2], .bool (decide (fkB xs k < xs.length))]) ∧ Below w0.heap.size w0 w' := by
  unfold getB
  by_cases hq : fkB xs k < xs.length
  · rw [if_pos hq, decide_eq_true hq]
    rcases rowForm (hR 1 _ rfl : w0.ownsRow 0 _ 3 sv _ _) with ⟨rfl, h0⟩ | ⟨g, cap, rfl, hc, _⟩
    · omega
    · exact GetB_s k hn hq w0 hR
  · rw [if_neg hq, decide_eq_false hq]; exact GetB_no k hn hq w0 hR

set_option maxRecDepth 100000 in
set_option maxHeartbeats 4000000 in
theorem DropB_s {t : Nat} {xs : List PairB} {room : Nat} (k : Int) {g cap : Nat} (hn : xs.length ≤ 4096) (hq : (fkB xs k) < xs.length) (w0 : World) (H0 : Hs (fps [.blk t #[.slice (some ⟨g, 0, none⟩) (List.length xs) cap, .int .i64 ((room : Nat) : Int), .func (.func 103) #[] #[]] 228, .row (.slice (some ⟨g, 0, none⟩) (List.length xs) cap) 230 3 (List.length xs) (List.flatMap pairLB xs)]) w0 w0 [.blk t #[.slice (some ⟨g, 0, none⟩) (List.length xs) cap, .int .i64 ((room : Nat) : Int), .func (.func 103) #[] #[]] 228, .row (.slice (some ⟨g, 0, none⟩) (List.length xs) cap) 230 3 (List.length xs) (List.flatMap pairLB xs)]) :
    Calls Try.prog 111 #[.pointer (some ⟨t, 0, none⟩), .int .i64 k] w0 fun e w' => ∃ sv', e = .returned (.bool true) ∧ Hs (fps [.blk t #[.slice (some ⟨g, 0, none⟩) (List.length xs) cap, .int .i64 ((room : Nat) : Int), .func (.func 103) #[] #[]] 228, .row (.slice (some ⟨g, 0, none⟩) (List.length xs) cap) 230 3 (List.length xs) (List.flatMap pairLB xs)]) w0 w' [.blk t #[sv', .int .i64 ((room : Nat) : Int), .func (.func 103) #[] #[]] 228, .row (sv') 230 3 (List.length (xs.eraseIdx (fkB xs k))) (List.flatMap pairLB (xs.eraseIdx (fkB xs k)))] := by
  refine x_enter Try.func111 rfl #[.pointer (some ⟨t, 0, none⟩), .int .i64 k, undef, undef, undef, undef, undef, undef, undef, undef, undef, undef, undef, undef] (by kernel_rfl) ?_
  have H := H0
  refine x_seq ?_
  refine x_region ?_
  refine x_val (.bool false) (by kernel_rfl) rfl (by kernel_rfl) ?_
  refine x_nil ?_
  refine x_then ?_
  refine x_seq ?_
  refine x_region ?_
  refine x_val (.pointer (some ⟨t, 0, none⟩)) (by kernel_rfl) rfl (by kernel_rfl) ?_
  refine x_val (.int .i64 k) (by kernel_rfl) rfl (by kernel_rfl) ?_
  refine x_callB (.int .i64 (((fkB xs k) : Nat) : Int)) H (by kernel_rfl) rfl (by kernel_rfl) (by have h := find_B (room := room) k hn _ (H.roOf [0, 1] [.blk t #[.slice (some ⟨g, 0, none⟩) (List.length xs) cap, .int .i64 ((room : Nat) : Int), .func (.func 103) #[] #[]] 228, .row (.slice (some ⟨g, 0, none⟩) (List.length xs) cap) 230 3 (List.length xs) (List.flatMap pairLB xs)] (by kernel_rfl)); rw [show findB xs k = (((fkB xs k) : Nat) : Int) by unfold findB; rw [if_pos hq]] at h; exact h) ?_
  clear H
  intro v1 H
  refine x_val (.int .i64 (((fkB xs k) : Nat) : Int)) (by kernel_rfl) rfl (by kernel_rfl) ?_
  refine x_nil ?_
  refine x_then ?_
  refine x_seq ?_
  refine x_seq ?_
  refine x_region ?_
  refine x_val (.int .i64 (((fkB xs k) : Nat) : Int)) (by kernel_rfl) rfl (by kernel_rfl) ?_
  refine x_val (.bool (decide ((((fkB xs k) : Nat) : Int) < 0))) (by kernel_rfl) rfl (by kernel_rfl) ?_
  refine x_nil ?_
  refine x_then ?_
  cases h1 : decide ((((fkB xs k) : Nat) : Int) < 0)
  · skip
    have h1p := of_decide_eq_false h1
    refine x_f (by kernel_rfl) ?_
    refine x_skipc ?_
    refine x_then ?_
    refine x_seq ?_
    refine x_region ?_
    refine x_val (.pointer (some ⟨t, 0, none⟩)) (by kernel_rfl) rfl (by kernel_rfl) ?_
    refine x_val (.int .i64 (((fkB xs k) : Nat) : Int)) (by kernel_rfl) rfl (by kernel_rfl) ?_
    refine x_callH (.int .i64 ((xs.getD (fkB xs k) (0, 0, 0)).1)) [.blk t #[.slice (some ⟨g, 0, none⟩) (List.length (xs.eraseIdx (fkB xs k))) cap, .int .i64 ((room : Nat) : Int), .func (.func 103) #[] #[]] 228, .row (.slice (some ⟨g, 0, none⟩) (List.length (xs.eraseIdx (fkB xs k))) cap) 230 3 (List.length (xs.eraseIdx (fkB xs k))) (List.flatMap pairLB (xs.eraseIdx (fkB xs k)))] (by kernel_rfl) rfl (by kernel_rfl) (Hs.use (A := [.blk t #[.slice (some ⟨g, 0, none⟩) (List.length xs) cap, .int .i64 ((room : Nat) : Int), .func (.func 103) #[] #[]] 228, .row (.slice (some ⟨g, 0, none⟩) (List.length xs) cap) 230 3 (List.length xs) (List.flatMap pairLB xs)]) (R := []) (H.pick [0, 1] _ (by decide) (by kernel_rfl)) (fun h => remove_B (fkB xs k) hq hn _ h)) ?_
    clear H
    intro v2 H
    refine x_nil ?_
    refine x_then ?_
    refine x_seq ?_
    refine x_region ?_
    refine x_val (.bool true) (by kernel_rfl) rfl (by kernel_rfl) ?_
    refine x_nil ?_
    refine x_then ?_
    refine x_retc ?_
    refine x_ret (.bool true) (by kernel_rfl) (by kernel_rfl) ?_
    replace H := H.pick [0, 1] [.blk t #[.slice (some ⟨g, 0, none⟩) (List.length (xs.eraseIdx (fkB xs k))) cap, .int .i64 ((room : Nat) : Int), .func (.func 103) #[] #[]] 228, .row (.slice (some ⟨g, 0, none⟩) (List.length (xs.eraseIdx (fkB xs k))) cap) 230 3 (List.length (xs.eraseIdx (fkB xs k))) (List.flatMap pairLB (xs.eraseIdx (fkB xs k)))] (by decide) (by kernel_rfl)
    exact ⟨_, rfl, H⟩
  · skip
    have h1p := of_decide_eq_true h1
    exact absurd h1p (by omega)

set_option maxRecDepth 100000 in
set_option maxHeartbeats 4000000 in
theorem DropB_no {t : Nat} {xs : List PairB} {room : Nat} (k : Int) {sv : Value} (hn : xs.length ≤ 4096) (hq : ¬ (fkB xs k) < xs.length) (w0 : World) (H0 : Hs (fps [.blk t #[sv, .int .i64 ((room : Nat) : Int), .func (.func 103) #[] #[]] 228, .row (sv) 230 3 (List.length xs) (List.flatMap pairLB xs)]) w0 w0 [.blk t #[sv, .int .i64 ((room : Nat) : Int), .func (.func 103) #[] #[]] 228, .row (sv) 230 3 (List.length xs) (List.flatMap pairLB xs)]) :
    Calls Try.prog 111 #[.pointer (some ⟨t, 0, none⟩), .int .i64 k] w0 fun e w' => ∃ sv', e = .returned (.bool false) ∧ Hs (fps [.blk t #[sv, .int .i64 ((room : Nat) : Int), .func (.func 103) #[] #[]] 228, .row (sv) 230 3 (List.length xs) (List.flatMap pairLB xs)]) w0 w' [.blk t #[sv', .int .i64 ((room : Nat) : Int), .func (.func 103) #[] #[]] 228, .row (sv') 230 3 (List.length xs) (List.flatMap pairLB xs)] := by
  refine x_enter Try.func111 rfl #[.pointer (some ⟨t, 0, none⟩), .int .i64 k, undef, undef, undef, undef, undef, undef, undef, undef, undef, undef, undef, undef] (by kernel_rfl) ?_
  have H := H0
  refine x_seq ?_
  refine x_region ?_
  refine x_val (.bool false) (by kernel_rfl) rfl (by kernel_rfl) ?_
  refine x_nil ?_
  refine x_then ?_
  refine x_seq ?_
  refine x_region ?_
  refine x_val (.pointer (some ⟨t, 0, none⟩)) (by kernel_rfl) rfl (by kernel_rfl) ?_
  refine x_val (.int .i64 k) (by kernel_rfl) rfl (by kernel_rfl) ?_
  refine x_callB (.int .i64 (-1)) H (by kernel_rfl) rfl (by kernel_rfl) (by have h := find_B (room := room) k hn _ (H.roOf [0, 1] [.blk t #[sv, .int .i64 ((room : Nat) : Int), .func (.func 103) #[] #[]] 228, .row (sv) 230 3 (List.length xs) (List.flatMap pairLB xs)] (by kernel_rfl)); rw [show findB xs k = -1 by unfold findB; rw [if_neg hq]] at h; exact h) ?_
  clear H
  intro v1 H
  refine x_val (.int .i64 (-1)) (by kernel_rfl) rfl (by kernel_rfl) ?_
  refine x_nil ?_
  refine x_then ?_
  refine x_seq ?_
  refine x_seq ?_
  refine x_region ?_
  refine x_val (.int .i64 (-1)) (by kernel_rfl) rfl (by kernel_rfl) ?_
  refine x_val (.bool true) (by kernel_rfl) rfl (by kernel_rfl) ?_
  refine x_nil ?_
  refine x_then ?_
  refine x_t (by kernel_rfl) ?_
  refine x_seq ?_
  refine x_region ?_
  refine x_val (.bool false) (by kernel_rfl) rfl (by kernel_rfl) ?_
  refine x_nil ?_
  refine x_then ?_
  refine x_retc ?_
  refine x_then_ret ?_
  refine x_ret (.bool false) (by kernel_rfl) (by kernel_rfl) ?_
  replace H := H.pick [0, 1] [.blk t #[sv, .int .i64 ((room : Nat) : Int), .func (.func 103) #[] #[]] 228, .row (sv) 230 3 (List.length xs) (List.flatMap pairLB xs)] (by decide) (by kernel_rfl)
  exact ⟨_, rfl, H⟩

def dropB (xs : List PairB) (k : Int) : List PairB := if fkB xs k < xs.length then xs.eraseIdx (fkB xs k) else xs
theorem Drop_B {t : Nat} {xs : List PairB} {room : Nat} (k : Int) {sv : Value} (hn : xs.length ≤ 4096) (w0 : World) (H0 : Hs (fps [.blk t #[sv, .int .i64 ((room : Nat) : Int), .func (.func 103) #[] #[]] 228, .row (sv) 230 3 (List.length xs) (List.flatMap pairLB xs)]) w0 w0 [.blk t #[sv, .int .i64 ((room : Nat) : Int), .func (.func 103) #[] #[]] 228, .row (sv) 230 3 (List.length xs) (List.flatMap pairLB xs)]) : Calls Try.prog 111 #[.pointer (some ⟨t, 0, none⟩), .int .i64 k] w0 fun e w' => ∃ sv', e = .returned (.bool (decide (fkB xs k < xs.length))) ∧ Hs (fps [.blk t #[sv, .int .i64 ((room : Nat) : Int), .func (.func 103) #[] #[]] 228, .row (sv) 230 3 (List.length xs) (List.flatMap pairLB xs)]) w0 w' [.blk t #[sv', .int .i64 ((room : Nat) : Int), .func (.func 103) #[] #[]] 228, .row (sv') 230 3 (List.length (dropB xs k)) (List.flatMap pairLB (dropB xs k))] := by
  unfold dropB
  by_cases hq : fkB xs k < xs.length
  · rw [if_pos hq, decide_eq_true hq]
    rcases H0.rowForm 1 rfl with ⟨rfl, h0⟩ | ⟨g, cap, rfl, hc, _⟩
    · omega
    · exact DropB_s k hn hq w0 H0
  · rw [if_neg hq, decide_eq_false hq]; exact DropB_no k hn hq w0 H0

set_option maxRecDepth 100000 in
set_option maxHeartbeats 4000000 in
theorem TAllB_of (t : Nat) (w0 : World) :
    Calls Try.prog 138 #[.pointer (some ⟨t, 0, none⟩)] w0 fun e w' => ∃ q, e = .returned (.func (.func 167) #[] #[.pointer (some ⟨q, 0, none⟩)]) ∧ Hs [] w0 w' [.blk q #[.pointer (some ⟨t, 0, none⟩)] 182] := by
  refine x_enter Try.func138 rfl #[.pointer (some ⟨t, 0, none⟩), undef, undef, undef] (by kernel_rfl) ?_
  have H := Hs.nil w0
  refine x_seq ?_
  refine x_region ?_
  refine x_box H #[.pointer (some ⟨t, 0, none⟩)] 182 (by kernel_rfl) rfl (by kernel_rfl) ?_
  clear H
  intro v1 g1 H
  refine x_val (.nilFunc) (by kernel_rfl) rfl (by kernel_rfl) ?_
  refine x_nil ?_
  refine x_then ?_
  refine x_seq ?_
  refine x_region ?_
  refine x_val (.func (.func 167) #[] #[.pointer (some ⟨g1, 0, none⟩)]) (by kernel_rfl) rfl (by kernel_rfl) ?_
  refine x_val (.func (.func 167) #[] #[.pointer (some ⟨g1, 0, none⟩)]) (by kernel_rfl) rfl (by kernel_rfl) ?_
  refine x_nil ?_
  refine x_then ?_
  refine x_retc ?_
  refine x_ret (.func (.func 167) #[] #[.pointer (some ⟨g1, 0, none⟩)]) (by kernel_rfl) (by kernel_rfl) ?_
  exact ⟨_, rfl, H⟩

set_option maxRecDepth 100000 in
set_option maxHeartbeats 2000000 in
theorem tvalsB_s {t q room : Nat} {g cap : Nat} {xs : List PairB} (hn : xs.length ≤ 4096) (W0 : World) (hR : Ro W0 [.blk q #[.pointer (some ⟨t, 0, none⟩)] 182, .blk t #[.slice (some ⟨g, 0, none⟩) (List.length xs) cap, .int .i64 ((room : Nat) : Int), .func (.func 103) #[] #[]] 228, .row (.slice (some ⟨g, 0, none⟩) (List.length xs) cap) 230 3 (List.length xs) (List.flatMap pairLB xs)]) :
    SeqStopsK (FW none) 0 Try.prog 167 #[.pointer (some ⟨q, 0, none⟩)] (fun x : PairB => #[.int .i64 x.1, .agg #[.int .i64 x.2.1, .int .i64 x.2.2]]) (KpOf [.blk q #[.pointer (some ⟨t, 0, none⟩)] 182, .blk t #[.slice (some ⟨g, 0, none⟩) (List.length xs) cap, .int .i64 ((room : Nat) : Int), .func (.func 103) #[] #[]] 228, .row (.slice (some ⟨g, 0, none⟩) (List.length xs) cap) 230 3 (List.length xs) (List.flatMap pairLB xs)]) (fun ys => ys = xs) (fun pre => pre <+: xs) xs.length W0 := fun l J Jx W hW hJ hJx hY h0 => callsFW.2 (by
  refine x_enter Try.func167 rfl #[.func (.yield l) #[] #[], .pointer (some ⟨q, 0, none⟩), undef, undef, undef, undef, undef, undef, undef, undef, undef, undef, undef, undef, undef, undef, undef, undef, undef, undef, undef, undef] (by kernel_rfl) ?_
  have H := Hs.nil W
  have R0 : Ro W [.blk q #[.pointer (some ⟨t, 0, none⟩)] 182, .blk t #[.slice (some ⟨g, 0, none⟩) (List.length xs) cap, .int .i64 ((room : Nat) : Int), .func (.func 103) #[] #[]] 228, .row (.slice (some ⟨g, 0, none⟩) (List.length xs) cap) 230 3 (List.length xs) (List.flatMap pairLB xs)] := fun i r hi => Res.keep (hR i r hi) fun g hg => hW.block g (Res.lt (hR i r hi) g hg)
  refine x_seq ?_
  refine x_region ?_
  refine x_loadc q 0 (.pointer (some ⟨t, 0, none⟩)) ((H.ro R0).cell 0 rfl 0 rfl) (by kernel_rfl) rfl (by kernel_rfl) ?_
  refine x_val (.pointer (some ⟨t, 0, none⟩)) (by kernel_rfl) rfl (by kernel_rfl) ?_
  refine x_val (.pointer (some ⟨t, 0, none⟩)) (by kernel_rfl) rfl (by kernel_rfl) ?_
  refine x_loadc t 0 (.slice (some ⟨g, 0, none⟩) (List.length xs) cap) ((H.ro R0).cell 1 rfl 0 rfl) (by kernel_rfl) rfl (by kernel_rfl) ?_
  refine x_val (.int .i64 (((List.length xs) : Nat) : Int)) (by kernel_rfl) rfl (by kernel_rfl) ?_
  refine x_val (.int .i64 0) (by kernel_rfl) rfl (by kernel_rfl) ?_
  refine x_nil ?_
  refine x_then ?_
  refine x_block ?_
  refine x_loop (G := Nat × World) (fun gh a w' => match gh with | (k, wb) => ∃ uf1 : Nat → Value, a = { tmps := #[.func (.yield l) #[] #[], .pointer (some ⟨q, 0, none⟩), undef, undef, (uf1 0), .pointer (some ⟨t, 0, none⟩), .pointer (some ⟨t, 0, none⟩), .pointer (some ⟨t, 0, none⟩), .slice (some ⟨g, 0, none⟩) (List.length xs) cap, .int .i64 (((List.length xs) : Nat) : Int), .int .i64 ((k : Nat) : Int), (uf1 1), (uf1 2), (uf1 3), (uf1 4), (uf1 5), (uf1 6), (uf1 7), (uf1 8), (uf1 9), (uf1 10), (uf1 11)], defers := [] } ∧ Hs [] wb w' [] ∧ (k ≤ xs.length) ∧ (J (xs.take k) wb) ∧ (Ro wb [.blk q #[.pointer (some ⟨t, 0, none⟩)] 182, .blk t #[.slice (some ⟨g, 0, none⟩) (List.length xs) cap, .int .i64 ((room : Nat) : Int), .func (.func 103) #[] #[]] 228, .row (.slice (some ⟨g, 0, none⟩) (List.length xs) cap) 230 3 (List.length xs) (List.flatMap pairLB xs)])) (fun gh => match gh with | (k, wb) => xs.length - k) (0, W) ⟨(nthV [undef, undef, undef, undef, undef, undef, undef, undef, undef, undef, undef, undef]), (by kernel_rfl), H, (Nat.zero_le _), (by simpa using h0), R0⟩ ?_
  clear H
  rintro ⟨k, wb⟩ _ v1 ⟨uf1, rfl, H, r1, r2, r3⟩
  have hJ1 := r2
  have R0 := r3
  refine x_seq ?_
  refine x_region ?_
  refine x_val (.bool (decide (((k : Nat) : Int) < (((List.length xs) : Nat) : Int)))) (by kernel_rfl) rfl (by kernel_rfl) ?_
  refine x_nil ?_
  refine x_then ?_
  refine x_seq ?_
  cases h1 : decide (((k : Nat) : Int) < (((List.length xs) : Nat) : Int))
  · skip
    have h1p := of_decide_eq_false h1
    refine x_f (by kernel_rfl) ?_
    refine x_exit ?_
    refine x_then_exit ?_
    refine x_then_exit ?_
    refine x_blk_exit ?_
    refine x_end (.tuple #[]) (by kernel_rfl) (by kernel_rfl) ?_
    have hk : k = xs.length := by omega
    have HJ2 := hJ _ _ _ none hJ1 (below_grown H.below) (fun r e => by cases e)
    rw [hk, List.take_length] at HJ2
    exact ⟨⟨_, rfl⟩, .inl ⟨_, rfl, HJ2⟩⟩
  · skip
    have h1p := of_decide_eq_true h1
    refine x_t (by kernel_rfl) ?_
    refine x_skipc ?_
    refine x_then ?_
    refine x_seq ?_
    refine x_block ?_
    refine x_seq ?_
    refine x_region ?_
    refine x_ix (t := 226) g 0 k (List.length xs) cap 230 3 (k * 3) (by omega) (by omega) (by kernel_rfl) (by kernel_rfl) (by kernel_rfl) rfl (by kernel_rfl) ?_
    refine x_loadcn (t := 230) g (k * 3) [.int .i64 ((xs.getD k (0, 0, 0)).1), .int .i64 ((xs.getD k (0, 0, 0)).2.1), .int .i64 ((xs.getD k (0, 0, 0)).2.2)] ((H.ro R0).rowCells 2 rfl (k * 3) (flatAt pairLenB (0, 0, 0) _ (by omega))) (by kernel_rfl) rfl (by kernel_rfl) (by kernel_rfl) ?_
    refine x_box H #[.int .i64 0, .int .i64 0, .int .i64 0] 230 (by kernel_rfl) rfl (by kernel_rfl) ?_
    clear H
    intro v2 g1 H
    refine x_store (t := 230) (v := .agg #[.int .i64 ((xs.getD k (0, 0, 0)).1), .int .i64 ((xs.getD k (0, 0, 0)).2.1), .int .i64 ((xs.getD k (0, 0, 0)).2.2)]) H 0 g1 0 _ #[.int .i64 ((xs.getD k (0, 0, 0)).1), .int .i64 ((xs.getD k (0, 0, 0)).2.1), .int .i64 ((xs.getD k (0, 0, 0)).2.2)] 230 [.int .i64 ((xs.getD k (0, 0, 0)).1), .int .i64 ((xs.getD k (0, 0, 0)).2.1), .int .i64 ((xs.getD k (0, 0, 0)).2.2)] _ rfl rfl (by kernel_rfl) (by kernel_rfl) (by kernel_rfl) rfl (by kernel_rfl) (by kernel_rfl) (by kernel_rfl) (by kernel_rfl) ?_
    clear H
    intro v3 H
    refine x_nil ?_
    refine x_then ?_
    refine x_seq ?_
    refine x_region ?_
    refine x_val (.func (.yield l) #[] #[]) (by kernel_rfl) rfl (by kernel_rfl) ?_
    refine x_val (.pointer (some ⟨g1, 0, none⟩)) (by kernel_rfl) rfl (by kernel_rfl) ?_
    refine x_load1 H 0 g1 0 _ _ (.int .i64 ((xs.getD k (0, 0, 0)).1)) rfl (by kernel_rfl) (by kernel_rfl) rfl (by kernel_rfl) ?_
    refine x_val (.pointer (some ⟨g1, 1, none⟩)) (by kernel_rfl) rfl (by kernel_rfl) ?_
    refine x_loadn (t := 86) H 0 g1 1 _ _ [.int .i64 ((xs.getD k (0, 0, 0)).2.1), .int .i64 ((xs.getD k (0, 0, 0)).2.2)] rfl (by kernel_rfl) (by kernel_rfl) rfl (by kernel_rfl) (by kernel_rfl) ?_
    have HJ2 := hJ _ _ _ none hJ1 (below_grown H.below) (fun r e => by cases e)
    refine x_yield (hY _ (xs.getD k (0, 0, 0)) _ HJ2 (by rw [List.length_take]; omega)) (by kernel_rfl) rfl (by kernel_rfl) ?_
    rintro e v2 (⟨rfl, hJ3, hKp⟩ | ⟨rfl, hJx3⟩)
    · skip
      refine ⟨_, rfl, ?_⟩
      have R3 := hKp (H.ro R0)
      clear H
      have H := Hs.nil v2
      refine x_val (.bool false) (by kernel_rfl) rfl (by kernel_rfl) ?_
      refine x_nil ?_
      refine x_then ?_
      refine x_f (by kernel_rfl) ?_
      refine x_skipc ?_
      refine x_blk ?_
      refine x_then ?_
      refine x_region ?_
      refine x_ar (((k : Nat) : Int) + 1) ⟨by omega, by omega⟩ (by kernel_rfl) rfl (by kernel_rfl) ?_
      refine x_val (.int .i64 (((k : Nat) : Int) + 1)) (by kernel_rfl) rfl (by kernel_rfl) ?_
      refine x_nil ?_
      refine x_then ?_
      exact ⟨(k + 1, v2), (by dsimp only; omega), (nthV [.pointer (some ⟨g1, 0, none⟩), .bool true, .pointer (some ⟨g, k * 3, none⟩), .agg #[.int .i64 ((xs.getD k (0, 0, 0)).1), .int .i64 ((xs.getD k (0, 0, 0)).2.1), .int .i64 ((xs.getD k (0, 0, 0)).2.2)], .func (.yield l) #[] #[], .pointer (some ⟨g1, 0, none⟩), .int .i64 ((xs.getD k (0, 0, 0)).1), .pointer (some ⟨g1, 1, none⟩), .agg #[.int .i64 ((xs.getD k (0, 0, 0)).2.1), .int .i64 ((xs.getD k (0, 0, 0)).2.2)], .bool true, .bool false, .int .i64 (((k : Nat) : Int) + 1)]), (by kernel_rfl), H, (by omega), (by rw [take_nextB xs k (by omega)]; exact hJ3), R3⟩
    · skip
      refine ⟨_, rfl, ?_⟩
      clear H
      have H := Hs.nil v2
      refine x_val (.bool true) (by kernel_rfl) rfl (by kernel_rfl) ?_
      refine x_nil ?_
      refine x_then ?_
      refine x_t (by kernel_rfl) ?_
      refine x_retc ?_
      refine x_blk_ret ?_
      refine x_then_ret ?_
      refine x_then_ret ?_
      refine x_blk_ret ?_
      refine x_ret (.tuple #[]) (by kernel_rfl) (by kernel_rfl) ?_
      exact ⟨⟨_, rfl⟩, .inr ⟨_, by rw [← take_nextB xs k (by omega)]; exact List.take_prefix _ _, hJx3⟩⟩)

set_option maxRecDepth 100000 in
set_option maxHeartbeats 2000000 in
theorem tvalsB_n {t q room : Nat} {xs : List PairB} (hn : xs.length ≤ 4096) (W0 : World) (hR : Ro W0 [.blk q #[.pointer (some ⟨t, 0, none⟩)] 182, .blk t #[.slice none 0 0, .int .i64 ((room : Nat) : Int), .func (.func 103) #[] #[]] 228, .row (.slice none 0 0) 230 3 (List.length xs) (List.flatMap pairLB xs)]) :
    SeqStopsK (FW none) 0 Try.prog 167 #[.pointer (some ⟨q, 0, none⟩)] (fun x : PairB => #[.int .i64 x.1, .agg #[.int .i64 x.2.1, .int .i64 x.2.2]]) (KpOf [.blk q #[.pointer (some ⟨t, 0, none⟩)] 182, .blk t #[.slice none 0 0, .int .i64 ((room : Nat) : Int), .func (.func 103) #[] #[]] 228, .row (.slice none 0 0) 230 3 (List.length xs) (List.flatMap pairLB xs)]) (fun ys => ys = xs) (fun pre => pre <+: xs) xs.length W0 := fun l J Jx W hW hJ hJx hY h0 => callsFW.2 (by
  refine x_enter Try.func167 rfl #[.func (.yield l) #[] #[], .pointer (some ⟨q, 0, none⟩), undef, undef, undef, undef, undef, undef, undef, undef, undef, undef, undef, undef, undef, undef, undef, undef, undef, undef, undef, undef] (by kernel_rfl) ?_
  have H := Hs.nil W
  have R0 : Ro W [.blk q #[.pointer (some ⟨t, 0, none⟩)] 182, .blk t #[.slice none 0 0, .int .i64 ((room : Nat) : Int), .func (.func 103) #[] #[]] 228, .row (.slice none 0 0) 230 3 (List.length xs) (List.flatMap pairLB xs)] := fun i r hi => Res.keep (hR i r hi) fun g hg => hW.block g (Res.lt (hR i r hi) g hg)
  have hx0 : xs.length = 0 := by rcases rowForm (hR 2 _ rfl : W0.ownsRow 0 _ 3 _ _ _) with ⟨_, h⟩ | ⟨g, cap, h, _⟩ <;> first | exact h | simp at h
  refine x_seq ?_
  refine x_region ?_
  refine x_loadc q 0 (.pointer (some ⟨t, 0, none⟩)) ((H.ro R0).cell 0 rfl 0 rfl) (by kernel_rfl) rfl (by kernel_rfl) ?_
  refine x_val (.pointer (some ⟨t, 0, none⟩)) (by kernel_rfl) rfl (by kernel_rfl) ?_
  refine x_val (.pointer (some ⟨t, 0, none⟩)) (by kernel_rfl) rfl (by kernel_rfl) ?_
  refine x_loadc t 0 (.slice none 0 0) ((H.ro R0).cell 1 rfl 0 rfl) (by kernel_rfl) rfl (by kernel_rfl) ?_
  refine x_val (.int .i64 0) (by kernel_rfl) rfl (by kernel_rfl) ?_
  refine x_val (.int .i64 0) (by kernel_rfl) rfl (by kernel_rfl) ?_
  refine x_nil ?_
  refine x_then ?_
  refine x_block ?_
  refine x_loop (G := Nat × World) (fun gh a w' => match gh with | (k, wb) => ∃ uf1 : Nat → Value, a = { tmps := #[.func (.yield l) #[] #[], .pointer (some ⟨q, 0, none⟩), undef, undef, (uf1 0), .pointer (some ⟨t, 0, none⟩), .pointer (some ⟨t, 0, none⟩), .pointer (some ⟨t, 0, none⟩), .slice none 0 0, .int .i64 0, .int .i64 ((k : Nat) : Int), (uf1 1), (uf1 2), (uf1 3), (uf1 4), (uf1 5), (uf1 6), (uf1 7), (uf1 8), (uf1 9), (uf1 10), (uf1 11)], defers := [] } ∧ Hs [] wb w' [] ∧ (k ≤ xs.length) ∧ (J (xs.take k) wb) ∧ (Ro wb [.blk q #[.pointer (some ⟨t, 0, none⟩)] 182, .blk t #[.slice none 0 0, .int .i64 ((room : Nat) : Int), .func (.func 103) #[] #[]] 228, .row (.slice none 0 0) 230 3 (List.length xs) (List.flatMap pairLB xs)])) (fun gh => match gh with | (k, wb) => xs.length - k) (0, W) ⟨(nthV [undef, undef, undef, undef, undef, undef, undef, undef, undef, undef, undef, undef]), (by kernel_rfl), H, (Nat.zero_le _), (by simpa using h0), R0⟩ ?_
  clear H
  rintro ⟨k, wb⟩ _ v1 ⟨uf1, rfl, H, r1, r2, r3⟩
  have hJ1 := r2
  have R0 := r3
  refine x_seq ?_
  refine x_region ?_
  refine x_val (.bool (decide (((k : Nat) : Int) < 0))) (by kernel_rfl) rfl (by kernel_rfl) ?_
  refine x_nil ?_
  refine x_then ?_
  refine x_seq ?_
  cases h1 : decide (((k : Nat) : Int) < 0)
  · skip
    have h1p := of_decide_eq_false h1
    refine x_f (by kernel_rfl) ?_
    refine x_exit ?_
    refine x_then_exit ?_
    refine x_then_exit ?_
    refine x_blk_exit ?_
    refine x_end (.tuple #[]) (by kernel_rfl) (by kernel_rfl) ?_
    have hk : k = xs.length := by omega
    have HJ2 := hJ _ _ _ none hJ1 (below_grown H.below) (fun r e => by cases e)
    rw [hk, List.take_length] at HJ2
    exact ⟨⟨_, rfl⟩, .inl ⟨_, rfl, HJ2⟩⟩
  · skip
    have h1p := of_decide_eq_true h1
    exact absurd h1p (by omega))

theorem tvalsB_of {t q room : Nat} {sv : Value} {xs : List PairB} (hn : xs.length ≤ 4096) (W0 : World) (hR : Ro W0 [.blk q #[.pointer (some ⟨t, 0, none⟩)] 182, .blk t #[sv, .int .i64 ((room : Nat) : Int), .func (.func 103) #[] #[]] 228, .row (sv) 230 3 (List.length xs) (List.flatMap pairLB xs)]) :
    SeqStopsK (FW none) 0 Try.prog 167 #[.pointer (some ⟨q, 0, none⟩)] (fun x : PairB => #[.int .i64 x.1, .agg #[.int .i64 x.2.1, .int .i64 x.2.2]]) (KpOf [.blk q #[.pointer (some ⟨t, 0, none⟩)] 182, .blk t #[sv, .int .i64 ((room : Nat) : Int), .func (.func 103) #[] #[]] 228, .row (sv) 230 3 (List.length xs) (List.flatMap pairLB xs)]) (fun ys => ys = xs) (fun pre => pre <+: xs) xs.length W0 := by
  rcases rowForm (hR 2 _ rfl : W0.ownsRow 0 _ 3 sv _ _) with ⟨rfl, h0⟩ | ⟨g, cap, rfl, hc, _⟩
  · exact tvalsB_n hn W0 hR
  · exact tvalsB_s hn W0 hR

end Go.Proofs.Ytgpalgbdacoagaa
