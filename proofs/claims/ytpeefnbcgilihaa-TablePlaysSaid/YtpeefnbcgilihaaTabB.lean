/- Contracts of table.Table: New, Put, Get, Drop, Len. -/
import Derived.Test.YtpeefnbcgilihaaTabA
namespace Go.Proofs.Ytpeefnbcgilihaa
open Go Go.RowKit
set_option linter.unusedVariables false
set_option linter.unusedSimpArgs false

/-- What a table with room for some has, the key that went, and whether one did. -/
def putI (room : Nat) (xs : List PairI) (k : Int) (v : Int) : List PairI × Int × Bool :=
  if fkI xs k < xs.length then (xs.set (fkI xs k) ((xs.getD (fkI xs k) (0, 0)).1, v), 0, false)
  else if xs.length < room then (xs ++ [(k, v)], 0, false)
  else (xs.eraseIdx (ltI xs xs.length).1 ++ [(k, v)], (xs.getD (ltI xs xs.length).1 (0, 0)).1, true)
theorem lt_ltI (xs : List PairI) : ∀ k, 0 < k → (ltI xs k).1 < k
  | 0, h => absurd h (Nat.lt_irrefl _)
  | 1, _ => by rw [ltI, if_pos (.inl rfl)]; show 0 < 1; exact Nat.zero_lt_one
  | k + 2, _ => by
    rw [ltI]
    split
    · show k + 1 < k + 2; omega
    · have := lt_ltI xs (k + 1) (by omega); omega

set_option maxRecDepth 100000 in
set_option maxHeartbeats 2000000 in
theorem Put_setI {t : Nat} {xs : List PairI} {room : Nat} (k : Int) (v : Int) {g cap : Nat} (hn : xs.length ≤ 4096) (hq : (fkI xs k) < xs.length) (w0 : World) (H0 : Hs (fps [.blk t #[.slice (some ⟨g, 0, none⟩) (List.length xs) cap, .int .i64 ((room : Nat) : Int), .func (.func 26) #[] #[]] 90, .row (.slice (some ⟨g, 0, none⟩) (List.length xs) cap) 92 2 (List.length xs) (List.flatMap pairLI xs)]) w0 w0 [.blk t #[.slice (some ⟨g, 0, none⟩) (List.length xs) cap, .int .i64 ((room : Nat) : Int), .func (.func 26) #[] #[]] 90, .row (.slice (some ⟨g, 0, none⟩) (List.length xs) cap) 92 2 (List.length xs) (List.flatMap pairLI xs)]) :
    Calls Try.prog 28 #[.pointer (some ⟨t, 0, none⟩), .int .i64 k, .int .i64 v] w0 fun e w' => ∃ sv', e = .returned (.tuple #[.int .i64 0, .bool false]) ∧ Hs (fps [.blk t #[.slice (some ⟨g, 0, none⟩) (List.length xs) cap, .int .i64 ((room : Nat) : Int), .func (.func 26) #[] #[]] 90, .row (.slice (some ⟨g, 0, none⟩) (List.length xs) cap) 92 2 (List.length xs) (List.flatMap pairLI xs)]) w0 w' [.blk t #[sv', .int .i64 ((room : Nat) : Int), .func (.func 26) #[] #[]] 90, .row (sv') 92 2 (List.length (xs.set (fkI xs k) ((xs.getD (fkI xs k) (0, 0)).1, v))) (List.flatMap pairLI (xs.set (fkI xs k) ((xs.getD (fkI xs k) (0, 0)).1, v)))] := by
  refine x_enter Try.func28 rfl #[.pointer (some ⟨t, 0, none⟩), .int .i64 k, .int .i64 v, undef, undef, undef, undef, undef, undef, undef, undef, undef, undef, undef, undef, undef, undef, undef, undef, undef, undef, undef, undef, undef, undef, undef, undef, undef, undef, undef, undef, undef, undef, undef, undef, undef, undef, undef, undef, undef, undef, undef, undef, undef, undef, undef, undef, undef, undef, undef, undef] (by kernel_rfl) ?_
  have H := H0
  refine x_seq ?_
  refine x_region ?_
  refine x_val (.int .i64 0) (by kernel_rfl) rfl (by kernel_rfl) ?_
  refine x_val (.bool false) (by kernel_rfl) rfl (by kernel_rfl) ?_
  refine x_nil ?_
  refine x_then ?_
  refine x_seq ?_
  refine x_seq ?_
  refine x_region ?_
  refine x_val (.pointer (some ⟨t, 0, none⟩)) (by kernel_rfl) rfl (by kernel_rfl) ?_
  refine x_val (.int .i64 k) (by kernel_rfl) rfl (by kernel_rfl) ?_
  refine x_callB (.int .i64 (((fkI xs k) : Nat) : Int)) H (by kernel_rfl) rfl (by kernel_rfl) (by have h := find_I (room := room) k hn _ (H.roOf [0, 1] [.blk t #[.slice (some ⟨g, 0, none⟩) (List.length xs) cap, .int .i64 ((room : Nat) : Int), .func (.func 26) #[] #[]] 90, .row (.slice (some ⟨g, 0, none⟩) (List.length xs) cap) 92 2 (List.length xs) (List.flatMap pairLI xs)] (by kernel_rfl)); rw [show findI xs k = (((fkI xs k) : Nat) : Int) by unfold findI; rw [if_pos hq]] at h; exact h) ?_
  clear H
  intro v1 H
  refine x_val (.int .i64 (((fkI xs k) : Nat) : Int)) (by kernel_rfl) rfl (by kernel_rfl) ?_
  refine x_nil ?_
  refine x_then ?_
  refine x_seq ?_
  refine x_region ?_
  refine x_val (.int .i64 (((fkI xs k) : Nat) : Int)) (by kernel_rfl) rfl (by kernel_rfl) ?_
  refine x_val (.bool (decide (0 ≤ (((fkI xs k) : Nat) : Int)))) (by kernel_rfl) rfl (by kernel_rfl) ?_
  refine x_nil ?_
  refine x_then ?_
  cases h1 : decide (0 ≤ (((fkI xs k) : Nat) : Int))
  · skip
    have h1p := of_decide_eq_false h1
    exact absurd h1p (by omega)
  · skip
    have h1p := of_decide_eq_true h1
    refine x_t (by kernel_rfl) ?_
    refine x_seq ?_
    refine x_region ?_
    refine x_val (.pointer (some ⟨t, 0, none⟩)) (by kernel_rfl) rfl (by kernel_rfl) ?_
    refine x_val (.pointer (some ⟨t, 0, none⟩)) (by kernel_rfl) rfl (by kernel_rfl) ?_
    refine x_val (.pointer (some ⟨t, 0, none⟩)) (by kernel_rfl) rfl (by kernel_rfl) ?_
    refine x_load1 H 0 t 0 #[.slice (some ⟨g, 0, none⟩) (List.length xs) cap, .int .i64 ((room : Nat) : Int), .func (.func 26) #[] #[]] 90 (.slice (some ⟨g, 0, none⟩) (List.length xs) cap) (by kernel_rfl) (by kernel_rfl) (by kernel_rfl) rfl (by kernel_rfl) ?_
    refine x_val (.int .i64 (((fkI xs k) : Nat) : Int)) (by kernel_rfl) rfl (by kernel_rfl) ?_
    refine x_val (.int .i64 v) (by kernel_rfl) rfl (by kernel_rfl) ?_
    refine x_ix (t := 88) g 0 (fkI xs k) (List.length xs) cap 92 2 ((fkI xs k) * 2) (by omega) (by omega) (by kernel_rfl) (by kernel_rfl) (by kernel_rfl) rfl (by kernel_rfl) ?_
    refine x_val (.pointer (some ⟨g, (fkI xs k) * 2 + 1, none⟩)) (by kernel_rfl) rfl (by kernel_rfl) ?_
    refine x_storeRow (t := 3) (v := .int .i64 v) H 1 g ((fkI xs k) * 2 + 1) (List.length xs) cap 92 2 (List.flatMap pairLI xs) [.int .i64 v] (List.flatMap pairLI (xs.set (fkI xs k) ((xs.getD (fkI xs k) (0, 0)).1, v))) [.blk t #[.slice (some ⟨g, 0, none⟩) (List.length xs) cap, .int .i64 ((room : Nat) : Int), .func (.func 26) #[] #[]] 90, .row (.slice (some ⟨g, 0, none⟩) (List.length xs) cap) 92 2 (List.length xs) (List.flatMap pairLI (xs.set (fkI xs k) ((xs.getD (fkI xs k) (0, 0)).1, v)))] rfl (by simp only [List.length_cons, List.length_nil]; omega) (by kernel_rfl) (flatSet pairLenI (d := (0, 0)) xs (by omega) 1 _ _ rfl) rfl (by kernel_rfl) rfl (by kernel_rfl) (by kernel_rfl) (by kernel_rfl) ?_
    clear H
    intro v2 H
    refine x_nil ?_
    refine x_then ?_
    refine x_seq ?_
    refine x_region ?_
    refine x_val (.int .i64 0) (by kernel_rfl) rfl (by kernel_rfl) ?_
    refine x_val (.int .i64 0) (by kernel_rfl) rfl (by kernel_rfl) ?_
    refine x_val (.bool false) (by kernel_rfl) rfl (by kernel_rfl) ?_
    refine x_nil ?_
    refine x_then ?_
    refine x_retc ?_
    refine x_then_ret ?_
    refine x_ret (.tuple #[.int .i64 0, .bool false]) (by kernel_rfl) (by kernel_rfl) ?_
    have hll : (xs.set (fkI xs k) ((xs.getD (fkI xs k) (0, 0)).1, v)).length = xs.length := List.length_set
    refine ⟨.slice (some ⟨g, 0, none⟩) (List.length xs) cap, rfl, ?_⟩
    rw [hll]
    exact H.pick [0, 1] _ (by decide) (by kernel_rfl)

set_option maxRecDepth 100000 in
set_option maxHeartbeats 2000000 in
theorem Put_roomI_n {t : Nat} {xs : List PairI} {room : Nat} (k : Int) (v : Int) (hn : xs.length ≤ 4096) (hq : ¬ (fkI xs k) < xs.length) (hr : xs.length < room) (w0 : World) (H0 : Hs (fps [.blk t #[.slice none 0 0, .int .i64 ((room : Nat) : Int), .func (.func 26) #[] #[]] 90, .row (.slice none 0 0) 92 2 (List.length xs) (List.flatMap pairLI xs)]) w0 w0 [.blk t #[.slice none 0 0, .int .i64 ((room : Nat) : Int), .func (.func 26) #[] #[]] 90, .row (.slice none 0 0) 92 2 (List.length xs) (List.flatMap pairLI xs)]) :
    Calls Try.prog 28 #[.pointer (some ⟨t, 0, none⟩), .int .i64 k, .int .i64 v] w0 fun e w' => ∃ sv', e = .returned (.tuple #[.int .i64 0, .bool false]) ∧ Hs (fps [.blk t #[.slice none 0 0, .int .i64 ((room : Nat) : Int), .func (.func 26) #[] #[]] 90, .row (.slice none 0 0) 92 2 (List.length xs) (List.flatMap pairLI xs)]) w0 w' [.blk t #[sv', .int .i64 ((room : Nat) : Int), .func (.func 26) #[] #[]] 90, .row (sv') 92 2 (List.length (xs ++ [(k, v)])) (List.flatMap pairLI (xs ++ [(k, v)]))] := by
  refine x_enter Try.func28 rfl #[.pointer (some ⟨t, 0, none⟩), .int .i64 k, .int .i64 v, undef, undef, undef, undef, undef, undef, undef, undef, undef, undef, undef, undef, undef, undef, undef, undef, undef, undef, undef, undef, undef, undef, undef, undef, undef, undef, undef, undef, undef, undef, undef, undef, undef, undef, undef, undef, undef, undef, undef, undef, undef, undef, undef, undef, undef, undef, undef, undef] (by kernel_rfl) ?_
  have H := H0
  have q1 : decide (0 = ((room : Nat) : Int)) = false := by simp; omega
  refine x_seq ?_
  refine x_region ?_
  refine x_val (.int .i64 0) (by kernel_rfl) rfl (by kernel_rfl) ?_
  refine x_val (.bool false) (by kernel_rfl) rfl (by kernel_rfl) ?_
  refine x_nil ?_
  refine x_then ?_
  refine x_seq ?_
  refine x_seq ?_
  refine x_region ?_
  refine x_val (.pointer (some ⟨t, 0, none⟩)) (by kernel_rfl) rfl (by kernel_rfl) ?_
  refine x_val (.int .i64 k) (by kernel_rfl) rfl (by kernel_rfl) ?_
  refine x_callB (.int .i64 (-1)) H (by kernel_rfl) rfl (by kernel_rfl) (by have h := find_I (room := room) k hn _ (H.roOf [0, 1] [.blk t #[.slice none 0 0, .int .i64 ((room : Nat) : Int), .func (.func 26) #[] #[]] 90, .row (.slice none 0 0) 92 2 (List.length xs) (List.flatMap pairLI xs)] (by kernel_rfl)); rw [show findI xs k = -1 by unfold findI; rw [if_neg hq]] at h; exact h) ?_
  clear H
  intro v1 H
  refine x_val (.int .i64 (-1)) (by kernel_rfl) rfl (by kernel_rfl) ?_
  refine x_nil ?_
  refine x_then ?_
  refine x_seq ?_
  refine x_region ?_
  refine x_val (.int .i64 (-1)) (by kernel_rfl) rfl (by kernel_rfl) ?_
  refine x_val (.bool false) (by kernel_rfl) rfl (by kernel_rfl) ?_
  refine x_nil ?_
  refine x_then ?_
  refine x_f (by kernel_rfl) ?_
  refine x_skipc ?_
  refine x_then ?_
  refine x_seq ?_
  refine x_seq ?_
  refine x_region_whole (fun w' => Hs (fps [.blk t #[.slice none 0 0, .int .i64 ((room : Nat) : Int), .func (.func 26) #[] #[]] 90, .row (.slice none 0 0) 92 2 (List.length xs) (List.flatMap pairLI xs)]) w0 w' [.blk t #[.slice none 0 0, .int .i64 ((room : Nat) : Int), .func (.func 26) #[] #[]] 90, .row (.slice none 0 0) 92 2 (List.length xs) (List.flatMap pairLI xs)]) (by kernel_rfl) (by kernel_rfl) (by kernel_rfl) H.drew ?_
  refine q_val (.pointer (some ⟨t, 0, none⟩)) (by kernel_rfl) (fun _ => by kernel_rfl) ?_
  refine q_val (.pointer (some ⟨t, 0, none⟩)) (by kernel_rfl) (fun _ => by kernel_rfl) ?_
  refine q_val (.pointer (some ⟨t, 0, none⟩)) (by kernel_rfl) (fun _ => by kernel_rfl) ?_
  refine q_load1 0 t 0 #[.slice none 0 0, .int .i64 ((room : Nat) : Int), .func (.func 26) #[] #[]] 90 (.slice none 0 0) (by kernel_rfl) (by kernel_rfl) (by kernel_rfl) (fun _ => by kernel_rfl) ?_
  refine q_val (.int .i64 0) (by kernel_rfl) (fun _ => by kernel_rfl) ?_
  refine q_val (.pointer (some ⟨t, 0, none⟩)) (by kernel_rfl) (fun _ => by kernel_rfl) ?_
  refine q_val (.pointer (some ⟨t, 0, none⟩)) (by kernel_rfl) (fun _ => by kernel_rfl) ?_
  refine q_val (.pointer (some ⟨t, 1, none⟩)) (by kernel_rfl) (fun _ => by kernel_rfl) ?_
  refine q_load1 0 t 1 #[.slice none 0 0, .int .i64 ((room : Nat) : Int), .func (.func 26) #[] #[]] 90 (.int .i64 ((room : Nat) : Int)) (by kernel_rfl) (by kernel_rfl) (by kernel_rfl) (fun _ => by kernel_rfl) ?_
  refine q_val (.bool (decide (0 = ((room : Nat) : Int)))) (by kernel_rfl) (fun _ => by kernel_rfl) ?_
  refine q_nil ?_
  clear H
  intro v2 H
  refine x_then ?_
  rw [q1]
  refine x_f (by kernel_rfl) ?_
  refine x_skipc ?_
  refine x_then ?_
  refine x_seq ?_
  refine x_region ?_
  refine x_val (.pointer (some ⟨t, 0, none⟩)) (by kernel_rfl) rfl (by kernel_rfl) ?_
  refine x_val (.pointer (some ⟨t, 0, none⟩)) (by kernel_rfl) rfl (by kernel_rfl) ?_
  refine x_val (.pointer (some ⟨t, 0, none⟩)) (by kernel_rfl) rfl (by kernel_rfl) ?_
  refine x_val (.pointer (some ⟨t, 0, none⟩)) (by kernel_rfl) rfl (by kernel_rfl) ?_
  refine x_load1 H 0 t 0 #[.slice none 0 0, .int .i64 ((room : Nat) : Int), .func (.func 26) #[] #[]] 90 (.slice none 0 0) (by kernel_rfl) (by kernel_rfl) (by kernel_rfl) rfl (by kernel_rfl) ?_
  refine x_val (.int .i64 k) (by kernel_rfl) rfl (by kernel_rfl) ?_
  refine x_val (.int .i64 v) (by kernel_rfl) rfl (by kernel_rfl) ?_
  refine x_val (.agg #[.int .i64 k, .int .i64 v]) (by kernel_rfl) rfl (by kernel_rfl) ?_
  refine x_box' H #[.int .i64 k, .int .i64 v] 92 1 (by kernel_rfl) rfl (by kernel_rfl) ?_
  clear H
  intro v3 g1 H
  refine x_append H 2 (.slice none 0 0) 88 92 2 16 (List.length xs) (.agg #[.int .i64 0, .int .i64 0]) (List.flatMap pairLI xs) ⟨g1, 0, none⟩ 1 1 [.int .i64 k, .int .i64 v] rfl (by kernel_rfl) (by kernel_rfl) rfl (by decide) (by decide) rfl (fun j u hj => by rw [add_none]; exact cellOf (H.blk 0 rfl) (by simpa using hj)) (List.all_eq_true.1 (by kernel_rfl)) (by unfold maxLen; omega) (by omega) (by kernel_rfl) rfl (by kernel_rfl) ?_
  clear H
  intro v4 g2 c2 hc2 H
  rw [show (((List.length xs) + 1) : Nat) = (List.length (xs ++ [(k, v)])) from (by simp)] at H ⊢
  rw [show (List.flatMap pairLI xs) ++ [.int .i64 k, .int .i64 v] = (List.flatMap pairLI (xs ++ [(k, v)])) from (by rw [List.flatMap_append]; rfl)] at H
  replace H : Hs (fps [.blk t #[.slice none 0 0, .int .i64 ((room : Nat) : Int), .func (.func 26) #[] #[]] 90, .row (.slice none 0 0) 92 2 (List.length xs) (List.flatMap pairLI xs)]) w0 v4 [.blk g1 #[.int .i64 k, .int .i64 v] 92, .blk t #[.slice none 0 0, .int .i64 ((room : Nat) : Int), .func (.func 26) #[] #[]] 90, .row (.slice (some ⟨g2, 0, none⟩) (List.length (xs ++ [(k, v)])) c2) 92 2 (List.length (xs ++ [(k, v)])) (List.flatMap pairLI (xs ++ [(k, v)]))] := H
  replace H := H.pick [1, 2] [.blk t #[.slice none 0 0, .int .i64 ((room : Nat) : Int), .func (.func 26) #[] #[]] 90, .row (.slice (some ⟨g2, 0, none⟩) (List.length (xs ++ [(k, v)])) c2) 92 2 (List.length (xs ++ [(k, v)])) (List.flatMap pairLI (xs ++ [(k, v)]))] (by decide) (by kernel_rfl)
  refine x_val (.pointer (some ⟨t, 0, none⟩)) (by kernel_rfl) rfl (by kernel_rfl) ?_
  refine x_val (.pointer (some ⟨t, 0, none⟩)) (by kernel_rfl) rfl (by kernel_rfl) ?_
  refine x_store (t := 88) (v := .slice (some ⟨g2, 0, none⟩) (List.length (xs ++ [(k, v)])) c2) H 0 t 0 #[.slice none 0 0, .int .i64 ((room : Nat) : Int), .func (.func 26) #[] #[]] #[.slice (some ⟨g2, 0, none⟩) (List.length (xs ++ [(k, v)])) c2, .int .i64 ((room : Nat) : Int), .func (.func 26) #[] #[]] 90 [.slice (some ⟨g2, 0, none⟩) (List.length (xs ++ [(k, v)])) c2] [.blk t #[.slice (some ⟨g2, 0, none⟩) (List.length (xs ++ [(k, v)])) c2, .int .i64 ((room : Nat) : Int), .func (.func 26) #[] #[]] 90, .row (.slice (some ⟨g2, 0, none⟩) (List.length (xs ++ [(k, v)])) c2) 92 2 (List.length (xs ++ [(k, v)])) (List.flatMap pairLI (xs ++ [(k, v)]))] (by kernel_rfl) rfl (by kernel_rfl) (by kernel_rfl) (by kernel_rfl) (by kernel_rfl) (by kernel_rfl) (by kernel_rfl) (by kernel_rfl) (by kernel_rfl) ?_
  clear H
  intro v5 H
  refine x_nil ?_
  refine x_frame' { tmps := #[.pointer (some ⟨t, 0, none⟩), .int .i64 k, .int .i64 v, undef, undef, undef, .int .i64 0, .bool false, .int .i64 (-1), .pointer (some ⟨t, 0, none⟩), .int .i64 k, .int .i64 (-1), .int .i64 (-1), .bool false, undef, undef, undef, undef, undef, undef, undef, undef, undef, .pointer (some ⟨t, 0, none⟩), .pointer (some ⟨t, 0, none⟩), .pointer (some ⟨t, 0, none⟩), .slice none 0 0, .int .i64 0, .pointer (some ⟨t, 0, none⟩), .pointer (some ⟨t, 0, none⟩), .pointer (some ⟨t, 1, none⟩), .int .i64 ((room : Nat) : Int), .bool false, undef, undef, undef, undef, .pointer (some ⟨t, 0, none⟩), .pointer (some ⟨t, 0, none⟩), .pointer (some ⟨t, 0, none⟩), .pointer (some ⟨t, 0, none⟩), .slice none 0 0, .int .i64 k, .int .i64 v, .agg #[.int .i64 k, .int .i64 v], .slice (some ⟨g1, 0, none⟩) 1 1, .slice (some ⟨g2, 0, none⟩) (List.length (xs ++ [(k, v)])) c2, .pointer (some ⟨t, 0, none⟩), .pointer (some ⟨t, 0, none⟩), undef, undef], defers := [] } (by kernel_rfl) ?_
  refine x_then ?_
  refine x_seq ?_
  refine x_region ?_
  refine x_val (.int .i64 0) (by kernel_rfl) rfl (by kernel_rfl) ?_
  refine x_val (.bool false) (by kernel_rfl) rfl (by kernel_rfl) ?_
  refine x_val (.int .i64 0) (by kernel_rfl) rfl (by kernel_rfl) ?_
  refine x_val (.bool false) (by kernel_rfl) rfl (by kernel_rfl) ?_
  refine x_nil ?_
  refine x_then ?_
  refine x_retc ?_
  refine x_ret (.tuple #[.int .i64 0, .bool false]) (by kernel_rfl) (by kernel_rfl) ?_
  replace H := H.pick [0, 1] [.blk t #[.slice (some ⟨g2, 0, none⟩) (List.length (xs ++ [(k, v)])) c2, .int .i64 ((room : Nat) : Int), .func (.func 26) #[] #[]] 90, .row (.slice (some ⟨g2, 0, none⟩) (List.length (xs ++ [(k, v)])) c2) 92 2 (List.length (xs ++ [(k, v)])) (List.flatMap pairLI (xs ++ [(k, v)]))] (by decide) (by kernel_rfl)
  exact ⟨_, rfl, H⟩

set_option maxRecDepth 100000 in
set_option maxHeartbeats 2000000 in
theorem Put_roomI_s {t : Nat} {xs : List PairI} {room : Nat} (k : Int) (v : Int) {g cap : Nat} (hn : xs.length ≤ 4096) (hq : ¬ (fkI xs k) < xs.length) (hr : xs.length < room) (w0 : World) (H0 : Hs (fps [.blk t #[.slice (some ⟨g, 0, none⟩) (List.length xs) cap, .int .i64 ((room : Nat) : Int), .func (.func 26) #[] #[]] 90, .row (.slice (some ⟨g, 0, none⟩) (List.length xs) cap) 92 2 (List.length xs) (List.flatMap pairLI xs)]) w0 w0 [.blk t #[.slice (some ⟨g, 0, none⟩) (List.length xs) cap, .int .i64 ((room : Nat) : Int), .func (.func 26) #[] #[]] 90, .row (.slice (some ⟨g, 0, none⟩) (List.length xs) cap) 92 2 (List.length xs) (List.flatMap pairLI xs)]) :
    Calls Try.prog 28 #[.pointer (some ⟨t, 0, none⟩), .int .i64 k, .int .i64 v] w0 fun e w' => ∃ sv', e = .returned (.tuple #[.int .i64 0, .bool false]) ∧ Hs (fps [.blk t #[.slice (some ⟨g, 0, none⟩) (List.length xs) cap, .int .i64 ((room : Nat) : Int), .func (.func 26) #[] #[]] 90, .row (.slice (some ⟨g, 0, none⟩) (List.length xs) cap) 92 2 (List.length xs) (List.flatMap pairLI xs)]) w0 w' [.blk t #[sv', .int .i64 ((room : Nat) : Int), .func (.func 26) #[] #[]] 90, .row (sv') 92 2 (List.length (xs ++ [(k, v)])) (List.flatMap pairLI (xs ++ [(k, v)]))] := by
  refine x_enter Try.func28 rfl #[.pointer (some ⟨t, 0, none⟩), .int .i64 k, .int .i64 v, undef, undef, undef, undef, undef, undef, undef, undef, undef, undef, undef, undef, undef, undef, undef, undef, undef, undef, undef, undef, undef, undef, undef, undef, undef, undef, undef, undef, undef, undef, undef, undef, undef, undef, undef, undef, undef, undef, undef, undef, undef, undef, undef, undef, undef, undef, undef, undef] (by kernel_rfl) ?_
  have H := H0
  have q1 : decide ((((List.length xs) : Nat) : Int) = ((room : Nat) : Int)) = false := by simp; omega
  refine x_seq ?_
  refine x_region ?_
  refine x_val (.int .i64 0) (by kernel_rfl) rfl (by kernel_rfl) ?_
  refine x_val (.bool false) (by kernel_rfl) rfl (by kernel_rfl) ?_
  refine x_nil ?_
  refine x_then ?_
  refine x_seq ?_
  refine x_seq ?_
  refine x_region ?_
  refine x_val (.pointer (some ⟨t, 0, none⟩)) (by kernel_rfl) rfl (by kernel_rfl) ?_
  refine x_val (.int .i64 k) (by kernel_rfl) rfl (by kernel_rfl) ?_
  refine x_callB (.int .i64 (-1)) H (by kernel_rfl) rfl (by kernel_rfl) (by have h := find_I (room := room) k hn _ (H.roOf [0, 1] [.blk t #[.slice (some ⟨g, 0, none⟩) (List.length xs) cap, .int .i64 ((room : Nat) : Int), .func (.func 26) #[] #[]] 90, .row (.slice (some ⟨g, 0, none⟩) (List.length xs) cap) 92 2 (List.length xs) (List.flatMap pairLI xs)] (by kernel_rfl)); rw [show findI xs k = -1 by unfold findI; rw [if_neg hq]] at h; exact h) ?_
  clear H
  intro v1 H
  refine x_val (.int .i64 (-1)) (by kernel_rfl) rfl (by kernel_rfl) ?_
  refine x_nil ?_
  refine x_then ?_
  refine x_seq ?_
  refine x_region ?_
  refine x_val (.int .i64 (-1)) (by kernel_rfl) rfl (by kernel_rfl) ?_
  refine x_val (.bool false) (by kernel_rfl) rfl (by kernel_rfl) ?_
  refine x_nil ?_
  refine x_then ?_
  refine x_f (by kernel_rfl) ?_
  refine x_skipc ?_
  refine x_then ?_
  refine x_seq ?_
  refine x_seq ?_
  refine x_region_whole (fun w' => Hs (fps [.blk t #[.slice (some ⟨g, 0, none⟩) (List.length xs) cap, .int .i64 ((room : Nat) : Int), .func (.func 26) #[] #[]] 90, .row (.slice (some ⟨g, 0, none⟩) (List.length xs) cap) 92 2 (List.length xs) (List.flatMap pairLI xs)]) w0 w' [.blk t #[.slice (some ⟨g, 0, none⟩) (List.length xs) cap, .int .i64 ((room : Nat) : Int), .func (.func 26) #[] #[]] 90, .row (.slice (some ⟨g, 0, none⟩) (List.length xs) cap) 92 2 (List.length xs) (List.flatMap pairLI xs)]) (by kernel_rfl) (by kernel_rfl) (by kernel_rfl) H.drew ?_
  refine q_val (.pointer (some ⟨t, 0, none⟩)) (by kernel_rfl) (fun _ => by kernel_rfl) ?_
  refine q_val (.pointer (some ⟨t, 0, none⟩)) (by kernel_rfl) (fun _ => by kernel_rfl) ?_
  refine q_val (.pointer (some ⟨t, 0, none⟩)) (by kernel_rfl) (fun _ => by kernel_rfl) ?_
  refine q_load1 0 t 0 #[.slice (some ⟨g, 0, none⟩) (List.length xs) cap, .int .i64 ((room : Nat) : Int), .func (.func 26) #[] #[]] 90 (.slice (some ⟨g, 0, none⟩) (List.length xs) cap) (by kernel_rfl) (by kernel_rfl) (by kernel_rfl) (fun _ => by kernel_rfl) ?_
  refine q_val (.int .i64 (((List.length xs) : Nat) : Int)) (by kernel_rfl) (fun _ => by kernel_rfl) ?_
  refine q_val (.pointer (some ⟨t, 0, none⟩)) (by kernel_rfl) (fun _ => by kernel_rfl) ?_
  refine q_val (.pointer (some ⟨t, 0, none⟩)) (by kernel_rfl) (fun _ => by kernel_rfl) ?_
  refine q_val (.pointer (some ⟨t, 1, none⟩)) (by kernel_rfl) (fun _ => by kernel_rfl) ?_
  refine q_load1 0 t 1 #[.slice (some ⟨g, 0, none⟩) (List.length xs) cap, .int .i64 ((room : Nat) : Int), .func (.func 26) #[] #[]] 90 (.int .i64 ((room : Nat) : Int)) (by kernel_rfl) (by kernel_rfl) (by kernel_rfl) (fun _ => by kernel_rfl) ?_
  refine q_val (.bool (decide ((((List.length xs) : Nat) : Int) = ((room : Nat) : Int)))) (by kernel_rfl) (fun _ => by kernel_rfl) ?_
  refine q_nil ?_
  clear H
  intro v2 H
  refine x_then ?_
  rw [q1]
  refine x_f (by kernel_rfl) ?_
  refine x_skipc ?_
  refine x_then ?_
  refine x_seq ?_
  refine x_region ?_
  refine x_val (.pointer (some ⟨t, 0, none⟩)) (by kernel_rfl) rfl (by kernel_rfl) ?_
  refine x_val (.pointer (some ⟨t, 0, none⟩)) (by kernel_rfl) rfl (by kernel_rfl) ?_
  refine x_val (.pointer (some ⟨t, 0, none⟩)) (by kernel_rfl) rfl (by kernel_rfl) ?_
  refine x_val (.pointer (some ⟨t, 0, none⟩)) (by kernel_rfl) rfl (by kernel_rfl) ?_
  refine x_load1 H 0 t 0 #[.slice (some ⟨g, 0, none⟩) (List.length xs) cap, .int .i64 ((room : Nat) : Int), .func (.func 26) #[] #[]] 90 (.slice (some ⟨g, 0, none⟩) (List.length xs) cap) (by kernel_rfl) (by kernel_rfl) (by kernel_rfl) rfl (by kernel_rfl) ?_
  refine x_val (.int .i64 k) (by kernel_rfl) rfl (by kernel_rfl) ?_
  refine x_val (.int .i64 v) (by kernel_rfl) rfl (by kernel_rfl) ?_
  refine x_val (.agg #[.int .i64 k, .int .i64 v]) (by kernel_rfl) rfl (by kernel_rfl) ?_
  refine x_box' H #[.int .i64 k, .int .i64 v] 92 1 (by kernel_rfl) rfl (by kernel_rfl) ?_
  clear H
  intro v3 g1 H
  refine x_append H 2 (.slice (some ⟨g, 0, none⟩) (List.length xs) cap) 88 92 2 16 (List.length xs) (.agg #[.int .i64 0, .int .i64 0]) (List.flatMap pairLI xs) ⟨g1, 0, none⟩ 1 1 [.int .i64 k, .int .i64 v] rfl (by kernel_rfl) (by kernel_rfl) rfl (by decide) (by decide) rfl (fun j u hj => by rw [add_none]; exact cellOf (H.blk 0 rfl) (by simpa using hj)) (List.all_eq_true.1 (by kernel_rfl)) (by unfold maxLen; omega) (by omega) (by kernel_rfl) rfl (by kernel_rfl) ?_
  clear H
  intro v4 g2 c2 hc2 H
  rw [show (((List.length xs) + 1) : Nat) = (List.length (xs ++ [(k, v)])) from (by simp)] at H ⊢
  rw [show (List.flatMap pairLI xs) ++ [.int .i64 k, .int .i64 v] = (List.flatMap pairLI (xs ++ [(k, v)])) from (by rw [List.flatMap_append]; rfl)] at H
  replace H : Hs (fps [.blk t #[.slice (some ⟨g, 0, none⟩) (List.length xs) cap, .int .i64 ((room : Nat) : Int), .func (.func 26) #[] #[]] 90, .row (.slice (some ⟨g, 0, none⟩) (List.length xs) cap) 92 2 (List.length xs) (List.flatMap pairLI xs)]) w0 v4 [.blk g1 #[.int .i64 k, .int .i64 v] 92, .blk t #[.slice (some ⟨g, 0, none⟩) (List.length xs) cap, .int .i64 ((room : Nat) : Int), .func (.func 26) #[] #[]] 90, .row (.slice (some ⟨g2, 0, none⟩) (List.length (xs ++ [(k, v)])) c2) 92 2 (List.length (xs ++ [(k, v)])) (List.flatMap pairLI (xs ++ [(k, v)]))] := H
  replace H := H.pick [1, 2] [.blk t #[.slice (some ⟨g, 0, none⟩) (List.length xs) cap, .int .i64 ((room : Nat) : Int), .func (.func 26) #[] #[]] 90, .row (.slice (some ⟨g2, 0, none⟩) (List.length (xs ++ [(k, v)])) c2) 92 2 (List.length (xs ++ [(k, v)])) (List.flatMap pairLI (xs ++ [(k, v)]))] (by decide) (by kernel_rfl)
  refine x_val (.pointer (some ⟨t, 0, none⟩)) (by kernel_rfl) rfl (by kernel_rfl) ?_
  refine x_val (.pointer (some ⟨t, 0, none⟩)) (by kernel_rfl) rfl (by kernel_rfl) ?_
  refine x_store (t := 88) (v := .slice (some ⟨g2, 0, none⟩) (List.length (xs ++ [(k, v)])) c2) H 0 t 0 #[.slice (some ⟨g, 0, none⟩) (List.length xs) cap, .int .i64 ((room : Nat) : Int), .func (.func 26) #[] #[]] #[.slice (some ⟨g2, 0, none⟩) (List.length (xs ++ [(k, v)])) c2, .int .i64 ((room : Nat) : Int), .func (.func 26) #[] #[]] 90 [.slice (some ⟨g2, 0, none⟩) (List.length (xs ++ [(k, v)])) c2] [.blk t #[.slice (some ⟨g2, 0, none⟩) (List.length (xs ++ [(k, v)])) c2, .int .i64 ((room : Nat) : Int), .func (.func 26) #[] #[]] 90, .row (.slice (some ⟨g2, 0, none⟩) (List.length (xs ++ [(k, v)])) c2) 92 2 (List.length (xs ++ [(k, v)])) (List.flatMap pairLI (xs ++ [(k, v)]))] (by kernel_rfl) rfl (by kernel_rfl) (by kernel_rfl) (by kernel_rfl) (by kernel_rfl) (by kernel_rfl) (by kernel_rfl) (by kernel_rfl) (by kernel_rfl) ?_
  clear H
  intro v5 H
  refine x_nil ?_
  refine x_frame' { tmps := #[.pointer (some ⟨t, 0, none⟩), .int .i64 k, .int .i64 v, undef, undef, undef, .int .i64 0, .bool false, .int .i64 (-1), .pointer (some ⟨t, 0, none⟩), .int .i64 k, .int .i64 (-1), .int .i64 (-1), .bool false, undef, undef, undef, undef, undef, undef, undef, undef, undef, .pointer (some ⟨t, 0, none⟩), .pointer (some ⟨t, 0, none⟩), .pointer (some ⟨t, 0, none⟩), .slice (some ⟨g, 0, none⟩) (List.length xs) cap, .int .i64 (((List.length xs) : Nat) : Int), .pointer (some ⟨t, 0, none⟩), .pointer (some ⟨t, 0, none⟩), .pointer (some ⟨t, 1, none⟩), .int .i64 ((room : Nat) : Int), .bool false, undef, undef, undef, undef, .pointer (some ⟨t, 0, none⟩), .pointer (some ⟨t, 0, none⟩), .pointer (some ⟨t, 0, none⟩), .pointer (some ⟨t, 0, none⟩), .slice (some ⟨g, 0, none⟩) (List.length xs) cap, .int .i64 k, .int .i64 v, .agg #[.int .i64 k, .int .i64 v], .slice (some ⟨g1, 0, none⟩) 1 1, .slice (some ⟨g2, 0, none⟩) (List.length (xs ++ [(k, v)])) c2, .pointer (some ⟨t, 0, none⟩), .pointer (some ⟨t, 0, none⟩), undef, undef], defers := [] } (by kernel_rfl) ?_
  refine x_then ?_
  refine x_seq ?_
  refine x_region ?_
  refine x_val (.int .i64 0) (by kernel_rfl) rfl (by kernel_rfl) ?_
  refine x_val (.bool false) (by kernel_rfl) rfl (by kernel_rfl) ?_
  refine x_val (.int .i64 0) (by kernel_rfl) rfl (by kernel_rfl) ?_
  refine x_val (.bool false) (by kernel_rfl) rfl (by kernel_rfl) ?_
  refine x_nil ?_
  refine x_then ?_
  refine x_retc ?_
  refine x_ret (.tuple #[.int .i64 0, .bool false]) (by kernel_rfl) (by kernel_rfl) ?_
  replace H := H.pick [0, 1] [.blk t #[.slice (some ⟨g2, 0, none⟩) (List.length (xs ++ [(k, v)])) c2, .int .i64 ((room : Nat) : Int), .func (.func 26) #[] #[]] 90, .row (.slice (some ⟨g2, 0, none⟩) (List.length (xs ++ [(k, v)])) c2) 92 2 (List.length (xs ++ [(k, v)])) (List.flatMap pairLI (xs ++ [(k, v)]))] (by decide) (by kernel_rfl)
  exact ⟨_, rfl, H⟩

set_option maxRecDepth 100000 in
set_option maxHeartbeats 2000000 in
theorem Put_evictI {t : Nat} {xs : List PairI} {room : Nat} (k : Int) (v : Int) {g cap : Nat} (hn : xs.length ≤ 4096) (hq : ¬ (fkI xs k) < xs.length) (hr : xs.length = room) (h1 : 1 ≤ room) (w0 : World) (H0 : Hs (fps [.blk t #[.slice (some ⟨g, 0, none⟩) (List.length xs) cap, .int .i64 ((room : Nat) : Int), .func (.func 26) #[] #[]] 90, .row (.slice (some ⟨g, 0, none⟩) (List.length xs) cap) 92 2 (List.length xs) (List.flatMap pairLI xs)]) w0 w0 [.blk t #[.slice (some ⟨g, 0, none⟩) (List.length xs) cap, .int .i64 ((room : Nat) : Int), .func (.func 26) #[] #[]] 90, .row (.slice (some ⟨g, 0, none⟩) (List.length xs) cap) 92 2 (List.length xs) (List.flatMap pairLI xs)]) :
    Calls Try.prog 28 #[.pointer (some ⟨t, 0, none⟩), .int .i64 k, .int .i64 v] w0 fun e w' => ∃ sv', e = .returned (.tuple #[.int .i64 ((xs.getD ((ltI xs xs.length).1) (0, 0)).1), .bool true]) ∧ Hs (fps [.blk t #[.slice (some ⟨g, 0, none⟩) (List.length xs) cap, .int .i64 ((room : Nat) : Int), .func (.func 26) #[] #[]] 90, .row (.slice (some ⟨g, 0, none⟩) (List.length xs) cap) 92 2 (List.length xs) (List.flatMap pairLI xs)]) w0 w' [.blk t #[sv', .int .i64 ((room : Nat) : Int), .func (.func 26) #[] #[]] 90, .row (sv') 92 2 (List.length ((xs.eraseIdx (ltI xs xs.length).1) ++ [(k, v)])) (List.flatMap pairLI ((xs.eraseIdx (ltI xs xs.length).1) ++ [(k, v)]))] := by
  refine x_enter Try.func28 rfl #[.pointer (some ⟨t, 0, none⟩), .int .i64 k, .int .i64 v, undef, undef, undef, undef, undef, undef, undef, undef, undef, undef, undef, undef, undef, undef, undef, undef, undef, undef, undef, undef, undef, undef, undef, undef, undef, undef, undef, undef, undef, undef, undef, undef, undef, undef, undef, undef, undef, undef, undef, undef, undef, undef, undef, undef, undef, undef, undef, undef] (by kernel_rfl) ?_
  have H := H0
  have q1 : decide ((((List.length xs) : Nat) : Int) = ((room : Nat) : Int)) = true := by simp; omega
  have hl : (ltI xs xs.length).1 < xs.length := lt_ltI xs _ (by omega)
  refine x_seq ?_
  refine x_region ?_
  refine x_val (.int .i64 0) (by kernel_rfl) rfl (by kernel_rfl) ?_
  refine x_val (.bool false) (by kernel_rfl) rfl (by kernel_rfl) ?_
  refine x_nil ?_
  refine x_then ?_
  refine x_seq ?_
  refine x_seq ?_
  refine x_region ?_
  refine x_val (.pointer (some ⟨t, 0, none⟩)) (by kernel_rfl) rfl (by kernel_rfl) ?_
  refine x_val (.int .i64 k) (by kernel_rfl) rfl (by kernel_rfl) ?_
  refine x_callB (.int .i64 (-1)) H (by kernel_rfl) rfl (by kernel_rfl) (by have h := find_I (room := room) k hn _ (H.roOf [0, 1] [.blk t #[.slice (some ⟨g, 0, none⟩) (List.length xs) cap, .int .i64 ((room : Nat) : Int), .func (.func 26) #[] #[]] 90, .row (.slice (some ⟨g, 0, none⟩) (List.length xs) cap) 92 2 (List.length xs) (List.flatMap pairLI xs)] (by kernel_rfl)); rw [show findI xs k = -1 by unfold findI; rw [if_neg hq]] at h; exact h) ?_
  clear H
  intro v1 H
  refine x_val (.int .i64 (-1)) (by kernel_rfl) rfl (by kernel_rfl) ?_
  refine x_nil ?_
  refine x_then ?_
  refine x_seq ?_
  refine x_region ?_
  refine x_val (.int .i64 (-1)) (by kernel_rfl) rfl (by kernel_rfl) ?_
  refine x_val (.bool false) (by kernel_rfl) rfl (by kernel_rfl) ?_
  refine x_nil ?_
  refine x_then ?_
  refine x_f (by kernel_rfl) ?_
  refine x_skipc ?_
  refine x_then ?_
  refine x_seq ?_
  refine x_seq ?_
  refine x_region_whole (fun w' => Hs (fps [.blk t #[.slice (some ⟨g, 0, none⟩) (List.length xs) cap, .int .i64 ((room : Nat) : Int), .func (.func 26) #[] #[]] 90, .row (.slice (some ⟨g, 0, none⟩) (List.length xs) cap) 92 2 (List.length xs) (List.flatMap pairLI xs)]) w0 w' [.blk t #[.slice (some ⟨g, 0, none⟩) (List.length xs) cap, .int .i64 ((room : Nat) : Int), .func (.func 26) #[] #[]] 90, .row (.slice (some ⟨g, 0, none⟩) (List.length xs) cap) 92 2 (List.length xs) (List.flatMap pairLI xs)]) (by kernel_rfl) (by kernel_rfl) (by kernel_rfl) H.drew ?_
  refine q_val (.pointer (some ⟨t, 0, none⟩)) (by kernel_rfl) (fun _ => by kernel_rfl) ?_
  refine q_val (.pointer (some ⟨t, 0, none⟩)) (by kernel_rfl) (fun _ => by kernel_rfl) ?_
  refine q_val (.pointer (some ⟨t, 0, none⟩)) (by kernel_rfl) (fun _ => by kernel_rfl) ?_
  refine q_load1 0 t 0 #[.slice (some ⟨g, 0, none⟩) (List.length xs) cap, .int .i64 ((room : Nat) : Int), .func (.func 26) #[] #[]] 90 (.slice (some ⟨g, 0, none⟩) (List.length xs) cap) (by kernel_rfl) (by kernel_rfl) (by kernel_rfl) (fun _ => by kernel_rfl) ?_
  refine q_val (.int .i64 (((List.length xs) : Nat) : Int)) (by kernel_rfl) (fun _ => by kernel_rfl) ?_
  refine q_val (.pointer (some ⟨t, 0, none⟩)) (by kernel_rfl) (fun _ => by kernel_rfl) ?_
  refine q_val (.pointer (some ⟨t, 0, none⟩)) (by kernel_rfl) (fun _ => by kernel_rfl) ?_
  refine q_val (.pointer (some ⟨t, 1, none⟩)) (by kernel_rfl) (fun _ => by kernel_rfl) ?_
  refine q_load1 0 t 1 #[.slice (some ⟨g, 0, none⟩) (List.length xs) cap, .int .i64 ((room : Nat) : Int), .func (.func 26) #[] #[]] 90 (.int .i64 ((room : Nat) : Int)) (by kernel_rfl) (by kernel_rfl) (by kernel_rfl) (fun _ => by kernel_rfl) ?_
  refine q_val (.bool (decide ((((List.length xs) : Nat) : Int) = ((room : Nat) : Int)))) (by kernel_rfl) (fun _ => by kernel_rfl) ?_
  refine q_nil ?_
  clear H
  intro v2 H
  refine x_then ?_
  rw [q1]
  refine x_t (by kernel_rfl) ?_
  refine x_region ?_
  refine x_val (.pointer (some ⟨t, 0, none⟩)) (by kernel_rfl) rfl (by kernel_rfl) ?_
  refine x_val (.pointer (some ⟨t, 0, none⟩)) (by kernel_rfl) rfl (by kernel_rfl) ?_
  refine x_callB (.int .i64 ((((ltI xs xs.length).1) : Nat) : Int)) H (by kernel_rfl) rfl (by kernel_rfl) (lightest_I hn _ (H.roOf [0, 1] [.blk t #[.slice (some ⟨g, 0, none⟩) (List.length xs) cap, .int .i64 ((room : Nat) : Int), .func (.func 26) #[] #[]] 90, .row (.slice (some ⟨g, 0, none⟩) (List.length xs) cap) 92 2 (List.length xs) (List.flatMap pairLI xs)] (by kernel_rfl))) ?_
  clear H
  intro v3 H
  refine x_callH (.int .i64 ((xs.getD ((ltI xs xs.length).1) (0, 0)).1)) [.blk t #[.slice (some ⟨g, 0, none⟩) (List.length (xs.eraseIdx (ltI xs xs.length).1)) cap, .int .i64 ((room : Nat) : Int), .func (.func 26) #[] #[]] 90, .row (.slice (some ⟨g, 0, none⟩) (List.length (xs.eraseIdx (ltI xs xs.length).1)) cap) 92 2 (List.length (xs.eraseIdx (ltI xs xs.length).1)) (List.flatMap pairLI (xs.eraseIdx (ltI xs xs.length).1))] (by kernel_rfl) rfl (by kernel_rfl) (Hs.use (A := [.blk t #[.slice (some ⟨g, 0, none⟩) (List.length xs) cap, .int .i64 ((room : Nat) : Int), .func (.func 26) #[] #[]] 90, .row (.slice (some ⟨g, 0, none⟩) (List.length xs) cap) 92 2 (List.length xs) (List.flatMap pairLI xs)]) (R := []) (H.pick [0, 1] _ (by decide) (by kernel_rfl)) (fun h => remove_I ((ltI xs xs.length).1) hl hn _ h)) ?_
  clear H
  intro v4 H
  refine x_val (.int .i64 ((xs.getD ((ltI xs xs.length).1) (0, 0)).1)) (by kernel_rfl) rfl (by kernel_rfl) ?_
  refine x_val (.bool true) (by kernel_rfl) rfl (by kernel_rfl) ?_
  refine x_nil ?_
  refine x_then ?_
  refine x_seq ?_
  refine x_region ?_
  refine x_val (.pointer (some ⟨t, 0, none⟩)) (by kernel_rfl) rfl (by kernel_rfl) ?_
  refine x_val (.pointer (some ⟨t, 0, none⟩)) (by kernel_rfl) rfl (by kernel_rfl) ?_
  refine x_val (.pointer (some ⟨t, 0, none⟩)) (by kernel_rfl) rfl (by kernel_rfl) ?_
  refine x_val (.pointer (some ⟨t, 0, none⟩)) (by kernel_rfl) rfl (by kernel_rfl) ?_
  refine x_load1 H 0 t 0 #[.slice (some ⟨g, 0, none⟩) (List.length (xs.eraseIdx (ltI xs xs.length).1)) cap, .int .i64 ((room : Nat) : Int), .func (.func 26) #[] #[]] 90 (.slice (some ⟨g, 0, none⟩) (List.length (xs.eraseIdx (ltI xs xs.length).1)) cap) (by kernel_rfl) (by kernel_rfl) (by kernel_rfl) rfl (by kernel_rfl) ?_
  refine x_val (.int .i64 k) (by kernel_rfl) rfl (by kernel_rfl) ?_
  refine x_val (.int .i64 v) (by kernel_rfl) rfl (by kernel_rfl) ?_
  refine x_val (.agg #[.int .i64 k, .int .i64 v]) (by kernel_rfl) rfl (by kernel_rfl) ?_
  refine x_box' H #[.int .i64 k, .int .i64 v] 92 1 (by kernel_rfl) rfl (by kernel_rfl) ?_
  clear H
  intro v5 g1 H
  refine x_append H 2 (.slice (some ⟨g, 0, none⟩) (List.length (xs.eraseIdx (ltI xs xs.length).1)) cap) 88 92 2 16 (List.length (xs.eraseIdx (ltI xs xs.length).1)) (.agg #[.int .i64 0, .int .i64 0]) (List.flatMap pairLI (xs.eraseIdx (ltI xs xs.length).1)) ⟨g1, 0, none⟩ 1 1 [.int .i64 k, .int .i64 v] rfl (by kernel_rfl) (by kernel_rfl) rfl (by decide) (by decide) rfl (fun j u hj => by rw [add_none]; exact cellOf (H.blk 0 rfl) (by simpa using hj)) (List.all_eq_true.1 (by kernel_rfl)) (by rw [List.length_eraseIdx]; unfold maxLen; split <;> omega) (by rw [List.length_eraseIdx]; split <;> omega) (by kernel_rfl) rfl (by kernel_rfl) ?_
  clear H
  intro v6 g2 c2 hc2 H
  rw [show (((List.length (xs.eraseIdx (ltI xs xs.length).1)) + 1) : Nat) = (List.length ((xs.eraseIdx (ltI xs xs.length).1) ++ [(k, v)])) from (by simp)] at H ⊢
  rw [show (List.flatMap pairLI (xs.eraseIdx (ltI xs xs.length).1)) ++ [.int .i64 k, .int .i64 v] = (List.flatMap pairLI ((xs.eraseIdx (ltI xs xs.length).1) ++ [(k, v)])) from (by rw [List.flatMap_append]; rfl)] at H
  replace H : Hs (fps [.blk t #[.slice (some ⟨g, 0, none⟩) (List.length xs) cap, .int .i64 ((room : Nat) : Int), .func (.func 26) #[] #[]] 90, .row (.slice (some ⟨g, 0, none⟩) (List.length xs) cap) 92 2 (List.length xs) (List.flatMap pairLI xs)]) w0 v6 [.blk g1 #[.int .i64 k, .int .i64 v] 92, .blk t #[.slice (some ⟨g, 0, none⟩) (List.length (xs.eraseIdx (ltI xs xs.length).1)) cap, .int .i64 ((room : Nat) : Int), .func (.func 26) #[] #[]] 90, .row (.slice (some ⟨g2, 0, none⟩) (List.length ((xs.eraseIdx (ltI xs xs.length).1) ++ [(k, v)])) c2) 92 2 (List.length ((xs.eraseIdx (ltI xs xs.length).1) ++ [(k, v)])) (List.flatMap pairLI ((xs.eraseIdx (ltI xs xs.length).1) ++ [(k, v)]))] := H
  replace H := H.pick [1, 2] [.blk t #[.slice (some ⟨g, 0, none⟩) (List.length (xs.eraseIdx (ltI xs xs.length).1)) cap, .int .i64 ((room : Nat) : Int), .func (.func 26) #[] #[]] 90, .row (.slice (some ⟨g2, 0, none⟩) (List.length ((xs.eraseIdx (ltI xs xs.length).1) ++ [(k, v)])) c2) 92 2 (List.length ((xs.eraseIdx (ltI xs xs.length).1) ++ [(k, v)])) (List.flatMap pairLI ((xs.eraseIdx (ltI xs xs.length).1) ++ [(k, v)]))] (by decide) (by kernel_rfl)
  refine x_val (.pointer (some ⟨t, 0, none⟩)) (by kernel_rfl) rfl (by kernel_rfl) ?_
  refine x_val (.pointer (some ⟨t, 0, none⟩)) (by kernel_rfl) rfl (by kernel_rfl) ?_
  refine x_store (t := 88) (v := .slice (some ⟨g2, 0, none⟩) (List.length ((xs.eraseIdx (ltI xs xs.length).1) ++ [(k, v)])) c2) H 0 t 0 #[.slice (some ⟨g, 0, none⟩) (List.length (xs.eraseIdx (ltI xs xs.length).1)) cap, .int .i64 ((room : Nat) : Int), .func (.func 26) #[] #[]] #[.slice (some ⟨g2, 0, none⟩) (List.length ((xs.eraseIdx (ltI xs xs.length).1) ++ [(k, v)])) c2, .int .i64 ((room : Nat) : Int), .func (.func 26) #[] #[]] 90 [.slice (some ⟨g2, 0, none⟩) (List.length ((xs.eraseIdx (ltI xs xs.length).1) ++ [(k, v)])) c2] [.blk t #[.slice (some ⟨g2, 0, none⟩) (List.length ((xs.eraseIdx (ltI xs xs.length).1) ++ [(k, v)])) c2, .int .i64 ((room : Nat) : Int), .func (.func 26) #[] #[]] 90, .row (.slice (some ⟨g2, 0, none⟩) (List.length ((xs.eraseIdx (ltI xs xs.length).1) ++ [(k, v)])) c2) 92 2 (List.length ((xs.eraseIdx (ltI xs xs.length).1) ++ [(k, v)])) (List.flatMap pairLI ((xs.eraseIdx (ltI xs xs.length).1) ++ [(k, v)]))] (by kernel_rfl) rfl (by kernel_rfl) (by kernel_rfl) (by kernel_rfl) (by kernel_rfl) (by kernel_rfl) (by kernel_rfl) (by kernel_rfl) (by kernel_rfl) ?_
  clear H
  intro v7 H
  refine x_nil ?_
  refine x_frame' { tmps := #[.pointer (some ⟨t, 0, none⟩), .int .i64 k, .int .i64 v, undef, undef, undef, .int .i64 ((xs.getD ((ltI xs xs.length).1) (0, 0)).1), .bool true, .int .i64 (-1), .pointer (some ⟨t, 0, none⟩), .int .i64 k, .int .i64 (-1), .int .i64 (-1), .bool false, undef, undef, undef, undef, undef, undef, undef, undef, undef, .pointer (some ⟨t, 0, none⟩), .pointer (some ⟨t, 0, none⟩), .pointer (some ⟨t, 0, none⟩), .slice (some ⟨g, 0, none⟩) (List.length xs) cap, .int .i64 (((List.length xs) : Nat) : Int), .pointer (some ⟨t, 0, none⟩), .pointer (some ⟨t, 0, none⟩), .pointer (some ⟨t, 1, none⟩), .int .i64 ((room : Nat) : Int), .bool true, .pointer (some ⟨t, 0, none⟩), .pointer (some ⟨t, 0, none⟩), .int .i64 ((((ltI xs xs.length).1) : Nat) : Int), .int .i64 ((xs.getD ((ltI xs xs.length).1) (0, 0)).1), .pointer (some ⟨t, 0, none⟩), .pointer (some ⟨t, 0, none⟩), .pointer (some ⟨t, 0, none⟩), .pointer (some ⟨t, 0, none⟩), .slice (some ⟨g, 0, none⟩) (List.length (xs.eraseIdx (ltI xs xs.length).1)) cap, .int .i64 k, .int .i64 v, .agg #[.int .i64 k, .int .i64 v], .slice (some ⟨g1, 0, none⟩) 1 1, .slice (some ⟨g2, 0, none⟩) (List.length ((xs.eraseIdx (ltI xs xs.length).1) ++ [(k, v)])) c2, .pointer (some ⟨t, 0, none⟩), .pointer (some ⟨t, 0, none⟩), undef, undef], defers := [] } (by kernel_rfl) ?_
  refine x_then ?_
  refine x_seq ?_
  refine x_region ?_
  refine x_val (.int .i64 ((xs.getD ((ltI xs xs.length).1) (0, 0)).1)) (by kernel_rfl) rfl (by kernel_rfl) ?_
  refine x_val (.bool true) (by kernel_rfl) rfl (by kernel_rfl) ?_
  refine x_val (.int .i64 ((xs.getD ((ltI xs xs.length).1) (0, 0)).1)) (by kernel_rfl) rfl (by kernel_rfl) ?_
  refine x_val (.bool true) (by kernel_rfl) rfl (by kernel_rfl) ?_
  refine x_nil ?_
  refine x_then ?_
  refine x_retc ?_
  refine x_ret (.tuple #[.int .i64 ((xs.getD ((ltI xs xs.length).1) (0, 0)).1), .bool true]) (by kernel_rfl) (by kernel_rfl) ?_
  replace H := H.pick [0, 1] [.blk t #[.slice (some ⟨g2, 0, none⟩) (List.length ((xs.eraseIdx (ltI xs xs.length).1) ++ [(k, v)])) c2, .int .i64 ((room : Nat) : Int), .func (.func 26) #[] #[]] 90, .row (.slice (some ⟨g2, 0, none⟩) (List.length ((xs.eraseIdx (ltI xs xs.length).1) ++ [(k, v)])) c2) 92 2 (List.length ((xs.eraseIdx (ltI xs xs.length).1) ++ [(k, v)])) (List.flatMap pairLI ((xs.eraseIdx (ltI xs xs.length).1) ++ [(k, v)]))] (by decide) (by kernel_rfl)
  exact ⟨_, rfl, H⟩

theorem Put_I {t : Nat} {xs : List PairI} {room : Nat} (k : Int) (v : Int) {sv : Value} (hn : xs.length ≤ 4096) (hr : xs.length ≤ room) (h1 : 1 ≤ room) (w0 : World) (H0 : Hs (fps [.blk t #[sv, .int .i64 ((room : Nat) : Int), .func (.func 26) #[] #[]] 90, .row (sv) 92 2 (List.length xs) (List.flatMap pairLI xs)]) w0 w0 [.blk t #[sv, .int .i64 ((room : Nat) : Int), .func (.func 26) #[] #[]] 90, .row (sv) 92 2 (List.length xs) (List.flatMap pairLI xs)]) :
    Calls Try.prog 28 #[.pointer (some ⟨t, 0, none⟩), .int .i64 k, .int .i64 v] w0 fun e w' => ∃ sv', e = .returned (.tuple #[.int .i64 (putI room xs k v).2.1, .bool (putI room xs k v).2.2]) ∧ Hs (fps [.blk t #[sv, .int .i64 ((room : Nat) : Int), .func (.func 26) #[] #[]] 90, .row (sv) 92 2 (List.length xs) (List.flatMap pairLI xs)]) w0 w' [.blk t #[sv', .int .i64 ((room : Nat) : Int), .func (.func 26) #[] #[]] 90, .row (sv') 92 2 (List.length ((putI room xs k v).1)) (List.flatMap pairLI ((putI room xs k v).1))] := by
  rcases H0.rowForm 1 rfl with ⟨rfl, h0⟩ | ⟨g, cap, rfl, hc, _⟩
  · have e : (putI room xs k v) = (xs ++ [(k, v)], 0, false) := by unfold putI; rw [if_neg (by omega), if_pos (by omega)]
    rw [e]; exact Put_roomI_n k v hn (by omega) (by omega) w0 H0
  · by_cases hq : (fkI xs k) < xs.length
    · have e : (putI room xs k v) = (xs.set (fkI xs k) ((xs.getD (fkI xs k) (0, 0)).1, v), 0, false) := by unfold putI; rw [if_pos hq]
      rw [e]; exact Put_setI k v hn hq w0 H0
    · by_cases hlt : xs.length < room
      · have e : (putI room xs k v) = (xs ++ [(k, v)], 0, false) := by unfold putI; rw [if_neg hq, if_pos hlt]
        rw [e]; exact Put_roomI_s k v hn hq hlt w0 H0
      · have e : (putI room xs k v) = ((xs.eraseIdx (ltI xs xs.length).1) ++ [(k, v)], (xs.getD ((ltI xs xs.length).1) (0, 0)).1, true) := by unfold putI; rw [if_neg hq, if_neg hlt]
        rw [e]; exact Put_evictI k v hn hq (by omega) h1 w0 H0

set_option maxRecDepth 100000 in
set_option maxHeartbeats 2000000 in
theorem TNewI_yes (room : Nat) (h1 : 1 ≤ room) (h2 : room ≤ 256) (w0 : World) :
    Calls Try.prog 25 #[.int .i64 ((room : Nat) : Int), .func (.func 26) #[] #[]] w0 fun e w' => ∃ t, e = .returned (.tuple #[.pointer (some ⟨t, 0, none⟩), .int .i64 0]) ∧ Hs [] w0 w' [.blk t #[.slice none 0 0, .int .i64 ((room : Nat) : Int), .func (.func 26) #[] #[]] 90, .row (.slice none 0 0) 92 2 (List.length ([] : List PairI)) (List.flatMap pairLI ([] : List PairI))] := by
  refine x_enter Try.func25 rfl #[.int .i64 ((room : Nat) : Int), .func (.func 26) #[] #[], undef, undef, undef, undef, undef, undef, undef, undef, undef, undef, undef, undef, undef, undef] (by kernel_rfl) ?_
  have H := Hs.nil w0
  have q1 : decide (((room : Nat) : Int) < 1) = false := by simp; omega
  have q2 : decide (256 < ((room : Nat) : Int)) = false := by simp; omega
  refine x_seq ?_
  refine x_region ?_
  refine x_val (.pointer none) (by kernel_rfl) rfl (by kernel_rfl) ?_
  refine x_val (.int .i64 0) (by kernel_rfl) rfl (by kernel_rfl) ?_
  refine x_nil ?_
  refine x_then ?_
  refine x_seq ?_
  refine x_seq ?_
  refine x_region ?_
  refine x_val (.int .i64 ((room : Nat) : Int)) (by kernel_rfl) rfl (by kernel_rfl) ?_
  refine x_val (.bool (decide (((room : Nat) : Int) < 1))) (by kernel_rfl) rfl (by kernel_rfl) ?_
  refine x_val (.bool (decide (((room : Nat) : Int) < 1))) (by kernel_rfl) rfl (by kernel_rfl) ?_
  rw [q1]
  refine x_val (.int .i64 ((room : Nat) : Int)) (by kernel_rfl) rfl (by kernel_rfl) ?_
  refine x_val (.bool (decide (256 < ((room : Nat) : Int)))) (by kernel_rfl) rfl (by kernel_rfl) ?_
  refine x_val (.bool (decide (256 < ((room : Nat) : Int)))) (by kernel_rfl) rfl (by kernel_rfl) ?_
  refine x_nil ?_
  refine x_then ?_
  rw [q2]
  refine x_f (by kernel_rfl) ?_
  refine x_skipc ?_
  refine x_then ?_
  refine x_seq ?_
  refine x_region ?_
  refine x_val (.int .i64 ((room : Nat) : Int)) (by kernel_rfl) rfl (by kernel_rfl) ?_
  refine x_val (.func (.func 26) #[] #[]) (by kernel_rfl) rfl (by kernel_rfl) ?_
  refine x_val (.agg #[.slice none 0 0, .int .i64 ((room : Nat) : Int), .func (.func 26) #[] #[]]) (by kernel_rfl) rfl (by kernel_rfl) ?_
  refine x_box H #[.slice none 0 0, .int .i64 ((room : Nat) : Int), .func (.func 26) #[] #[]] 90 (by kernel_rfl) rfl (by kernel_rfl) ?_
  clear H
  intro v1 g1 H
  refine x_val (.pointer (some ⟨g1, 0, none⟩)) (by kernel_rfl) rfl (by kernel_rfl) ?_
  refine x_val (.int .i64 0) (by kernel_rfl) rfl (by kernel_rfl) ?_
  refine x_nil ?_
  refine x_then ?_
  refine x_retc ?_
  refine x_ret (.tuple #[.pointer (some ⟨g1, 0, none⟩), .int .i64 0]) (by kernel_rfl) (by kernel_rfl) ?_
  replace H := H.nilRow 92 2
  exact ⟨_, rfl, H.pick [1, 0] _ (by decide) (by kernel_rfl)⟩

set_option maxRecDepth 100000 in
set_option maxHeartbeats 2000000 in
theorem TNewI_no (room : Int) (h1 : room < 1 ∨ 256 < room) (w0 : World) :
    Calls Try.prog 25 #[.int .i64 room, .func (.func 26) #[] #[]] w0 fun e w' => e = .returned (.tuple #[.pointer none, .int .i64 12]) ∧ Below w0.heap.size w0 w' := by
  refine x_enter Try.func25 rfl #[.int .i64 room, .func (.func 26) #[] #[], undef, undef, undef, undef, undef, undef, undef, undef, undef, undef, undef, undef, undef, undef] (by kernel_rfl) ?_
  have H := Hs.nil w0
  refine x_seq ?_
  refine x_region ?_
  refine x_val (.pointer none) (by kernel_rfl) rfl (by kernel_rfl) ?_
  refine x_val (.int .i64 0) (by kernel_rfl) rfl (by kernel_rfl) ?_
  refine x_nil ?_
  refine x_then ?_
  refine x_seq ?_
  refine x_seq ?_
  refine x_region ?_
  refine x_val (.int .i64 room) (by kernel_rfl) rfl (by kernel_rfl) ?_
  refine x_val (.bool (decide (room < 1))) (by kernel_rfl) rfl (by kernel_rfl) ?_
  refine x_val (.bool (decide (room < 1))) (by kernel_rfl) rfl (by kernel_rfl) ?_
  cases h1 : decide (room < 1)
  · skip
    have h1p := of_decide_eq_false h1
    refine x_val (.int .i64 room) (by kernel_rfl) rfl (by kernel_rfl) ?_
    refine x_val (.bool (decide (256 < room))) (by kernel_rfl) rfl (by kernel_rfl) ?_
    refine x_val (.bool (decide (256 < room))) (by kernel_rfl) rfl (by kernel_rfl) ?_
    refine x_nil ?_
    refine x_then ?_
    cases h2 : decide (256 < room)
    · skip
      have h2p := of_decide_eq_false h2
      refine x_f (by kernel_rfl) ?_
      refine x_skipc ?_
      refine x_then ?_
      refine x_seq ?_
      refine x_region ?_
      refine x_val (.int .i64 room) (by kernel_rfl) rfl (by kernel_rfl) ?_
      refine x_val (.func (.func 26) #[] #[]) (by kernel_rfl) rfl (by kernel_rfl) ?_
      refine x_val (.agg #[.slice none 0 0, .int .i64 room, .func (.func 26) #[] #[]]) (by kernel_rfl) rfl (by kernel_rfl) ?_
      refine x_box H #[.slice none 0 0, .int .i64 room, .func (.func 26) #[] #[]] 90 (by kernel_rfl) rfl (by kernel_rfl) ?_
      clear H
      intro v1 g1 H
      refine x_val (.pointer (some ⟨g1, 0, none⟩)) (by kernel_rfl) rfl (by kernel_rfl) ?_
      refine x_val (.int .i64 0) (by kernel_rfl) rfl (by kernel_rfl) ?_
      refine x_nil ?_
      refine x_then ?_
      refine x_retc ?_
      refine x_ret (.tuple #[.pointer (some ⟨g1, 0, none⟩), .int .i64 0]) (by kernel_rfl) (by kernel_rfl) ?_
      exfalso; omega
    · skip
      have h2p := of_decide_eq_true h2
      refine x_t (by kernel_rfl) ?_
      refine x_seq ?_
      refine x_region ?_
      refine x_val (.pointer none) (by kernel_rfl) rfl (by kernel_rfl) ?_
      refine x_val (.int .i64 12) (by kernel_rfl) rfl (by kernel_rfl) ?_
      refine x_nil ?_
      refine x_then ?_
      refine x_retc ?_
      refine x_then_ret ?_
      refine x_ret (.tuple #[.pointer none, .int .i64 12]) (by kernel_rfl) (by kernel_rfl) ?_
      exact ⟨rfl, H.below⟩
  · skip
    have h1p := of_decide_eq_true h1
    refine x_skip (by kernel_rfl) ?_
    refine x_skip (by kernel_rfl) ?_
    refine x_val (.bool true) (by kernel_rfl) rfl (by kernel_rfl) ?_
    refine x_nil ?_
    refine x_then ?_
    refine x_t (by kernel_rfl) ?_
    refine x_seq ?_
    refine x_region ?_
    refine x_val (.pointer none) (by kernel_rfl) rfl (by kernel_rfl) ?_
    refine x_val (.int .i64 12) (by kernel_rfl) rfl (by kernel_rfl) ?_
    refine x_nil ?_
    refine x_then ?_
    refine x_retc ?_
    refine x_then_ret ?_
    refine x_ret (.tuple #[.pointer none, .int .i64 12]) (by kernel_rfl) (by kernel_rfl) ?_
    exact ⟨rfl, H.below⟩

set_option maxRecDepth 100000 in
set_option maxHeartbeats 2000000 in
theorem TLenI_s {t : Nat} {xs : List PairI} {room : Nat} {g cap : Nat} (w0 : World) (hR : Ro w0 [.blk t #[.slice (some ⟨g, 0, none⟩) (List.length xs) cap, .int .i64 ((room : Nat) : Int), .func (.func 26) #[] #[]] 90, .row (.slice (some ⟨g, 0, none⟩) (List.length xs) cap) 92 2 (List.length xs) (List.flatMap pairLI xs)]) :
    Calls Try.prog 29 #[.pointer (some ⟨t, 0, none⟩)] w0 fun e w' => e = .returned (.int .i64 ((xs.length : Nat) : Int)) ∧ Below w0.heap.size w0 w' := by
  refine x_enter Try.func29 rfl #[.pointer (some ⟨t, 0, none⟩), undef, undef, undef, undef, undef, undef, undef] (by kernel_rfl) ?_
  have H := Hs.nil w0
  have R0 := hR
  refine x_seq ?_
  refine x_region ?_
  refine x_val (.int .i64 0) (by kernel_rfl) rfl (by kernel_rfl) ?_
  refine x_nil ?_
  refine x_then ?_
  refine x_seq ?_
  refine x_region ?_
  refine x_val (.pointer (some ⟨t, 0, none⟩)) (by kernel_rfl) rfl (by kernel_rfl) ?_
  refine x_val (.pointer (some ⟨t, 0, none⟩)) (by kernel_rfl) rfl (by kernel_rfl) ?_
  refine x_val (.pointer (some ⟨t, 0, none⟩)) (by kernel_rfl) rfl (by kernel_rfl) ?_
  refine x_loadc t 0 (.slice (some ⟨g, 0, none⟩) (List.length xs) cap) ((H.ro R0).cell 0 rfl 0 rfl) (by kernel_rfl) rfl (by kernel_rfl) ?_
  refine x_val (.int .i64 (((List.length xs) : Nat) : Int)) (by kernel_rfl) rfl (by kernel_rfl) ?_
  refine x_val (.int .i64 (((List.length xs) : Nat) : Int)) (by kernel_rfl) rfl (by kernel_rfl) ?_
  refine x_nil ?_
  refine x_then ?_
  refine x_retc ?_
  refine x_ret (.int .i64 (((List.length xs) : Nat) : Int)) (by kernel_rfl) (by kernel_rfl) ?_
  exact ⟨rfl, H.below⟩

set_option maxRecDepth 100000 in
set_option maxHeartbeats 2000000 in
theorem TLenI_n {t : Nat} {xs : List PairI} {room : Nat} (w0 : World) (hR : Ro w0 [.blk t #[.slice none 0 0, .int .i64 ((room : Nat) : Int), .func (.func 26) #[] #[]] 90, .row (.slice none 0 0) 92 2 (List.length xs) (List.flatMap pairLI xs)]) :
    Calls Try.prog 29 #[.pointer (some ⟨t, 0, none⟩)] w0 fun e w' => e = .returned (.int .i64 0) ∧ Below w0.heap.size w0 w' := by
  refine x_enter Try.func29 rfl #[.pointer (some ⟨t, 0, none⟩), undef, undef, undef, undef, undef, undef, undef] (by kernel_rfl) ?_
  have H := Hs.nil w0
  have R0 := hR
  refine x_seq ?_
  refine x_region ?_
  refine x_val (.int .i64 0) (by kernel_rfl) rfl (by kernel_rfl) ?_
  refine x_nil ?_
  refine x_then ?_
  refine x_seq ?_
  refine x_region ?_
  refine x_val (.pointer (some ⟨t, 0, none⟩)) (by kernel_rfl) rfl (by kernel_rfl) ?_
  refine x_val (.pointer (some ⟨t, 0, none⟩)) (by kernel_rfl) rfl (by kernel_rfl) ?_
  refine x_val (.pointer (some ⟨t, 0, none⟩)) (by kernel_rfl) rfl (by kernel_rfl) ?_
  refine x_loadc t 0 (.slice none 0 0) ((H.ro R0).cell 0 rfl 0 rfl) (by kernel_rfl) rfl (by kernel_rfl) ?_
  refine x_val (.int .i64 0) (by kernel_rfl) rfl (by kernel_rfl) ?_
  refine x_val (.int .i64 0) (by kernel_rfl) rfl (by kernel_rfl) ?_
  refine x_nil ?_
  refine x_then ?_
  refine x_retc ?_
  refine x_ret (.int .i64 0) (by kernel_rfl) (by kernel_rfl) ?_
  exact ⟨rfl, H.below⟩

theorem TLenI {t : Nat} {sv : Value} {xs : List PairI} {room : Nat} (w0 : World) (hR : Ro w0 [.blk t #[sv, .int .i64 ((room : Nat) : Int), .func (.func 26) #[] #[]] 90, .row (sv) 92 2 (List.length xs) (List.flatMap pairLI xs)]) : Calls Try.prog 29 #[.pointer (some ⟨t, 0, none⟩)] w0 fun e w' => e = .returned (.int .i64 ((xs.length : Nat) : Int)) ∧ Below w0.heap.size w0 w' := by
  rcases rowForm (hR 1 _ rfl : w0.ownsRow 0 _ 2 sv _ _) with ⟨rfl, h0⟩ | ⟨g, cap, rfl, hc, _⟩
  · rw [h0]; exact TLenI_n w0 hR
  · exact TLenI_s w0 hR

/-- What a table with room for some has, the key that went, and whether one did. -/
def putS (room : Nat) (xs : List PairS) (k : ByteArray) (v : Int) : List PairS × ByteArray × Bool :=
  if fkS xs k < xs.length then (xs.set (fkS xs k) ((xs.getD (fkS xs k) (ByteArray.empty, 0)).1, v), ({data := #[]} : ByteArray), false)
  else if xs.length < room then (xs ++ [(k, v)], ({data := #[]} : ByteArray), false)
  else (xs.eraseIdx (ltS xs xs.length).1 ++ [(k, v)], (xs.getD (ltS xs xs.length).1 (ByteArray.empty, 0)).1, true)
theorem lt_ltS (xs : List PairS) : ∀ k, 0 < k → (ltS xs k).1 < k
  | 0, h => absurd h (Nat.lt_irrefl _)
  | 1, _ => by rw [ltS, if_pos (.inl rfl)]; show 0 < 1; exact Nat.zero_lt_one
  | k + 2, _ => by
    rw [ltS]
    split
    · show k + 1 < k + 2; omega
    · have := lt_ltS xs (k + 1) (by omega); omega

set_option maxRecDepth 100000 in
set_option maxHeartbeats 2000000 in
theorem Put_setS {t : Nat} {xs : List PairS} {room : Nat} (k : ByteArray) (v : Int) {g cap : Nat} (hn : xs.length ≤ 4096) (hq : (fkS xs k) < xs.length) (w0 : World) (H0 : Hs (fps [.blk t #[.slice (some ⟨g, 0, none⟩) (List.length xs) cap, .int .i64 ((room : Nat) : Int), .func (.func 26) #[] #[]] 104, .row (.slice (some ⟨g, 0, none⟩) (List.length xs) cap) 107 2 (List.length xs) (List.flatMap pairLS xs)]) w0 w0 [.blk t #[.slice (some ⟨g, 0, none⟩) (List.length xs) cap, .int .i64 ((room : Nat) : Int), .func (.func 26) #[] #[]] 104, .row (.slice (some ⟨g, 0, none⟩) (List.length xs) cap) 107 2 (List.length xs) (List.flatMap pairLS xs)]) :
    Calls Try.prog 38 #[.pointer (some ⟨t, 0, none⟩), .string k, .int .i64 v] w0 fun e w' => ∃ sv', e = .returned (.tuple #[.string ({data := #[]} : ByteArray), .bool false]) ∧ Hs (fps [.blk t #[.slice (some ⟨g, 0, none⟩) (List.length xs) cap, .int .i64 ((room : Nat) : Int), .func (.func 26) #[] #[]] 104, .row (.slice (some ⟨g, 0, none⟩) (List.length xs) cap) 107 2 (List.length xs) (List.flatMap pairLS xs)]) w0 w' [.blk t #[sv', .int .i64 ((room : Nat) : Int), .func (.func 26) #[] #[]] 104, .row (sv') 107 2 (List.length (xs.set (fkS xs k) ((xs.getD (fkS xs k) (ByteArray.empty, 0)).1, v))) (List.flatMap pairLS (xs.set (fkS xs k) ((xs.getD (fkS xs k) (ByteArray.empty, 0)).1, v)))] := by
  refine x_enter Try.func38 rfl #[.pointer (some ⟨t, 0, none⟩), .string k, .int .i64 v, undef, undef, undef, undef, undef, undef, undef, undef, undef, undef, undef, undef, undef, undef, undef, undef, undef, undef, undef, undef, undef, undef, undef, undef, undef, undef, undef, undef, undef, undef, undef, undef, undef, undef, undef, undef, undef, undef, undef, undef, undef, undef, undef, undef, undef, undef, undef, undef] (by kernel_rfl) ?_
  have H := H0
  refine x_seq ?_
  refine x_region ?_
  refine x_val (.string ({data := #[]} : ByteArray)) (by kernel_rfl) rfl (by kernel_rfl) ?_
  refine x_val (.bool false) (by kernel_rfl) rfl (by kernel_rfl) ?_
  refine x_nil ?_
  refine x_then ?_
  refine x_seq ?_
  refine x_seq ?_
  refine x_region ?_
  refine x_val (.pointer (some ⟨t, 0, none⟩)) (by kernel_rfl) rfl (by kernel_rfl) ?_
  refine x_val (.string k) (by kernel_rfl) rfl (by kernel_rfl) ?_
  refine x_callB (.int .i64 (((fkS xs k) : Nat) : Int)) H (by kernel_rfl) rfl (by kernel_rfl) (by have h := find_S (room := room) k hn _ (H.roOf [0, 1] [.blk t #[.slice (some ⟨g, 0, none⟩) (List.length xs) cap, .int .i64 ((room : Nat) : Int), .func (.func 26) #[] #[]] 104, .row (.slice (some ⟨g, 0, none⟩) (List.length xs) cap) 107 2 (List.length xs) (List.flatMap pairLS xs)] (by kernel_rfl)); rw [show findS xs k = (((fkS xs k) : Nat) : Int) by unfold findS; rw [if_pos hq]] at h; exact h) ?_
  clear H
  intro v1 H
  refine x_val (.int .i64 (((fkS xs k) : Nat) : Int)) (by kernel_rfl) rfl (by kernel_rfl) ?_
  refine x_nil ?_
  refine x_then ?_
  refine x_seq ?_
  refine x_region ?_
  refine x_val (.int .i64 (((fkS xs k) : Nat) : Int)) (by kernel_rfl) rfl (by kernel_rfl) ?_
  refine x_val (.bool (decide (0 ≤ (((fkS xs k) : Nat) : Int)))) (by kernel_rfl) rfl (by kernel_rfl) ?_
  refine x_nil ?_
  refine x_then ?_
  cases h1 : decide (0 ≤ (((fkS xs k) : Nat) : Int))
  · skip
    have h1p := of_decide_eq_false h1
    exact absurd h1p (by omega)
  · skip
    have h1p := of_decide_eq_true h1
    refine x_t (by kernel_rfl) ?_
    refine x_seq ?_
    refine x_region ?_
    refine x_val (.pointer (some ⟨t, 0, none⟩)) (by kernel_rfl) rfl (by kernel_rfl) ?_
    refine x_val (.pointer (some ⟨t, 0, none⟩)) (by kernel_rfl) rfl (by kernel_rfl) ?_
    refine x_val (.pointer (some ⟨t, 0, none⟩)) (by kernel_rfl) rfl (by kernel_rfl) ?_
    refine x_load1 H 0 t 0 #[.slice (some ⟨g, 0, none⟩) (List.length xs) cap, .int .i64 ((room : Nat) : Int), .func (.func 26) #[] #[]] 104 (.slice (some ⟨g, 0, none⟩) (List.length xs) cap) (by kernel_rfl) (by kernel_rfl) (by kernel_rfl) rfl (by kernel_rfl) ?_
    refine x_val (.int .i64 (((fkS xs k) : Nat) : Int)) (by kernel_rfl) rfl (by kernel_rfl) ?_
    refine x_val (.int .i64 v) (by kernel_rfl) rfl (by kernel_rfl) ?_
    refine x_ix (t := 102) g 0 (fkS xs k) (List.length xs) cap 107 2 ((fkS xs k) * 2) (by omega) (by omega) (by kernel_rfl) (by kernel_rfl) (by kernel_rfl) rfl (by kernel_rfl) ?_
    refine x_val (.pointer (some ⟨g, (fkS xs k) * 2 + 1, none⟩)) (by kernel_rfl) rfl (by kernel_rfl) ?_
    refine x_storeRow (t := 3) (v := .int .i64 v) H 1 g ((fkS xs k) * 2 + 1) (List.length xs) cap 107 2 (List.flatMap pairLS xs) [.int .i64 v] (List.flatMap pairLS (xs.set (fkS xs k) ((xs.getD (fkS xs k) (ByteArray.empty, 0)).1, v))) [.blk t #[.slice (some ⟨g, 0, none⟩) (List.length xs) cap, .int .i64 ((room : Nat) : Int), .func (.func 26) #[] #[]] 104, .row (.slice (some ⟨g, 0, none⟩) (List.length xs) cap) 107 2 (List.length xs) (List.flatMap pairLS (xs.set (fkS xs k) ((xs.getD (fkS xs k) (ByteArray.empty, 0)).1, v)))] rfl (by simp only [List.length_cons, List.length_nil]; omega) (by kernel_rfl) (flatSet pairLenS (d := (ByteArray.empty, 0)) xs (by omega) 1 _ _ rfl) rfl (by kernel_rfl) rfl (by kernel_rfl) (by kernel_rfl) (by kernel_rfl) ?_
    clear H
    intro v2 H
    refine x_nil ?_
    refine x_then ?_
    refine x_seq ?_
    refine x_region ?_
    refine x_val (.string ({data := #[]} : ByteArray)) (by kernel_rfl) rfl (by kernel_rfl) ?_
    refine x_val (.string ({data := #[]} : ByteArray)) (by kernel_rfl) rfl (by kernel_rfl) ?_
    refine x_val (.bool false) (by kernel_rfl) rfl (by kernel_rfl) ?_
    refine x_nil ?_
    refine x_then ?_
    refine x_retc ?_
    refine x_then_ret ?_
    refine x_ret (.tuple #[.string ({data := #[]} : ByteArray), .bool false]) (by kernel_rfl) (by kernel_rfl) ?_
    have hll : (xs.set (fkS xs k) ((xs.getD (fkS xs k) (ByteArray.empty, 0)).1, v)).length = xs.length := List.length_set
    refine ⟨.slice (some ⟨g, 0, none⟩) (List.length xs) cap, rfl, ?_⟩
    rw [hll]
    exact H.pick [0, 1] _ (by decide) (by kernel_rfl)

set_option maxRecDepth 100000 in
set_option maxHeartbeats 2000000 in
theorem Put_roomS_n {t : Nat} {xs : List PairS} {room : Nat} (k : ByteArray) (v : Int) (hn : xs.length ≤ 4096) (hq : ¬ (fkS xs k) < xs.length) (hr : xs.length < room) (w0 : World) (H0 : Hs (fps [.blk t #[.slice none 0 0, .int .i64 ((room : Nat) : Int), .func (.func 26) #[] #[]] 104, .row (.slice none 0 0) 107 2 (List.length xs) (List.flatMap pairLS xs)]) w0 w0 [.blk t #[.slice none 0 0, .int .i64 ((room : Nat) : Int), .func (.func 26) #[] #[]] 104, .row (.slice none 0 0) 107 2 (List.length xs) (List.flatMap pairLS xs)]) :
    Calls Try.prog 38 #[.pointer (some ⟨t, 0, none⟩), .string k, .int .i64 v] w0 fun e w' => ∃ sv', e = .returned (.tuple #[.string ({data := #[]} : ByteArray), .bool false]) ∧ Hs (fps [.blk t #[.slice none 0 0, .int .i64 ((room : Nat) : Int), .func (.func 26) #[] #[]] 104, .row (.slice none 0 0) 107 2 (List.length xs) (List.flatMap pairLS xs)]) w0 w' [.blk t #[sv', .int .i64 ((room : Nat) : Int), .func (.func 26) #[] #[]] 104, .row (sv') 107 2 (List.length (xs ++ [(k, v)])) (List.flatMap pairLS (xs ++ [(k, v)]))] := by
  refine x_enter Try.func38 rfl #[.pointer (some ⟨t, 0, none⟩), .string k, .int .i64 v, undef, undef, undef, undef, undef, undef, undef, undef, undef, undef, undef, undef, undef, undef, undef, undef, undef, undef, undef, undef, undef, undef, undef, undef, undef, undef, undef, undef, undef, undef, undef, undef, undef, undef, undef, undef, undef, undef, undef, undef, undef, undef, undef, undef, undef, undef, undef, undef] (by kernel_rfl) ?_
  have H := H0
  have q1 : decide (0 = ((room : Nat) : Int)) = false := by simp; omega
  refine x_seq ?_
  refine x_region ?_
  refine x_val (.string ({data := #[]} : ByteArray)) (by kernel_rfl) rfl (by kernel_rfl) ?_
  refine x_val (.bool false) (by kernel_rfl) rfl (by kernel_rfl) ?_
  refine x_nil ?_
  refine x_then ?_
  refine x_seq ?_
  refine x_seq ?_
  refine x_region ?_
  refine x_val (.pointer (some ⟨t, 0, none⟩)) (by kernel_rfl) rfl (by kernel_rfl) ?_
  refine x_val (.string k) (by kernel_rfl) rfl (by kernel_rfl) ?_
  refine x_callB (.int .i64 (-1)) H (by kernel_rfl) rfl (by kernel_rfl) (by have h := find_S (room := room) k hn _ (H.roOf [0, 1] [.blk t #[.slice none 0 0, .int .i64 ((room : Nat) : Int), .func (.func 26) #[] #[]] 104, .row (.slice none 0 0) 107 2 (List.length xs) (List.flatMap pairLS xs)] (by kernel_rfl)); rw [show findS xs k = -1 by unfold findS; rw [if_neg hq]] at h; exact h) ?_
  clear H
  intro v1 H
  refine x_val (.int .i64 (-1)) (by kernel_rfl) rfl (by kernel_rfl) ?_
  refine x_nil ?_
  refine x_then ?_
  refine x_seq ?_
  refine x_region ?_
  refine x_val (.int .i64 (-1)) (by kernel_rfl) rfl (by kernel_rfl) ?_
  refine x_val (.bool false) (by kernel_rfl) rfl (by kernel_rfl) ?_
  refine x_nil ?_
  refine x_then ?_
  refine x_f (by kernel_rfl) ?_
  refine x_skipc ?_
  refine x_then ?_
  refine x_seq ?_
  refine x_seq ?_
  refine x_region_whole (fun w' => Hs (fps [.blk t #[.slice none 0 0, .int .i64 ((room : Nat) : Int), .func (.func 26) #[] #[]] 104, .row (.slice none 0 0) 107 2 (List.length xs) (List.flatMap pairLS xs)]) w0 w' [.blk t #[.slice none 0 0, .int .i64 ((room : Nat) : Int), .func (.func 26) #[] #[]] 104, .row (.slice none 0 0) 107 2 (List.length xs) (List.flatMap pairLS xs)]) (by kernel_rfl) (by kernel_rfl) (by kernel_rfl) H.drew ?_
  refine q_val (.pointer (some ⟨t, 0, none⟩)) (by kernel_rfl) (fun _ => by kernel_rfl) ?_
  refine q_val (.pointer (some ⟨t, 0, none⟩)) (by kernel_rfl) (fun _ => by kernel_rfl) ?_
  refine q_val (.pointer (some ⟨t, 0, none⟩)) (by kernel_rfl) (fun _ => by kernel_rfl) ?_
  refine q_load1 0 t 0 #[.slice none 0 0, .int .i64 ((room : Nat) : Int), .func (.func 26) #[] #[]] 104 (.slice none 0 0) (by kernel_rfl) (by kernel_rfl) (by kernel_rfl) (fun _ => by kernel_rfl) ?_
  refine q_val (.int .i64 0) (by kernel_rfl) (fun _ => by kernel_rfl) ?_
  refine q_val (.pointer (some ⟨t, 0, none⟩)) (by kernel_rfl) (fun _ => by kernel_rfl) ?_
  refine q_val (.pointer (some ⟨t, 0, none⟩)) (by kernel_rfl) (fun _ => by kernel_rfl) ?_
  refine q_val (.pointer (some ⟨t, 1, none⟩)) (by kernel_rfl) (fun _ => by kernel_rfl) ?_
  refine q_load1 0 t 1 #[.slice none 0 0, .int .i64 ((room : Nat) : Int), .func (.func 26) #[] #[]] 104 (.int .i64 ((room : Nat) : Int)) (by kernel_rfl) (by kernel_rfl) (by kernel_rfl) (fun _ => by kernel_rfl) ?_
  refine q_val (.bool (decide (0 = ((room : Nat) : Int)))) (by kernel_rfl) (fun _ => by kernel_rfl) ?_
  refine q_nil ?_
  clear H
  intro v2 H
  refine x_then ?_
  rw [q1]
  refine x_f (by kernel_rfl) ?_
  refine x_skipc ?_
  refine x_then ?_
  refine x_seq ?_
  refine x_region ?_
  refine x_val (.pointer (some ⟨t, 0, none⟩)) (by kernel_rfl) rfl (by kernel_rfl) ?_
  refine x_val (.pointer (some ⟨t, 0, none⟩)) (by kernel_rfl) rfl (by kernel_rfl) ?_
  refine x_val (.pointer (some ⟨t, 0, none⟩)) (by kernel_rfl) rfl (by kernel_rfl) ?_
  refine x_val (.pointer (some ⟨t, 0, none⟩)) (by kernel_rfl) rfl (by kernel_rfl) ?_
  refine x_load1 H 0 t 0 #[.slice none 0 0, .int .i64 ((room : Nat) : Int), .func (.func 26) #[] #[]] 104 (.slice none 0 0) (by kernel_rfl) (by kernel_rfl) (by kernel_rfl) rfl (by kernel_rfl) ?_
  refine x_val (.string k) (by kernel_rfl) rfl (by kernel_rfl) ?_
  refine x_val (.int .i64 v) (by kernel_rfl) rfl (by kernel_rfl) ?_
  refine x_val (.agg #[.string k, .int .i64 v]) (by kernel_rfl) rfl (by kernel_rfl) ?_
  refine x_box' H #[.string k, .int .i64 v] 107 1 (by kernel_rfl) rfl (by kernel_rfl) ?_
  clear H
  intro v3 g1 H
  refine x_append H 2 (.slice none 0 0) 102 107 2 24 (List.length xs) (.agg #[.string ByteArray.empty, .int .i64 0]) (List.flatMap pairLS xs) ⟨g1, 0, none⟩ 1 1 [.string k, .int .i64 v] rfl (by kernel_rfl) (by kernel_rfl) rfl (by decide) (by decide) rfl (fun j u hj => by rw [add_none]; exact cellOf (H.blk 0 rfl) (by simpa using hj)) (List.all_eq_true.1 (by kernel_rfl)) (by unfold maxLen; omega) (by omega) (by kernel_rfl) rfl (by kernel_rfl) ?_
  clear H
  intro v4 g2 c2 hc2 H
  rw [show (((List.length xs) + 1) : Nat) = (List.length (xs ++ [(k, v)])) from (by simp)] at H ⊢
  rw [show (List.flatMap pairLS xs) ++ [.string k, .int .i64 v] = (List.flatMap pairLS (xs ++ [(k, v)])) from (by rw [List.flatMap_append]; rfl)] at H
  replace H : Hs (fps [.blk t #[.slice none 0 0, .int .i64 ((room : Nat) : Int), .func (.func 26) #[] #[]] 104, .row (.slice none 0 0) 107 2 (List.length xs) (List.flatMap pairLS xs)]) w0 v4 [.blk g1 #[.string k, .int .i64 v] 107, .blk t #[.slice none 0 0, .int .i64 ((room : Nat) : Int), .func (.func 26) #[] #[]] 104, .row (.slice (some ⟨g2, 0, none⟩) (List.length (xs ++ [(k, v)])) c2) 107 2 (List.length (xs ++ [(k, v)])) (List.flatMap pairLS (xs ++ [(k, v)]))] := H
  replace H := H.pick [1, 2] [.blk t #[.slice none 0 0, .int .i64 ((room : Nat) : Int), .func (.func 26) #[] #[]] 104, .row (.slice (some ⟨g2, 0, none⟩) (List.length (xs ++ [(k, v)])) c2) 107 2 (List.length (xs ++ [(k, v)])) (List.flatMap pairLS (xs ++ [(k, v)]))] (by decide) (by kernel_rfl)
  refine x_val (.pointer (some ⟨t, 0, none⟩)) (by kernel_rfl) rfl (by kernel_rfl) ?_
  refine x_val (.pointer (some ⟨t, 0, none⟩)) (by kernel_rfl) rfl (by kernel_rfl) ?_
  refine x_store (t := 102) (v := .slice (some ⟨g2, 0, none⟩) (List.length (xs ++ [(k, v)])) c2) H 0 t 0 #[.slice none 0 0, .int .i64 ((room : Nat) : Int), .func (.func 26) #[] #[]] #[.slice (some ⟨g2, 0, none⟩) (List.length (xs ++ [(k, v)])) c2, .int .i64 ((room : Nat) : Int), .func (.func 26) #[] #[]] 104 [.slice (some ⟨g2, 0, none⟩) (List.length (xs ++ [(k, v)])) c2] [.blk t #[.slice (some ⟨g2, 0, none⟩) (List.length (xs ++ [(k, v)])) c2, .int .i64 ((room : Nat) : Int), .func (.func 26) #[] #[]] 104, .row (.slice (some ⟨g2, 0, none⟩) (List.length (xs ++ [(k, v)])) c2) 107 2 (List.length (xs ++ [(k, v)])) (List.flatMap pairLS (xs ++ [(k, v)]))] (by kernel_rfl) rfl (by kernel_rfl) (by kernel_rfl) (by kernel_rfl) (by kernel_rfl) (by kernel_rfl) (by kernel_rfl) (by kernel_rfl) (by kernel_rfl) ?_
  clear H
  intro v5 H
  refine x_nil ?_
  refine x_frame' { tmps := #[.pointer (some ⟨t, 0, none⟩), .string k, .int .i64 v, undef, undef, undef, .string ({data := #[]} : ByteArray), .bool false, .int .i64 (-1), .pointer (some ⟨t, 0, none⟩), .string k, .int .i64 (-1), .int .i64 (-1), .bool false, undef, undef, undef, undef, undef, undef, undef, undef, undef, .pointer (some ⟨t, 0, none⟩), .pointer (some ⟨t, 0, none⟩), .pointer (some ⟨t, 0, none⟩), .slice none 0 0, .int .i64 0, .pointer (some ⟨t, 0, none⟩), .pointer (some ⟨t, 0, none⟩), .pointer (some ⟨t, 1, none⟩), .int .i64 ((room : Nat) : Int), .bool false, undef, undef, undef, undef, .pointer (some ⟨t, 0, none⟩), .pointer (some ⟨t, 0, none⟩), .pointer (some ⟨t, 0, none⟩), .pointer (some ⟨t, 0, none⟩), .slice none 0 0, .string k, .int .i64 v, .agg #[.string k, .int .i64 v], .slice (some ⟨g1, 0, none⟩) 1 1, .slice (some ⟨g2, 0, none⟩) (List.length (xs ++ [(k, v)])) c2, .pointer (some ⟨t, 0, none⟩), .pointer (some ⟨t, 0, none⟩), undef, undef], defers := [] } (by kernel_rfl) ?_
  refine x_then ?_
  refine x_seq ?_
  refine x_region ?_
  refine x_val (.string ({data := #[]} : ByteArray)) (by kernel_rfl) rfl (by kernel_rfl) ?_
  refine x_val (.bool false) (by kernel_rfl) rfl (by kernel_rfl) ?_
  refine x_val (.string ({data := #[]} : ByteArray)) (by kernel_rfl) rfl (by kernel_rfl) ?_
  refine x_val (.bool false) (by kernel_rfl) rfl (by kernel_rfl) ?_
  refine x_nil ?_
  refine x_then ?_
  refine x_retc ?_
  refine x_ret (.tuple #[.string ({data := #[]} : ByteArray), .bool false]) (by kernel_rfl) (by kernel_rfl) ?_
  replace H := H.pick [0, 1] [.blk t #[.slice (some ⟨g2, 0, none⟩) (List.length (xs ++ [(k, v)])) c2, .int .i64 ((room : Nat) : Int), .func (.func 26) #[] #[]] 104, .row (.slice (some ⟨g2, 0, none⟩) (List.length (xs ++ [(k, v)])) c2) 107 2 (List.length (xs ++ [(k, v)])) (List.flatMap pairLS (xs ++ [(k, v)]))] (by decide) (by kernel_rfl)
  exact ⟨_, rfl, H⟩

set_option maxRecDepth 100000 in
set_option maxHeartbeats 2000000 in
theorem Put_roomS_s {t : Nat} {xs : List PairS} {room : Nat} (k : ByteArray) (v : Int) {g cap : Nat} (hn : xs.length ≤ 4096) (hq : ¬ (fkS xs k) < xs.length) (hr : xs.length < room) (w0 : World) (H0 : Hs (fps [.blk t #[.slice (some ⟨g, 0, none⟩) (List.length xs) cap, .int .i64 ((room : Nat) : Int), .func (.func 26) #[] #[]] 104, .row (.slice (some ⟨g, 0, none⟩) (List.length xs) cap) 107 2 (List.length xs) (List.flatMap pairLS xs)]) w0 w0 [.blk t #[.slice (some ⟨g, 0, none⟩) (List.length xs) cap, .int .i64 ((room : Nat) : Int), .func (.func 26) #[] #[]] 104, .row (.slice (some ⟨g, 0, none⟩) (List.length xs) cap) 107 2 (List.length xs) (List.flatMap pairLS xs)]) :
    Calls Try.prog 38 #[.pointer (some ⟨t, 0, none⟩), .string k, .int .i64 v] w0 fun e w' => ∃ sv', e = .returned (.tuple #[.string ({data := #[]} : ByteArray), .bool false]) ∧ Hs (fps [.blk t #[.slice (some ⟨g, 0, none⟩) (List.length xs) cap, .int .i64 ((room : Nat) : Int), .func (.func 26) #[] #[]] 104, .row (.slice (some ⟨g, 0, none⟩) (List.length xs) cap) 107 2 (List.length xs) (List.flatMap pairLS xs)]) w0 w' [.blk t #[sv', .int .i64 ((room : Nat) : Int), .func (.func 26) #[] #[]] 104, .row (sv') 107 2 (List.length (xs ++ [(k, v)])) (List.flatMap pairLS (xs ++ [(k, v)]))] := by
  refine x_enter Try.func38 rfl #[.pointer (some ⟨t, 0, none⟩), .string k, .int .i64 v, undef, undef, undef, undef, undef, undef, undef, undef, undef, undef, undef, undef, undef, undef, undef, undef, undef, undef, undef, undef, undef, undef, undef, undef, undef, undef, undef, undef, undef, undef, undef, undef, undef, undef, undef, undef, undef, undef, undef, undef, undef, undef, undef, undef, undef, undef, undef, undef] (by kernel_rfl) ?_
  have H := H0
  have q1 : decide ((((List.length xs) : Nat) : Int) = ((room : Nat) : Int)) = false := by simp; omega
  refine x_seq ?_
  refine x_region ?_
  refine x_val (.string ({data := #[]} : ByteArray)) (by kernel_rfl) rfl (by kernel_rfl) ?_
  refine x_val (.bool false) (by kernel_rfl) rfl (by kernel_rfl) ?_
  refine x_nil ?_
  refine x_then ?_
  refine x_seq ?_
  refine x_seq ?_
  refine x_region ?_
  refine x_val (.pointer (some ⟨t, 0, none⟩)) (by kernel_rfl) rfl (by kernel_rfl) ?_
  refine x_val (.string k) (by kernel_rfl) rfl (by kernel_rfl) ?_
  refine x_callB (.int .i64 (-1)) H (by kernel_rfl) rfl (by kernel_rfl) (by have h := find_S (room := room) k hn _ (H.roOf [0, 1] [.blk t #[.slice (some ⟨g, 0, none⟩) (List.length xs) cap, .int .i64 ((room : Nat) : Int), .func (.func 26) #[] #[]] 104, .row (.slice (some ⟨g, 0, none⟩) (List.length xs) cap) 107 2 (List.length xs) (List.flatMap pairLS xs)] (by kernel_rfl)); rw [show findS xs k = -1 by unfold findS; rw [if_neg hq]] at h; exact h) ?_
  clear H
  intro v1 H
  refine x_val (.int .i64 (-1)) (by kernel_rfl) rfl (by kernel_rfl) ?_
  refine x_nil ?_
  refine x_then ?_
  refine x_seq ?_
  refine x_region ?_
  refine x_val (.int .i64 (-1)) (by kernel_rfl) rfl (by kernel_rfl) ?_
  refine x_val (.bool false) (by kernel_rfl) rfl (by kernel_rfl) ?_
  refine x_nil ?_
  refine x_then ?_
  refine x_f (by kernel_rfl) ?_
  refine x_skipc ?_
  refine x_then ?_
  refine x_seq ?_
  refine x_seq ?_
  refine x_region_whole (fun w' => Hs (fps [.blk t #[.slice (some ⟨g, 0, none⟩) (List.length xs) cap, .int .i64 ((room : Nat) : Int), .func (.func 26) #[] #[]] 104, .row (.slice (some ⟨g, 0, none⟩) (List.length xs) cap) 107 2 (List.length xs) (List.flatMap pairLS xs)]) w0 w' [.blk t #[.slice (some ⟨g, 0, none⟩) (List.length xs) cap, .int .i64 ((room : Nat) : Int), .func (.func 26) #[] #[]] 104, .row (.slice (some ⟨g, 0, none⟩) (List.length xs) cap) 107 2 (List.length xs) (List.flatMap pairLS xs)]) (by kernel_rfl) (by kernel_rfl) (by kernel_rfl) H.drew ?_
  refine q_val (.pointer (some ⟨t, 0, none⟩)) (by kernel_rfl) (fun _ => by kernel_rfl) ?_
  refine q_val (.pointer (some ⟨t, 0, none⟩)) (by kernel_rfl) (fun _ => by kernel_rfl) ?_
  refine q_val (.pointer (some ⟨t, 0, none⟩)) (by kernel_rfl) (fun _ => by kernel_rfl) ?_
  refine q_load1 0 t 0 #[.slice (some ⟨g, 0, none⟩) (List.length xs) cap, .int .i64 ((room : Nat) : Int), .func (.func 26) #[] #[]] 104 (.slice (some ⟨g, 0, none⟩) (List.length xs) cap) (by kernel_rfl) (by kernel_rfl) (by kernel_rfl) (fun _ => by kernel_rfl) ?_
  refine q_val (.int .i64 (((List.length xs) : Nat) : Int)) (by kernel_rfl) (fun _ => by kernel_rfl) ?_
  refine q_val (.pointer (some ⟨t, 0, none⟩)) (by kernel_rfl) (fun _ => by kernel_rfl) ?_
  refine q_val (.pointer (some ⟨t, 0, none⟩)) (by kernel_rfl) (fun _ => by kernel_rfl) ?_
  refine q_val (.pointer (some ⟨t, 1, none⟩)) (by kernel_rfl) (fun _ => by kernel_rfl) ?_
  refine q_load1 0 t 1 #[.slice (some ⟨g, 0, none⟩) (List.length xs) cap, .int .i64 ((room : Nat) : Int), .func (.func 26) #[] #[]] 104 (.int .i64 ((room : Nat) : Int)) (by kernel_rfl) (by kernel_rfl) (by kernel_rfl) (fun _ => by kernel_rfl) ?_
  refine q_val (.bool (decide ((((List.length xs) : Nat) : Int) = ((room : Nat) : Int)))) (by kernel_rfl) (fun _ => by kernel_rfl) ?_
  refine q_nil ?_
  clear H
  intro v2 H
  refine x_then ?_
  rw [q1]
  refine x_f (by kernel_rfl) ?_
  refine x_skipc ?_
  refine x_then ?_
  refine x_seq ?_
  refine x_region ?_
  refine x_val (.pointer (some ⟨t, 0, none⟩)) (by kernel_rfl) rfl (by kernel_rfl) ?_
  refine x_val (.pointer (some ⟨t, 0, none⟩)) (by kernel_rfl) rfl (by kernel_rfl) ?_
  refine x_val (.pointer (some ⟨t, 0, none⟩)) (by kernel_rfl) rfl (by kernel_rfl) ?_
  refine x_val (.pointer (some ⟨t, 0, none⟩)) (by kernel_rfl) rfl (by kernel_rfl) ?_
  refine x_load1 H 0 t 0 #[.slice (some ⟨g, 0, none⟩) (List.length xs) cap, .int .i64 ((room : Nat) : Int), .func (.func 26) #[] #[]] 104 (.slice (some ⟨g, 0, none⟩) (List.length xs) cap) (by kernel_rfl) (by kernel_rfl) (by kernel_rfl) rfl (by kernel_rfl) ?_
  refine x_val (.string k) (by kernel_rfl) rfl (by kernel_rfl) ?_
  refine x_val (.int .i64 v) (by kernel_rfl) rfl (by kernel_rfl) ?_
  refine x_val (.agg #[.string k, .int .i64 v]) (by kernel_rfl) rfl (by kernel_rfl) ?_
  refine x_box' H #[.string k, .int .i64 v] 107 1 (by kernel_rfl) rfl (by kernel_rfl) ?_
  clear H
  intro v3 g1 H
  refine x_append H 2 (.slice (some ⟨g, 0, none⟩) (List.length xs) cap) 102 107 2 24 (List.length xs) (.agg #[.string ByteArray.empty, .int .i64 0]) (List.flatMap pairLS xs) ⟨g1, 0, none⟩ 1 1 [.string k, .int .i64 v] rfl (by kernel_rfl) (by kernel_rfl) rfl (by decide) (by decide) rfl (fun j u hj => by rw [add_none]; exact cellOf (H.blk 0 rfl) (by simpa using hj)) (List.all_eq_true.1 (by kernel_rfl)) (by unfold maxLen; omega) (by omega) (by kernel_rfl) rfl (by kernel_rfl) ?_
  clear H
  intro v4 g2 c2 hc2 H
  rw [show (((List.length xs) + 1) : Nat) = (List.length (xs ++ [(k, v)])) from (by simp)] at H ⊢
  rw [show (List.flatMap pairLS xs) ++ [.string k, .int .i64 v] = (List.flatMap pairLS (xs ++ [(k, v)])) from (by rw [List.flatMap_append]; rfl)] at H
  replace H : Hs (fps [.blk t #[.slice (some ⟨g, 0, none⟩) (List.length xs) cap, .int .i64 ((room : Nat) : Int), .func (.func 26) #[] #[]] 104, .row (.slice (some ⟨g, 0, none⟩) (List.length xs) cap) 107 2 (List.length xs) (List.flatMap pairLS xs)]) w0 v4 [.blk g1 #[.string k, .int .i64 v] 107, .blk t #[.slice (some ⟨g, 0, none⟩) (List.length xs) cap, .int .i64 ((room : Nat) : Int), .func (.func 26) #[] #[]] 104, .row (.slice (some ⟨g2, 0, none⟩) (List.length (xs ++ [(k, v)])) c2) 107 2 (List.length (xs ++ [(k, v)])) (List.flatMap pairLS (xs ++ [(k, v)]))] := H
  replace H := H.pick [1, 2] [.blk t #[.slice (some ⟨g, 0, none⟩) (List.length xs) cap, .int .i64 ((room : Nat) : Int), .func (.func 26) #[] #[]] 104, .row (.slice (some ⟨g2, 0, none⟩) (List.length (xs ++ [(k, v)])) c2) 107 2 (List.length (xs ++ [(k, v)])) (List.flatMap pairLS (xs ++ [(k, v)]))] (by decide) (by kernel_rfl)
  refine x_val (.pointer (some ⟨t, 0, none⟩)) (by kernel_rfl) rfl (by kernel_rfl) ?_
  refine x_val (.pointer (some ⟨t, 0, none⟩)) (by kernel_rfl) rfl (by kernel_rfl) ?_
  refine x_store (t := 102) (v := .slice (some ⟨g2, 0, none⟩) (List.length (xs ++ [(k, v)])) c2) H 0 t 0 #[.slice (some ⟨g, 0, none⟩) (List.length xs) cap, .int .i64 ((room : Nat) : Int), .func (.func 26) #[] #[]] #[.slice (some ⟨g2, 0, none⟩) (List.length (xs ++ [(k, v)])) c2, .int .i64 ((room : Nat) : Int), .func (.func 26) #[] #[]] 104 [.slice (some ⟨g2, 0, none⟩) (List.length (xs ++ [(k, v)])) c2] [.blk t #[.slice (some ⟨g2, 0, none⟩) (List.length (xs ++ [(k, v)])) c2, .int .i64 ((room : Nat) : Int), .func (.func 26) #[] #[]] 104, .row (.slice (some ⟨g2, 0, none⟩) (List.length (xs ++ [(k, v)])) c2) 107 2 (List.length (xs ++ [(k, v)])) (List.flatMap pairLS (xs ++ [(k, v)]))] (by kernel_rfl) rfl (by kernel_rfl) (by kernel_rfl) (by kernel_rfl) (by kernel_rfl) (by kernel_rfl) (by kernel_rfl) (by kernel_rfl) (by kernel_rfl) ?_
  clear H
  intro v5 H
  refine x_nil ?_
  refine x_frame' { tmps := #[.pointer (some ⟨t, 0, none⟩), .string k, .int .i64 v, undef, undef, undef, .string ({data := #[]} : ByteArray), .bool false, .int .i64 (-1), .pointer (some ⟨t, 0, none⟩), .string k, .int .i64 (-1), .int .i64 (-1), .bool false, undef, undef, undef, undef, undef, undef, undef, undef, undef, .pointer (some ⟨t, 0, none⟩), .pointer (some ⟨t, 0, none⟩), .pointer (some ⟨t, 0, none⟩), .slice (some ⟨g, 0, none⟩) (List.length xs) cap, .int .i64 (((List.length xs) : Nat) : Int), .pointer (some ⟨t, 0, none⟩), .pointer (some ⟨t, 0, none⟩), .pointer (some ⟨t, 1, none⟩), .int .i64 ((room : Nat) : Int), .bool false, undef, undef, undef, undef, .pointer (some ⟨t, 0, none⟩), .pointer (some ⟨t, 0, none⟩), .pointer (some ⟨t, 0, none⟩), .pointer (some ⟨t, 0, none⟩), .slice (some ⟨g, 0, none⟩) (List.length xs) cap, .string k, .int .i64 v, .agg #[.string k, .int .i64 v], .slice (some ⟨g1, 0, none⟩) 1 1, .slice (some ⟨g2, 0, none⟩) (List.length (xs ++ [(k, v)])) c2, .pointer (some ⟨t, 0, none⟩), .pointer (some ⟨t, 0, none⟩), undef, undef], defers := [] } (by kernel_rfl) ?_
  refine x_then ?_
  refine x_seq ?_
  refine x_region ?_
  refine x_val (.string ({data := #[]} : ByteArray)) (by kernel_rfl) rfl (by kernel_rfl) ?_
  refine x_val (.bool false) (by kernel_rfl) rfl (by kernel_rfl) ?_
  refine x_val (.string ({data := #[]} : ByteArray)) (by kernel_rfl) rfl (by kernel_rfl) ?_
  refine x_val (.bool false) (by kernel_rfl) rfl (by kernel_rfl) ?_
  refine x_nil ?_
  refine x_then ?_
  refine x_retc ?_
  refine x_ret (.tuple #[.string ({data := #[]} : ByteArray), .bool false]) (by kernel_rfl) (by kernel_rfl) ?_
  replace H := H.pick [0, 1] [.blk t #[.slice (some ⟨g2, 0, none⟩) (List.length (xs ++ [(k, v)])) c2, .int .i64 ((room : Nat) : Int), .func (.func 26) #[] #[]] 104, .row (.slice (some ⟨g2, 0, none⟩) (List.length (xs ++ [(k, v)])) c2) 107 2 (List.length (xs ++ [(k, v)])) (List.flatMap pairLS (xs ++ [(k, v)]))] (by decide) (by kernel_rfl)
  exact ⟨_, rfl, H⟩

set_option maxRecDepth 100000 in
set_option maxHeartbeats 2000000 in
theorem Put_evictS {t : Nat} {xs : List PairS} {room : Nat} (k : ByteArray) (v : Int) {g cap : Nat} (hn : xs.length ≤ 4096) (hq : ¬ (fkS xs k) < xs.length) (hr : xs.length = room) (h1 : 1 ≤ room) (w0 : World) (H0 : Hs (fps [.blk t #[.slice (some ⟨g, 0, none⟩) (List.length xs) cap, .int .i64 ((room : Nat) : Int), .func (.func 26) #[] #[]] 104, .row (.slice (some ⟨g, 0, none⟩) (List.length xs) cap) 107 2 (List.length xs) (List.flatMap pairLS xs)]) w0 w0 [.blk t #[.slice (some ⟨g, 0, none⟩) (List.length xs) cap, .int .i64 ((room : Nat) : Int), .func (.func 26) #[] #[]] 104, .row (.slice (some ⟨g, 0, none⟩) (List.length xs) cap) 107 2 (List.length xs) (List.flatMap pairLS xs)]) :
    Calls Try.prog 38 #[.pointer (some ⟨t, 0, none⟩), .string k, .int .i64 v] w0 fun e w' => ∃ sv', e = .returned (.tuple #[.string ((xs.getD ((ltS xs xs.length).1) (ByteArray.empty, 0)).1), .bool true]) ∧ Hs (fps [.blk t #[.slice (some ⟨g, 0, none⟩) (List.length xs) cap, .int .i64 ((room : Nat) : Int), .func (.func 26) #[] #[]] 104, .row (.slice (some ⟨g, 0, none⟩) (List.length xs) cap) 107 2 (List.length xs) (List.flatMap pairLS xs)]) w0 w' [.blk t #[sv', .int .i64 ((room : Nat) : Int), .func (.func 26) #[] #[]] 104, .row (sv') 107 2 (List.length ((xs.eraseIdx (ltS xs xs.length).1) ++ [(k, v)])) (List.flatMap pairLS ((xs.eraseIdx (ltS xs xs.length).1) ++ [(k, v)]))] := by
  refine x_enter Try.func38 rfl #[.pointer (some ⟨t, 0, none⟩), .string k, .int .i64 v, undef, undef, undef, undef, undef, undef, undef, undef, undef, undef, undef, undef, undef, undef, undef, undef, undef, undef, undef, undef, undef, undef, undef, undef, undef, undef, undef, undef, undef, undef, undef, undef, undef, undef, undef, undef, undef, undef, undef, undef, undef, undef, undef, undef, undef, undef, undef, undef] (by kernel_rfl) ?_
  have H := H0
  have q1 : decide ((((List.length xs) : Nat) : Int) = ((room : Nat) : Int)) = true := by simp; omega
  have hl : (ltS xs xs.length).1 < xs.length := lt_ltS xs _ (by omega)
  refine x_seq ?_
  refine x_region ?_
  refine x_val (.string ({data := #[]} : ByteArray)) (by kernel_rfl) rfl (by kernel_rfl) ?_
  refine x_val (.bool false) (by kernel_rfl) rfl (by kernel_rfl) ?_
  refine x_nil ?_
  refine x_then ?_
  refine x_seq ?_
  refine x_seq ?_
  refine x_region ?_
  refine x_val (.pointer (some ⟨t, 0, none⟩)) (by kernel_rfl) rfl (by kernel_rfl) ?_
  refine x_val (.string k) (by kernel_rfl) rfl (by kernel_rfl) ?_
  refine x_callB (.int .i64 (-1)) H (by kernel_rfl) rfl (by kernel_rfl) (by have h := find_S (room := room) k hn _ (H.roOf [0, 1] [.blk t #[.slice (some ⟨g, 0, none⟩) (List.length xs) cap, .int .i64 ((room : Nat) : Int), .func (.func 26) #[] #[]] 104, .row (.slice (some ⟨g, 0, none⟩) (List.length xs) cap) 107 2 (List.length xs) (List.flatMap pairLS xs)] (by kernel_rfl)); rw [show findS xs k = -1 by unfold findS; rw [if_neg hq]] at h; exact h) ?_
  clear H
  intro v1 H
  refine x_val (.int .i64 (-1)) (by kernel_rfl) rfl (by kernel_rfl) ?_
  refine x_nil ?_
  refine x_then ?_
  refine x_seq ?_
  refine x_region ?_
  refine x_val (.int .i64 (-1)) (by kernel_rfl) rfl (by kernel_rfl) ?_
  refine x_val (.bool false) (by kernel_rfl) rfl (by kernel_rfl) ?_
  refine x_nil ?_
  refine x_then ?_
  refine x_f (by kernel_rfl) ?_
  refine x_skipc ?_
  refine x_then ?_
  refine x_seq ?_
  refine x_seq ?_
  refine x_region_whole (fun w' => Hs (fps [.blk t #[.slice (some ⟨g, 0, none⟩) (List.length xs) cap, .int .i64 ((room : Nat) : Int), .func (.func 26) #[] #[]] 104, .row (.slice (some ⟨g, 0, none⟩) (List.length xs) cap) 107 2 (List.length xs) (List.flatMap pairLS xs)]) w0 w' [.blk t #[.slice (some ⟨g, 0, none⟩) (List.length xs) cap, .int .i64 ((room : Nat) : Int), .func (.func 26) #[] #[]] 104, .row (.slice (some ⟨g, 0, none⟩) (List.length xs) cap) 107 2 (List.length xs) (List.flatMap pairLS xs)]) (by kernel_rfl) (by kernel_rfl) (by kernel_rfl) H.drew ?_
  refine q_val (.pointer (some ⟨t, 0, none⟩)) (by kernel_rfl) (fun _ => by kernel_rfl) ?_
  refine q_val (.pointer (some ⟨t, 0, none⟩)) (by kernel_rfl) (fun _ => by kernel_rfl) ?_
  refine q_val (.pointer (some ⟨t, 0, none⟩)) (by kernel_rfl) (fun _ => by kernel_rfl) ?_
  refine q_load1 0 t 0 #[.slice (some ⟨g, 0, none⟩) (List.length xs) cap, .int .i64 ((room : Nat) : Int), .func (.func 26) #[] #[]] 104 (.slice (some ⟨g, 0, none⟩) (List.length xs) cap) (by kernel_rfl) (by kernel_rfl) (by kernel_rfl) (fun _ => by kernel_rfl) ?_
  refine q_val (.int .i64 (((List.length xs) : Nat) : Int)) (by kernel_rfl) (fun _ => by kernel_rfl) ?_
  refine q_val (.pointer (some ⟨t, 0, none⟩)) (by kernel_rfl) (fun _ => by kernel_rfl) ?_
  refine q_val (.pointer (some ⟨t, 0, none⟩)) (by kernel_rfl) (fun _ => by kernel_rfl) ?_
  refine q_val (.pointer (some ⟨t, 1, none⟩)) (by kernel_rfl) (fun _ => by kernel_rfl) ?_
  refine q_load1 0 t 1 #[.slice (some ⟨g, 0, none⟩) (List.length xs) cap, .int .i64 ((room : Nat) : Int), .func (.func 26) #[] #[]] 104 (.int .i64 ((room : Nat) : Int)) (by kernel_rfl) (by kernel_rfl) (by kernel_rfl) (fun _ => by kernel_rfl) ?_
  refine q_val (.bool (decide ((((List.length xs) : Nat) : Int) = ((room : Nat) : Int)))) (by kernel_rfl) (fun _ => by kernel_rfl) ?_
  refine q_nil ?_
  clear H
  intro v2 H
  refine x_then ?_
  rw [q1]
  refine x_t (by kernel_rfl) ?_
  refine x_region ?_
  refine x_val (.pointer (some ⟨t, 0, none⟩)) (by kernel_rfl) rfl (by kernel_rfl) ?_
  refine x_val (.pointer (some ⟨t, 0, none⟩)) (by kernel_rfl) rfl (by kernel_rfl) ?_
  refine x_callB (.int .i64 ((((ltS xs xs.length).1) : Nat) : Int)) H (by kernel_rfl) rfl (by kernel_rfl) (lightest_S hn _ (H.roOf [0, 1] [.blk t #[.slice (some ⟨g, 0, none⟩) (List.length xs) cap, .int .i64 ((room : Nat) : Int), .func (.func 26) #[] #[]] 104, .row (.slice (some ⟨g, 0, none⟩) (List.length xs) cap) 107 2 (List.length xs) (List.flatMap pairLS xs)] (by kernel_rfl))) ?_
  clear H
  intro v3 H
  refine x_callH (.string ((xs.getD ((ltS xs xs.length).1) (ByteArray.empty, 0)).1)) [.blk t #[.slice (some ⟨g, 0, none⟩) (List.length (xs.eraseIdx (ltS xs xs.length).1)) cap, .int .i64 ((room : Nat) : Int), .func (.func 26) #[] #[]] 104, .row (.slice (some ⟨g, 0, none⟩) (List.length (xs.eraseIdx (ltS xs xs.length).1)) cap) 107 2 (List.length (xs.eraseIdx (ltS xs xs.length).1)) (List.flatMap pairLS (xs.eraseIdx (ltS xs xs.length).1))] (by kernel_rfl) rfl (by kernel_rfl) (Hs.use (A := [.blk t #[.slice (some ⟨g, 0, none⟩) (List.length xs) cap, .int .i64 ((room : Nat) : Int), .func (.func 26) #[] #[]] 104, .row (.slice (some ⟨g, 0, none⟩) (List.length xs) cap) 107 2 (List.length xs) (List.flatMap pairLS xs)]) (R := []) (H.pick [0, 1] _ (by decide) (by kernel_rfl)) (fun h => remove_S ((ltS xs xs.length).1) hl hn _ h)) ?_
  clear H
  intro v4 H
  refine x_val (.string ((xs.getD ((ltS xs xs.length).1) (ByteArray.empty, 0)).1)) (by kernel_rfl) rfl (by kernel_rfl) ?_
  refine x_val (.bool true) (by kernel_rfl) rfl (by kernel_rfl) ?_
  refine x_nil ?_
  refine x_then ?_
  refine x_seq ?_
  refine x_region ?_
  refine x_val (.pointer (some ⟨t, 0, none⟩)) (by kernel_rfl) rfl (by kernel_rfl) ?_
  refine x_val (.pointer (some ⟨t, 0, none⟩)) (by kernel_rfl) rfl (by kernel_rfl) ?_
  refine x_val (.pointer (some ⟨t, 0, none⟩)) (by kernel_rfl) rfl (by kernel_rfl) ?_
  refine x_val (.pointer (some ⟨t, 0, none⟩)) (by kernel_rfl) rfl (by kernel_rfl) ?_
  refine x_load1 H 0 t 0 #[.slice (some ⟨g, 0, none⟩) (List.length (xs.eraseIdx (ltS xs xs.length).1)) cap, .int .i64 ((room : Nat) : Int), .func (.func 26) #[] #[]] 104 (.slice (some ⟨g, 0, none⟩) (List.length (xs.eraseIdx (ltS xs xs.length).1)) cap) (by kernel_rfl) (by kernel_rfl) (by kernel_rfl) rfl (by kernel_rfl) ?_
  refine x_val (.string k) (by kernel_rfl) rfl (by kernel_rfl) ?_
  refine x_val (.int .i64 v) (by kernel_rfl) rfl (by kernel_rfl) ?_
  refine x_val (.agg #[.string k, .int .i64 v]) (by kernel_rfl) rfl (by kernel_rfl) ?_
  refine x_box' H #[.string k, .int .i64 v] 107 1 (by kernel_rfl) rfl (by kernel_rfl) ?_
  clear H
  intro v5 g1 H
  refine x_append H 2 (.slice (some ⟨g, 0, none⟩) (List.length (xs.eraseIdx (ltS xs xs.length).1)) cap) 102 107 2 24 (List.length (xs.eraseIdx (ltS xs xs.length).1)) (.agg #[.string ByteArray.empty, .int .i64 0]) (List.flatMap pairLS (xs.eraseIdx (ltS xs xs.length).1)) ⟨g1, 0, none⟩ 1 1 [.string k, .int .i64 v] rfl (by kernel_rfl) (by kernel_rfl) rfl (by decide) (by decide) rfl (fun j u hj => by rw [add_none]; exact cellOf (H.blk 0 rfl) (by simpa using hj)) (List.all_eq_true.1 (by kernel_rfl)) (by rw [List.length_eraseIdx]; unfold maxLen; split <;> omega) (by rw [List.length_eraseIdx]; split <;> omega) (by kernel_rfl) rfl (by kernel_rfl) ?_
  clear H
  intro v6 g2 c2 hc2 H
  rw [show (((List.length (xs.eraseIdx (ltS xs xs.length).1)) + 1) : Nat) = (List.length ((xs.eraseIdx (ltS xs xs.length).1) ++ [(k, v)])) from (by simp)] at H ⊢
  rw [show (List.flatMap pairLS (xs.eraseIdx (ltS xs xs.length).1)) ++ [.string k, .int .i64 v] = (List.flatMap pairLS ((xs.eraseIdx (ltS xs xs.length).1) ++ [(k, v)])) from (by rw [List.flatMap_append]; rfl)] at H
  replace H : Hs (fps [.blk t #[.slice (some ⟨g, 0, none⟩) (List.length xs) cap, .int .i64 ((room : Nat) : Int), .func (.func 26) #[] #[]] 104, .row (.slice (some ⟨g, 0, none⟩) (List.length xs) cap) 107 2 (List.length xs) (List.flatMap pairLS xs)]) w0 v6 [.blk g1 #[.string k, .int .i64 v] 107, .blk t #[.slice (some ⟨g, 0, none⟩) (List.length (xs.eraseIdx (ltS xs xs.length).1)) cap, .int .i64 ((room : Nat) : Int), .func (.func 26) #[] #[]] 104, .row (.slice (some ⟨g2, 0, none⟩) (List.length ((xs.eraseIdx (ltS xs xs.length).1) ++ [(k, v)])) c2) 107 2 (List.length ((xs.eraseIdx (ltS xs xs.length).1) ++ [(k, v)])) (List.flatMap pairLS ((xs.eraseIdx (ltS xs xs.length).1) ++ [(k, v)]))] := H
  replace H := H.pick [1, 2] [.blk t #[.slice (some ⟨g, 0, none⟩) (List.length (xs.eraseIdx (ltS xs xs.length).1)) cap, .int .i64 ((room : Nat) : Int), .func (.func 26) #[] #[]] 104, .row (.slice (some ⟨g2, 0, none⟩) (List.length ((xs.eraseIdx (ltS xs xs.length).1) ++ [(k, v)])) c2) 107 2 (List.length ((xs.eraseIdx (ltS xs xs.length).1) ++ [(k, v)])) (List.flatMap pairLS ((xs.eraseIdx (ltS xs xs.length).1) ++ [(k, v)]))] (by decide) (by kernel_rfl)
  refine x_val (.pointer (some ⟨t, 0, none⟩)) (by kernel_rfl) rfl (by kernel_rfl) ?_
  refine x_val (.pointer (some ⟨t, 0, none⟩)) (by kernel_rfl) rfl (by kernel_rfl) ?_
  refine x_store (t := 102) (v := .slice (some ⟨g2, 0, none⟩) (List.length ((xs.eraseIdx (ltS xs xs.length).1) ++ [(k, v)])) c2) H 0 t 0 #[.slice (some ⟨g, 0, none⟩) (List.length (xs.eraseIdx (ltS xs xs.length).1)) cap, .int .i64 ((room : Nat) : Int), .func (.func 26) #[] #[]] #[.slice (some ⟨g2, 0, none⟩) (List.length ((xs.eraseIdx (ltS xs xs.length).1) ++ [(k, v)])) c2, .int .i64 ((room : Nat) : Int), .func (.func 26) #[] #[]] 104 [.slice (some ⟨g2, 0, none⟩) (List.length ((xs.eraseIdx (ltS xs xs.length).1) ++ [(k, v)])) c2] [.blk t #[.slice (some ⟨g2, 0, none⟩) (List.length ((xs.eraseIdx (ltS xs xs.length).1) ++ [(k, v)])) c2, .int .i64 ((room : Nat) : Int), .func (.func 26) #[] #[]] 104, .row (.slice (some ⟨g2, 0, none⟩) (List.length ((xs.eraseIdx (ltS xs xs.length).1) ++ [(k, v)])) c2) 107 2 (List.length ((xs.eraseIdx (ltS xs xs.length).1) ++ [(k, v)])) (List.flatMap pairLS ((xs.eraseIdx (ltS xs xs.length).1) ++ [(k, v)]))] (by kernel_rfl) rfl (by kernel_rfl) (by kernel_rfl) (by kernel_rfl) (by kernel_rfl) (by kernel_rfl) (by kernel_rfl) (by kernel_rfl) (by kernel_rfl) ?_
  clear H
  intro v7 H
  refine x_nil ?_
  refine x_frame' { tmps := #[.pointer (some ⟨t, 0, none⟩), .string k, .int .i64 v, undef, undef, undef, .string ((xs.getD ((ltS xs xs.length).1) (ByteArray.empty, 0)).1), .bool true, .int .i64 (-1), .pointer (some ⟨t, 0, none⟩), .string k, .int .i64 (-1), .int .i64 (-1), .bool false, undef, undef, undef, undef, undef, undef, undef, undef, undef, .pointer (some ⟨t, 0, none⟩), .pointer (some ⟨t, 0, none⟩), .pointer (some ⟨t, 0, none⟩), .slice (some ⟨g, 0, none⟩) (List.length xs) cap, .int .i64 (((List.length xs) : Nat) : Int), .pointer (some ⟨t, 0, none⟩), .pointer (some ⟨t, 0, none⟩), .pointer (some ⟨t, 1, none⟩), .int .i64 ((room : Nat) : Int), .bool true, .pointer (some ⟨t, 0, none⟩), .pointer (some ⟨t, 0, none⟩), .int .i64 ((((ltS xs xs.length).1) : Nat) : Int), .string ((xs.getD ((ltS xs xs.length).1) (ByteArray.empty, 0)).1), .pointer (some ⟨t, 0, none⟩), .pointer (some ⟨t, 0, none⟩), .pointer (some ⟨t, 0, none⟩), .pointer (some ⟨t, 0, none⟩), .slice (some ⟨g, 0, none⟩) (List.length (xs.eraseIdx (ltS xs xs.length).1)) cap, .string k, .int .i64 v, .agg #[.string k, .int .i64 v], .slice (some ⟨g1, 0, none⟩) 1 1, .slice (some ⟨g2, 0, none⟩) (List.length ((xs.eraseIdx (ltS xs xs.length).1) ++ [(k, v)])) c2, .pointer (some ⟨t, 0, none⟩), .pointer (some ⟨t, 0, none⟩), undef, undef], defers := [] } (by kernel_rfl) ?_
  refine x_then ?_
  refine x_seq ?_
  refine x_region ?_
  refine x_val (.string ((xs.getD ((ltS xs xs.length).1) (ByteArray.empty, 0)).1)) (by kernel_rfl) rfl (by kernel_rfl) ?_
  refine x_val (.bool true) (by kernel_rfl) rfl (by kernel_rfl) ?_
  refine x_val (.string ((xs.getD ((ltS xs xs.length).1) (ByteArray.empty, 0)).1)) (by kernel_rfl) rfl (by kernel_rfl) ?_
  refine x_val (.bool true) (by kernel_rfl) rfl (by kernel_rfl) ?_
  refine x_nil ?_
  refine x_then ?_
  refine x_retc ?_
  refine x_ret (.tuple #[.string ((xs.getD ((ltS xs xs.length).1) (ByteArray.empty, 0)).1), .bool true]) (by kernel_rfl) (by kernel_rfl) ?_
  replace H := H.pick [0, 1] [.blk t #[.slice (some ⟨g2, 0, none⟩) (List.length ((xs.eraseIdx (ltS xs xs.length).1) ++ [(k, v)])) c2, .int .i64 ((room : Nat) : Int), .func (.func 26) #[] #[]] 104, .row (.slice (some ⟨g2, 0, none⟩) (List.length ((xs.eraseIdx (ltS xs xs.length).1) ++ [(k, v)])) c2) 107 2 (List.length ((xs.eraseIdx (ltS xs xs.length).1) ++ [(k, v)])) (List.flatMap pairLS ((xs.eraseIdx (ltS xs xs.length).1) ++ [(k, v)]))] (by decide) (by kernel_rfl)
  exact ⟨_, rfl, H⟩

theorem Put_S {t : Nat} {xs : List PairS} {room : Nat} (k : ByteArray) (v : Int) {sv : Value} (hn : xs.length ≤ 4096) (hr : xs.length ≤ room) (h1 : 1 ≤ room) (w0 : World) (H0 : Hs (fps [.blk t #[sv, .int .i64 ((room : Nat) : Int), .func (.func 26) #[] #[]] 104, .row (sv) 107 2 (List.length xs) (List.flatMap pairLS xs)]) w0 w0 [.blk t #[sv, .int .i64 ((room : Nat) : Int), .func (.func 26) #[] #[]] 104, .row (sv) 107 2 (List.length xs) (List.flatMap pairLS xs)]) :
    Calls Try.prog 38 #[.pointer (some ⟨t, 0, none⟩), .string k, .int .i64 v] w0 fun e w' => ∃ sv', e = .returned (.tuple #[.string (putS room xs k v).2.1, .bool (putS room xs k v).2.2]) ∧ Hs (fps [.blk t #[sv, .int .i64 ((room : Nat) : Int), .func (.func 26) #[] #[]] 104, .row (sv) 107 2 (List.length xs) (List.flatMap pairLS xs)]) w0 w' [.blk t #[sv', .int .i64 ((room : Nat) : Int), .func (.func 26) #[] #[]] 104, .row (sv') 107 2 (List.length ((putS room xs k v).1)) (List.flatMap pairLS ((putS room xs k v).1))] := by
  rcases H0.rowForm 1 rfl with ⟨rfl, h0⟩ | ⟨g, cap, rfl, hc, _⟩
  · have e : (putS room xs k v) = (xs ++ [(k, v)], ({data := #[]} : ByteArray), false) := by unfold putS; rw [if_neg (by omega), if_pos (by omega)]
    rw [e]; exact Put_roomS_n k v hn (by omega) (by omega) w0 H0
  · by_cases hq : (fkS xs k) < xs.length
    · have e : (putS room xs k v) = (xs.set (fkS xs k) ((xs.getD (fkS xs k) (ByteArray.empty, 0)).1, v), ({data := #[]} : ByteArray), false) := by unfold putS; rw [if_pos hq]
      rw [e]; exact Put_setS k v hn hq w0 H0
    · by_cases hlt : xs.length < room
      · have e : (putS room xs k v) = (xs ++ [(k, v)], ({data := #[]} : ByteArray), false) := by unfold putS; rw [if_neg hq, if_pos hlt]
        rw [e]; exact Put_roomS_s k v hn hq hlt w0 H0
      · have e : (putS room xs k v) = ((xs.eraseIdx (ltS xs xs.length).1) ++ [(k, v)], (xs.getD ((ltS xs xs.length).1) (ByteArray.empty, 0)).1, true) := by unfold putS; rw [if_neg hq, if_neg hlt]
        rw [e]; exact Put_evictS k v hn hq (by omega) h1 w0 H0

set_option maxRecDepth 100000 in
set_option maxHeartbeats 2000000 in
theorem TNewS_yes (room : Nat) (h1 : 1 ≤ room) (h2 : room ≤ 256) (w0 : World) :
    Calls Try.prog 37 #[.int .i64 ((room : Nat) : Int), .func (.func 26) #[] #[]] w0 fun e w' => ∃ t, e = .returned (.tuple #[.pointer (some ⟨t, 0, none⟩), .int .i64 0]) ∧ Hs [] w0 w' [.blk t #[.slice none 0 0, .int .i64 ((room : Nat) : Int), .func (.func 26) #[] #[]] 104, .row (.slice none 0 0) 107 2 (List.length ([] : List PairS)) (List.flatMap pairLS ([] : List PairS))] := by
  refine x_enter Try.func37 rfl #[.int .i64 ((room : Nat) : Int), .func (.func 26) #[] #[], undef, undef, undef, undef, undef, undef, undef, undef, undef, undef, undef, undef, undef, undef] (by kernel_rfl) ?_
  have H := Hs.nil w0
  have q1 : decide (((room : Nat) : Int) < 1) = false := by simp; omega
  have q2 : decide (256 < ((room : Nat) : Int)) = false := by simp; omega
  refine x_seq ?_
  refine x_region ?_
  refine x_val (.pointer none) (by kernel_rfl) rfl (by kernel_rfl) ?_
  refine x_val (.int .i64 0) (by kernel_rfl) rfl (by kernel_rfl) ?_
  refine x_nil ?_
  refine x_then ?_
  refine x_seq ?_
  refine x_seq ?_
  refine x_region ?_
  refine x_val (.int .i64 ((room : Nat) : Int)) (by kernel_rfl) rfl (by kernel_rfl) ?_
  refine x_val (.bool (decide (((room : Nat) : Int) < 1))) (by kernel_rfl) rfl (by kernel_rfl) ?_
  refine x_val (.bool (decide (((room : Nat) : Int) < 1))) (by kernel_rfl) rfl (by kernel_rfl) ?_
  rw [q1]
  refine x_val (.int .i64 ((room : Nat) : Int)) (by kernel_rfl) rfl (by kernel_rfl) ?_
  refine x_val (.bool (decide (256 < ((room : Nat) : Int)))) (by kernel_rfl) rfl (by kernel_rfl) ?_
  refine x_val (.bool (decide (256 < ((room : Nat) : Int)))) (by kernel_rfl) rfl (by kernel_rfl) ?_
  refine x_nil ?_
  refine x_then ?_
  rw [q2]
  refine x_f (by kernel_rfl) ?_
  refine x_skipc ?_
  refine x_then ?_
  refine x_seq ?_
  refine x_region ?_
  refine x_val (.int .i64 ((room : Nat) : Int)) (by kernel_rfl) rfl (by kernel_rfl) ?_
  refine x_val (.func (.func 26) #[] #[]) (by kernel_rfl) rfl (by kernel_rfl) ?_
  refine x_val (.agg #[.slice none 0 0, .int .i64 ((room : Nat) : Int), .func (.func 26) #[] #[]]) (by kernel_rfl) rfl (by kernel_rfl) ?_
  refine x_box H #[.slice none 0 0, .int .i64 ((room : Nat) : Int), .func (.func 26) #[] #[]] 104 (by kernel_rfl) rfl (by kernel_rfl) ?_
  clear H
  intro v1 g1 H
  refine x_val (.pointer (some ⟨g1, 0, none⟩)) (by kernel_rfl) rfl (by kernel_rfl) ?_
  refine x_val (.int .i64 0) (by kernel_rfl) rfl (by kernel_rfl) ?_
  refine x_nil ?_
  refine x_then ?_
  refine x_retc ?_
  refine x_ret (.tuple #[.pointer (some ⟨g1, 0, none⟩), .int .i64 0]) (by kernel_rfl) (by kernel_rfl) ?_
  replace H := H.nilRow 107 2
  exact ⟨_, rfl, H.pick [1, 0] _ (by decide) (by kernel_rfl)⟩

set_option maxRecDepth 100000 in
set_option maxHeartbeats 2000000 in
theorem TNewS_no (room : Int) (h1 : room < 1 ∨ 256 < room) (w0 : World) :
    Calls Try.prog 37 #[.int .i64 room, .func (.func 26) #[] #[]] w0 fun e w' => e = .returned (.tuple #[.pointer none, .int .i64 12]) ∧ Below w0.heap.size w0 w' := by
  refine x_enter Try.func37 rfl #[.int .i64 room, .func (.func 26) #[] #[], undef, undef, undef, undef, undef, undef, undef, undef, undef, undef, undef, undef, undef, undef] (by kernel_rfl) ?_
  have H := Hs.nil w0
  refine x_seq ?_
  refine x_region ?_
  refine x_val (.pointer none) (by kernel_rfl) rfl (by kernel_rfl) ?_
  refine x_val (.int .i64 0) (by kernel_rfl) rfl (by kernel_rfl) ?_
  refine x_nil ?_
  refine x_then ?_
  refine x_seq ?_
  refine x_seq ?_
  refine x_region ?_
  refine x_val (.int .i64 room) (by kernel_rfl) rfl (by kernel_rfl) ?_
  refine x_val (.bool (decide (room < 1))) (by kernel_rfl) rfl (by kernel_rfl) ?_
  refine x_val (.bool (decide (room < 1))) (by kernel_rfl) rfl (by kernel_rfl) ?_
  cases h1 : decide (room < 1)
  · skip
    have h1p := of_decide_eq_false h1
    refine x_val (.int .i64 room) (by kernel_rfl) rfl (by kernel_rfl) ?_
    refine x_val (.bool (decide (256 < room))) (by kernel_rfl) rfl (by kernel_rfl) ?_
    refine x_val (.bool (decide (256 < room))) (by kernel_rfl) rfl (by kernel_rfl) ?_
    refine x_nil ?_
    refine x_then ?_
    cases h2 : decide (256 < room)
    · skip
      have h2p := of_decide_eq_false h2
      refine x_f (by kernel_rfl) ?_
      refine x_skipc ?_
      refine x_then ?_
      refine x_seq ?_
      refine x_region ?_
      refine x_val (.int .i64 room) (by kernel_rfl) rfl (by kernel_rfl) ?_
      refine x_val (.func (.func 26) #[] #[]) (by kernel_rfl) rfl (by kernel_rfl) ?_
      refine x_val (.agg #[.slice none 0 0, .int .i64 room, .func (.func 26) #[] #[]]) (by kernel_rfl) rfl (by kernel_rfl) ?_
      refine x_box H #[.slice none 0 0, .int .i64 room, .func (.func 26) #[] #[]] 104 (by kernel_rfl) rfl (by kernel_rfl) ?_
      clear H
      intro v1 g1 H
      refine x_val (.pointer (some ⟨g1, 0, none⟩)) (by kernel_rfl) rfl (by kernel_rfl) ?_
      refine x_val (.int .i64 0) (by kernel_rfl) rfl (by kernel_rfl) ?_
      refine x_nil ?_
      refine x_then ?_
      refine x_retc ?_
      refine x_ret (.tuple #[.pointer (some ⟨g1, 0, none⟩), .int .i64 0]) (by kernel_rfl) (by kernel_rfl) ?_
      exfalso; omega
    · skip
      have h2p := of_decide_eq_true h2
      refine x_t (by kernel_rfl) ?_
      refine x_seq ?_
      refine x_region ?_
      refine x_val (.pointer none) (by kernel_rfl) rfl (by kernel_rfl) ?_
      refine x_val (.int .i64 12) (by kernel_rfl) rfl (by kernel_rfl) ?_
      refine x_nil ?_
      refine x_then ?_
      refine x_retc ?_
      refine x_then_ret ?_
      refine x_ret (.tuple #[.pointer none, .int .i64 12]) (by kernel_rfl) (by kernel_rfl) ?_
      exact ⟨rfl, H.below⟩
  · skip
    have h1p := of_decide_eq_true h1
    refine x_skip (by kernel_rfl) ?_
    refine x_skip (by kernel_rfl) ?_
    refine x_val (.bool true) (by kernel_rfl) rfl (by kernel_rfl) ?_
    refine x_nil ?_
    refine x_then ?_
    refine x_t (by kernel_rfl) ?_
    refine x_seq ?_
    refine x_region ?_
    refine x_val (.pointer none) (by kernel_rfl) rfl (by kernel_rfl) ?_
    refine x_val (.int .i64 12) (by kernel_rfl) rfl (by kernel_rfl) ?_
    refine x_nil ?_
    refine x_then ?_
    refine x_retc ?_
    refine x_then_ret ?_
    refine x_ret (.tuple #[.pointer none, .int .i64 12]) (by kernel_rfl) (by kernel_rfl) ?_
    exact ⟨rfl, H.below⟩

set_option maxRecDepth 100000 in
set_option maxHeartbeats 2000000 in
theorem TLenS_s {t : Nat} {xs : List PairS} {room : Nat} {g cap : Nat} (w0 : World) (hR : Ro w0 [.blk t #[.slice (some ⟨g, 0, none⟩) (List.length xs) cap, .int .i64 ((room : Nat) : Int), .func (.func 26) #[] #[]] 104, .row (.slice (some ⟨g, 0, none⟩) (List.length xs) cap) 107 2 (List.length xs) (List.flatMap pairLS xs)]) :
    Calls Try.prog 39 #[.pointer (some ⟨t, 0, none⟩)] w0 fun e w' => e = .returned (.int .i64 ((xs.length : Nat) : Int)) ∧ Below w0.heap.size w0 w' := by
  refine x_enter Try.func39 rfl #[.pointer (some ⟨t, 0, none⟩), undef, undef, undef, undef, undef, undef, undef] (by kernel_rfl) ?_
  have H := Hs.nil w0
  have R0 := hR
  refine x_seq ?_
  refine x_region ?_
  refine x_val (.int .i64 0) (by kernel_rfl) rfl (by kernel_rfl) ?_
  refine x_nil ?_
  refine x_then ?_
  refine x_seq ?_
  refine x_region ?_
  refine x_val (.pointer (some ⟨t, 0, none⟩)) (by kernel_rfl) rfl (by kernel_rfl) ?_
  refine x_val (.pointer (some ⟨t, 0, none⟩)) (by kernel_rfl) rfl (by kernel_rfl) ?_
  refine x_val (.pointer (some ⟨t, 0, none⟩)) (by kernel_rfl) rfl (by kernel_rfl) ?_
  refine x_loadc t 0 (.slice (some ⟨g, 0, none⟩) (List.length xs) cap) ((H.ro R0).cell 0 rfl 0 rfl) (by kernel_rfl) rfl (by kernel_rfl) ?_
  refine x_val (.int .i64 (((List.length xs) : Nat) : Int)) (by kernel_rfl) rfl (by kernel_rfl) ?_
  refine x_val (.int .i64 (((List.length xs) : Nat) : Int)) (by kernel_rfl) rfl (by kernel_rfl) ?_
  refine x_nil ?_
  refine x_then ?_
  refine x_retc ?_
  refine x_ret (.int .i64 (((List.length xs) : Nat) : Int)) (by kernel_rfl) (by kernel_rfl) ?_
  exact ⟨rfl, H.below⟩

set_option maxRecDepth 100000 in
set_option maxHeartbeats 2000000 in
theorem TLenS_n {t : Nat} {xs : List PairS} {room : Nat} (w0 : World) (hR : Ro w0 [.blk t #[.slice none 0 0, .int .i64 ((room : Nat) : Int), .func (.func 26) #[] #[]] 104, .row (.slice none 0 0) 107 2 (List.length xs) (List.flatMap pairLS xs)]) :
    Calls Try.prog 39 #[.pointer (some ⟨t, 0, none⟩)] w0 fun e w' => e = .returned (.int .i64 0) ∧ Below w0.heap.size w0 w' := by
  refine x_enter Try.func39 rfl #[.pointer (some ⟨t, 0, none⟩), undef, undef, undef, undef, undef, undef, undef] (by kernel_rfl) ?_
  have H := Hs.nil w0
  have R0 := hR
  refine x_seq ?_
  refine x_region ?_
  refine x_val (.int .i64 0) (by kernel_rfl) rfl (by kernel_rfl) ?_
  refine x_nil ?_
  refine x_then ?_
  refine x_seq ?_
  refine x_region ?_
  refine x_val (.pointer (some ⟨t, 0, none⟩)) (by kernel_rfl) rfl (by kernel_rfl) ?_
  refine x_val (.pointer (some ⟨t, 0, none⟩)) (by kernel_rfl) rfl (by kernel_rfl) ?_
  refine x_val (.pointer (some ⟨t, 0, none⟩)) (by kernel_rfl) rfl (by kernel_rfl) ?_
  refine x_loadc t 0 (.slice none 0 0) ((H.ro R0).cell 0 rfl 0 rfl) (by kernel_rfl) rfl (by kernel_rfl) ?_
  refine x_val (.int .i64 0) (by kernel_rfl) rfl (by kernel_rfl) ?_
  refine x_val (.int .i64 0) (by kernel_rfl) rfl (by kernel_rfl) ?_
  refine x_nil ?_
  refine x_then ?_
  refine x_retc ?_
  refine x_ret (.int .i64 0) (by kernel_rfl) (by kernel_rfl) ?_
  exact ⟨rfl, H.below⟩

theorem TLenS {t : Nat} {sv : Value} {xs : List PairS} {room : Nat} (w0 : World) (hR : Ro w0 [.blk t #[sv, .int .i64 ((room : Nat) : Int), .func (.func 26) #[] #[]] 104, .row (sv) 107 2 (List.length xs) (List.flatMap pairLS xs)]) : Calls Try.prog 39 #[.pointer (some ⟨t, 0, none⟩)] w0 fun e w' => e = .returned (.int .i64 ((xs.length : Nat) : Int)) ∧ Below w0.heap.size w0 w' := by
  rcases rowForm (hR 1 _ rfl : w0.ownsRow 0 _ 2 sv _ _) with ⟨rfl, h0⟩ | ⟨g, cap, rfl, hc, _⟩
  · rw [h0]; exact TLenS_n w0 hR
  · exact TLenS_s w0 hR

set_option maxRecDepth 100000 in
set_option maxHeartbeats 2000000 in
theorem anchor16 (w0 : World) :
    Calls Try.prog 24 #[] w0 fun e w' => e = .returned (.bool true) ∧ Below w0.heap.size w0 w' := by
  refine x_enter Try.func24 rfl #[undef, undef, undef, undef, undef, undef, undef, undef, undef, undef, undef, undef, undef, undef, undef, undef, undef, undef, undef, undef, undef, undef, undef, undef, undef, undef, undef, undef, undef, undef, undef, undef, undef, undef] (by kernel_rfl) ?_
  have H := Hs.nil w0
  refine x_seq ?_
  refine x_region ?_
  refine x_val (.bool false) (by kernel_rfl) rfl (by kernel_rfl) ?_
  refine x_nil ?_
  refine x_then ?_
  refine x_seq ?_
  refine x_region ?_
  refine x_call (by kernel_rfl) rfl (by kernel_rfl) (TNewS_yes 2 (by omega) (by omega) _) ?_
  rintro _ v1 ⟨t, rfl, hN'⟩
  refine ⟨_, rfl, ?_⟩
  replace H := H.more hN'
  clear hN'
  refine x_val (.tuple #[.pointer (some ⟨t, 0, none⟩), .int .i64 0]) (by kernel_rfl) rfl (by kernel_rfl) ?_
  refine x_val (.pointer (some ⟨t, 0, none⟩)) (by kernel_rfl) rfl (by kernel_rfl) ?_
  refine x_val (.int .i64 0) (by kernel_rfl) rfl (by kernel_rfl) ?_
  refine x_val (.pointer (some ⟨t, 0, none⟩)) (by kernel_rfl) rfl (by kernel_rfl) ?_
  refine x_val (.int .i64 0) (by kernel_rfl) rfl (by kernel_rfl) ?_
  refine x_nil ?_
  refine x_then ?_
  refine x_seq ?_
  refine x_seq ?_
  refine x_region ?_
  refine x_val (.int .i64 0) (by kernel_rfl) rfl (by kernel_rfl) ?_
  refine x_val (.bool false) (by kernel_rfl) rfl (by kernel_rfl) ?_
  refine x_val (.bool false) (by kernel_rfl) rfl (by kernel_rfl) ?_
  refine x_val (.pointer (some ⟨t, 0, none⟩)) (by kernel_rfl) rfl (by kernel_rfl) ?_
  refine x_val (.bool false) (by kernel_rfl) rfl (by kernel_rfl) ?_
  refine x_val (.bool false) (by kernel_rfl) rfl (by kernel_rfl) ?_
  refine x_nil ?_
  refine x_then ?_
  refine x_f (by kernel_rfl) ?_
  refine x_skipc ?_
  refine x_then ?_
  refine x_seq ?_
  refine x_region ?_
  refine x_val (.pointer (some ⟨t, 0, none⟩)) (by kernel_rfl) rfl (by kernel_rfl) ?_
  refine x_call (by kernel_rfl) rfl (by kernel_rfl) (Hs.useE (A := [.blk t #[.slice none 0 0, .int .i64 ((2 : Nat) : Int), .func (.func 26) #[] #[]] 104, .row (.slice none 0 0) 107 2 (List.length ([] : List PairS)) (List.flatMap pairLS ([] : List PairS))]) (R := []) (fun sv1 => [.blk t #[sv1, .int .i64 ((2 : Nat) : Int), .func (.func 26) #[] #[]] 104, .row (sv1) 107 2 (List.length (putS 2 ([] : List PairS) ({data := #[97]} : ByteArray) 5).1) (List.flatMap pairLS ((putS 2 ([] : List PairS) ({data := #[97]} : ByteArray) 5).1))]) (fun _ => .tuple #[.string ((putS 2 ([] : List PairS) ({data := #[97]} : ByteArray) 5).2.1), .bool ((putS 2 ([] : List PairS) ({data := #[97]} : ByteArray) 5).2.2)]) (H.pick [0, 1] _ (by decide) (by kernel_rfl)) (fun h => Put_S ({data := #[97]} : ByteArray) 5 (by decide +kernel) (by decide +kernel) (by decide) _ h)) ?_
  rintro _ v2 ⟨sv1, rfl, H'⟩
  refine ⟨_, rfl, ?_⟩
  clear H
  have H : Hs [] w0 _ [.blk t #[sv1, .int .i64 ((2 : Nat) : Int), .func (.func 26) #[] #[]] 104, .row (sv1) 107 2 (List.length (putS 2 ([] : List PairS) ({data := #[97]} : ByteArray) 5).1) (List.flatMap pairLS ((putS 2 ([] : List PairS) ({data := #[97]} : ByteArray) 5).1))] := H'
  clear H'
  refine x_nil ?_
  refine x_then ?_
  refine x_seq ?_
  refine x_region ?_
  refine x_val (.pointer (some ⟨t, 0, none⟩)) (by kernel_rfl) rfl (by kernel_rfl) ?_
  refine x_call (by kernel_rfl) rfl (by kernel_rfl) (Hs.useE (A := [.blk t #[sv1, .int .i64 ((2 : Nat) : Int), .func (.func 26) #[] #[]] 104, .row (sv1) 107 2 (List.length (putS 2 ([] : List PairS) ({data := #[97]} : ByteArray) 5).1) (List.flatMap pairLS ((putS 2 ([] : List PairS) ({data := #[97]} : ByteArray) 5).1))]) (R := []) (fun sv2 => [.blk t #[sv2, .int .i64 ((2 : Nat) : Int), .func (.func 26) #[] #[]] 104, .row (sv2) 107 2 (List.length (putS 2 ((putS 2 ([] : List PairS) ({data := #[97]} : ByteArray) 5).1) ({data := #[98]} : ByteArray) 3).1) (List.flatMap pairLS ((putS 2 ((putS 2 ([] : List PairS) ({data := #[97]} : ByteArray) 5).1) ({data := #[98]} : ByteArray) 3).1))]) (fun _ => .tuple #[.string ((putS 2 ((putS 2 ([] : List PairS) ({data := #[97]} : ByteArray) 5).1) ({data := #[98]} : ByteArray) 3).2.1), .bool ((putS 2 ((putS 2 ([] : List PairS) ({data := #[97]} : ByteArray) 5).1) ({data := #[98]} : ByteArray) 3).2.2)]) (H.pick [0, 1] _ (by decide) (by kernel_rfl)) (fun h => Put_S ({data := #[98]} : ByteArray) 3 (by decide +kernel) (by decide +kernel) (by decide) _ h)) ?_
  rintro _ v3 ⟨sv2, rfl, H'⟩
  refine ⟨_, rfl, ?_⟩
  clear H
  have H : Hs [] w0 _ [.blk t #[sv2, .int .i64 ((2 : Nat) : Int), .func (.func 26) #[] #[]] 104, .row (sv2) 107 2 (List.length (putS 2 ((putS 2 ([] : List PairS) ({data := #[97]} : ByteArray) 5).1) ({data := #[98]} : ByteArray) 3).1) (List.flatMap pairLS ((putS 2 ((putS 2 ([] : List PairS) ({data := #[97]} : ByteArray) 5).1) ({data := #[98]} : ByteArray) 3).1))] := H'
  clear H'
  refine x_nil ?_
  refine x_then ?_
  refine x_seq ?_
  refine x_region ?_
  refine x_val (.pointer (some ⟨t, 0, none⟩)) (by kernel_rfl) rfl (by kernel_rfl) ?_
  refine x_call (by kernel_rfl) rfl (by kernel_rfl) (Hs.useE (A := [.blk t #[sv2, .int .i64 ((2 : Nat) : Int), .func (.func 26) #[] #[]] 104, .row (sv2) 107 2 (List.length (putS 2 ((putS 2 ([] : List PairS) ({data := #[97]} : ByteArray) 5).1) ({data := #[98]} : ByteArray) 3).1) (List.flatMap pairLS ((putS 2 ((putS 2 ([] : List PairS) ({data := #[97]} : ByteArray) 5).1) ({data := #[98]} : ByteArray) 3).1))]) (R := []) (fun sv3 => [.blk t #[sv3, .int .i64 ((2 : Nat) : Int), .func (.func 26) #[] #[]] 104, .row (sv3) 107 2 (List.length (putS 2 ((putS 2 ((putS 2 ([] : List PairS) ({data := #[97]} : ByteArray) 5).1) ({data := #[98]} : ByteArray) 3).1) ({data := #[99]} : ByteArray) 4).1) (List.flatMap pairLS ((putS 2 ((putS 2 ((putS 2 ([] : List PairS) ({data := #[97]} : ByteArray) 5).1) ({data := #[98]} : ByteArray) 3).1) ({data := #[99]} : ByteArray) 4).1))]) (fun _ => .tuple #[.string ((putS 2 ((putS 2 ((putS 2 ([] : List PairS) ({data := #[97]} : ByteArray) 5).1) ({data := #[98]} : ByteArray) 3).1) ({data := #[99]} : ByteArray) 4).2.1), .bool ((putS 2 ((putS 2 ((putS 2 ([] : List PairS) ({data := #[97]} : ByteArray) 5).1) ({data := #[98]} : ByteArray) 3).1) ({data := #[99]} : ByteArray) 4).2.2)]) (H.pick [0, 1] _ (by decide) (by kernel_rfl)) (fun h => Put_S ({data := #[99]} : ByteArray) 4 (by decide +kernel) (by decide +kernel) (by decide) _ h)) ?_
  rintro _ v4 ⟨sv3, rfl, H'⟩
  refine ⟨_, rfl, ?_⟩
  clear H
  have H : Hs [] w0 _ [.blk t #[sv3, .int .i64 ((2 : Nat) : Int), .func (.func 26) #[] #[]] 104, .row (sv3) 107 2 (List.length (putS 2 ((putS 2 ((putS 2 ([] : List PairS) ({data := #[97]} : ByteArray) 5).1) ({data := #[98]} : ByteArray) 3).1) ({data := #[99]} : ByteArray) 4).1) (List.flatMap pairLS ((putS 2 ((putS 2 ((putS 2 ([] : List PairS) ({data := #[97]} : ByteArray) 5).1) ({data := #[98]} : ByteArray) 3).1) ({data := #[99]} : ByteArray) 4).1))] := H'
  clear H'
  refine x_val (.tuple #[.string ((putS 2 ((putS 2 ((putS 2 ([] : List PairS) ({data := #[97]} : ByteArray) 5).1) ({data := #[98]} : ByteArray) 3).1) ({data := #[99]} : ByteArray) 4).2.1), .bool ((putS 2 ((putS 2 ((putS 2 ([] : List PairS) ({data := #[97]} : ByteArray) 5).1) ({data := #[98]} : ByteArray) 3).1) ({data := #[99]} : ByteArray) 4).2.2)]) (by kernel_rfl) rfl (by kernel_rfl) ?_
  refine x_val (.string ((putS 2 ((putS 2 ((putS 2 ([] : List PairS) ({data := #[97]} : ByteArray) 5).1) ({data := #[98]} : ByteArray) 3).1) ({data := #[99]} : ByteArray) 4).2.1)) (by kernel_rfl) rfl (by kernel_rfl) ?_
  refine x_val (.bool ((putS 2 ((putS 2 ((putS 2 ([] : List PairS) ({data := #[97]} : ByteArray) 5).1) ({data := #[98]} : ByteArray) 3).1) ({data := #[99]} : ByteArray) 4).2.2)) (by kernel_rfl) rfl (by kernel_rfl) ?_
  refine x_val (.string ((putS 2 ((putS 2 ((putS 2 ([] : List PairS) ({data := #[97]} : ByteArray) 5).1) ({data := #[98]} : ByteArray) 3).1) ({data := #[99]} : ByteArray) 4).2.1)) (by kernel_rfl) rfl (by kernel_rfl) ?_
  refine x_val (.bool ((putS 2 ((putS 2 ((putS 2 ([] : List PairS) ({data := #[97]} : ByteArray) 5).1) ({data := #[98]} : ByteArray) 3).1) ({data := #[99]} : ByteArray) 4).2.2)) (by kernel_rfl) rfl (by kernel_rfl) ?_
  refine x_nil ?_
  refine x_then ?_
  refine x_seq ?_
  refine x_region ?_
  refine x_val (.string ((putS 2 ((putS 2 ((putS 2 ([] : List PairS) ({data := #[97]} : ByteArray) 5).1) ({data := #[98]} : ByteArray) 3).1) ({data := #[99]} : ByteArray) 4).2.1)) (by kernel_rfl) rfl (by kernel_rfl) ?_
  refine x_val (.bool (((putS 2 ((putS 2 ((putS 2 ([] : List PairS) ({data := #[97]} : ByteArray) 5).1) ({data := #[98]} : ByteArray) 3).1) ({data := #[99]} : ByteArray) 4).2.1).toList == (({data := #[98]} : ByteArray)).toList)) (by kernel_rfl) rfl (by kernel_rfl) ?_
  refine x_val (.bool (((putS 2 ((putS 2 ((putS 2 ([] : List PairS) ({data := #[97]} : ByteArray) 5).1) ({data := #[98]} : ByteArray) 3).1) ({data := #[99]} : ByteArray) 4).2.1).toList == (({data := #[98]} : ByteArray)).toList)) (by kernel_rfl) rfl (by kernel_rfl) ?_
  cases h1 : ((putS 2 ((putS 2 ((putS 2 ([] : List PairS) ({data := #[97]} : ByteArray) 5).1) ({data := #[98]} : ByteArray) 3).1) ({data := #[99]} : ByteArray) 4).2.1).toList == (({data := #[98]} : ByteArray)).toList
  · skip
    exact absurd h1 (by decide +kernel)
  · skip
    refine x_val (.bool ((putS 2 ((putS 2 ((putS 2 ([] : List PairS) ({data := #[97]} : ByteArray) 5).1) ({data := #[98]} : ByteArray) 3).1) ({data := #[99]} : ByteArray) 4).2.2)) (by kernel_rfl) rfl (by kernel_rfl) ?_
    refine x_val (.bool ((putS 2 ((putS 2 ((putS 2 ([] : List PairS) ({data := #[97]} : ByteArray) 5).1) ({data := #[98]} : ByteArray) 3).1) ({data := #[99]} : ByteArray) 4).2.2)) (by kernel_rfl) rfl (by kernel_rfl) ?_
    refine x_val (.bool ((putS 2 ((putS 2 ((putS 2 ([] : List PairS) ({data := #[97]} : ByteArray) 5).1) ({data := #[98]} : ByteArray) 3).1) ({data := #[99]} : ByteArray) 4).2.2)) (by kernel_rfl) rfl (by kernel_rfl) ?_
    cases h2 : (putS 2 ((putS 2 ((putS 2 ([] : List PairS) ({data := #[97]} : ByteArray) 5).1) ({data := #[98]} : ByteArray) 3).1) ({data := #[99]} : ByteArray) 4).2.2
    · skip
      exact absurd h2 (by decide +kernel)
    · skip
      refine x_val (.pointer (some ⟨t, 0, none⟩)) (by kernel_rfl) rfl (by kernel_rfl) ?_
      refine x_callB (.int .i64 (((List.length (putS 2 ((putS 2 ((putS 2 ([] : List PairS) ({data := #[97]} : ByteArray) 5).1) ({data := #[98]} : ByteArray) 3).1) ({data := #[99]} : ByteArray) 4).1) : Nat) : Int)) H (by kernel_rfl) rfl (by kernel_rfl) (TLenS _ (H.roOf [0, 1] [.blk t #[sv3, .int .i64 ((2 : Nat) : Int), .func (.func 26) #[] #[]] 104, .row (sv3) 107 2 (List.length (putS 2 ((putS 2 ((putS 2 ([] : List PairS) ({data := #[97]} : ByteArray) 5).1) ({data := #[98]} : ByteArray) 3).1) ({data := #[99]} : ByteArray) 4).1) (List.flatMap pairLS ((putS 2 ((putS 2 ((putS 2 ([] : List PairS) ({data := #[97]} : ByteArray) 5).1) ({data := #[98]} : ByteArray) 3).1) ({data := #[99]} : ByteArray) 4).1))] (by kernel_rfl))) ?_
      clear H
      intro v5 H
      refine x_val (.bool (decide ((((List.length (putS 2 ((putS 2 ((putS 2 ([] : List PairS) ({data := #[97]} : ByteArray) 5).1) ({data := #[98]} : ByteArray) 3).1) ({data := #[99]} : ByteArray) 4).1) : Nat) : Int) = 2))) (by kernel_rfl) rfl (by kernel_rfl) ?_
      refine x_val (.bool (decide ((((List.length (putS 2 ((putS 2 ((putS 2 ([] : List PairS) ({data := #[97]} : ByteArray) 5).1) ({data := #[98]} : ByteArray) 3).1) ({data := #[99]} : ByteArray) 4).1) : Nat) : Int) = 2))) (by kernel_rfl) rfl (by kernel_rfl) ?_
      refine x_val (.bool (decide ((((List.length (putS 2 ((putS 2 ((putS 2 ([] : List PairS) ({data := #[97]} : ByteArray) 5).1) ({data := #[98]} : ByteArray) 3).1) ({data := #[99]} : ByteArray) 4).1) : Nat) : Int) = 2))) (by kernel_rfl) rfl (by kernel_rfl) ?_
      refine x_nil ?_
      refine x_frame' { tmps := #[.bool (decide ((((List.length (putS 2 ((putS 2 ((putS 2 ([] : List PairS) ({data := #[97]} : ByteArray) 5).1) ({data := #[98]} : ByteArray) 3).1) ({data := #[99]} : ByteArray) 4).1) : Nat) : Int) = 2)), .pointer (some ⟨t, 0, none⟩), .int .i64 0, .string ((putS 2 ((putS 2 ((putS 2 ([] : List PairS) ({data := #[97]} : ByteArray) 5).1) ({data := #[98]} : ByteArray) 3).1) ({data := #[99]} : ByteArray) 4).2.1), .bool true, .tuple #[.pointer (some ⟨t, 0, none⟩), .int .i64 0], .tuple #[.pointer (some ⟨t, 0, none⟩), .int .i64 0], .pointer (some ⟨t, 0, none⟩), .int .i64 0, .int .i64 0, .bool false, .bool false, .pointer (some ⟨t, 0, none⟩), .bool false, .bool false, .pointer (some ⟨t, 0, none⟩), .tuple #[.string ((putS 2 ([] : List PairS) ({data := #[97]} : ByteArray) 5).2.1), .bool ((putS 2 ([] : List PairS) ({data := #[97]} : ByteArray) 5).2.2)], .pointer (some ⟨t, 0, none⟩), .tuple #[.string ((putS 2 ((putS 2 ([] : List PairS) ({data := #[97]} : ByteArray) 5).1) ({data := #[98]} : ByteArray) 3).2.1), .bool ((putS 2 ((putS 2 ([] : List PairS) ({data := #[97]} : ByteArray) 5).1) ({data := #[98]} : ByteArray) 3).2.2)], .tuple #[.string ((putS 2 ((putS 2 ((putS 2 ([] : List PairS) ({data := #[97]} : ByteArray) 5).1) ({data := #[98]} : ByteArray) 3).1) ({data := #[99]} : ByteArray) 4).2.1), .bool true], .pointer (some ⟨t, 0, none⟩), .tuple #[.string ((putS 2 ((putS 2 ((putS 2 ([] : List PairS) ({data := #[97]} : ByteArray) 5).1) ({data := #[98]} : ByteArray) 3).1) ({data := #[99]} : ByteArray) 4).2.1), .bool true], .string ((putS 2 ((putS 2 ((putS 2 ([] : List PairS) ({data := #[97]} : ByteArray) 5).1) ({data := #[98]} : ByteArray) 3).1) ({data := #[99]} : ByteArray) 4).2.1), .bool true, .string ((putS 2 ((putS 2 ((putS 2 ([] : List PairS) ({data := #[97]} : ByteArray) 5).1) ({data := #[98]} : ByteArray) 3).1) ({data := #[99]} : ByteArray) 4).2.1), .bool true, .bool true, .bool true, .bool true, .bool true, .pointer (some ⟨t, 0, none⟩), .int .i64 (((List.length (putS 2 ((putS 2 ((putS 2 ([] : List PairS) ({data := #[97]} : ByteArray) 5).1) ({data := #[98]} : ByteArray) 3).1) ({data := #[99]} : ByteArray) 4).1) : Nat) : Int), .bool (decide ((((List.length (putS 2 ((putS 2 ((putS 2 ([] : List PairS) ({data := #[97]} : ByteArray) 5).1) ({data := #[98]} : ByteArray) 3).1) ({data := #[99]} : ByteArray) 4).1) : Nat) : Int) = 2)), .bool (decide ((((List.length (putS 2 ((putS 2 ((putS 2 ([] : List PairS) ({data := #[97]} : ByteArray) 5).1) ({data := #[98]} : ByteArray) 3).1) ({data := #[99]} : ByteArray) 4).1) : Nat) : Int) = 2))], defers := [] } (by kernel_rfl) ?_
      refine x_then ?_
      refine x_retc ?_
      refine x_ret (.bool (decide ((((List.length (putS 2 ((putS 2 ((putS 2 ([] : List PairS) ({data := #[97]} : ByteArray) 5).1) ({data := #[98]} : ByteArray) 3).1) ({data := #[99]} : ByteArray) 4).1) : Nat) : Int) = 2))) (by kernel_rfl) (by kernel_rfl) ?_
      exact ⟨by rw [show (decide ((((List.length (putS 2 ((putS 2 ((putS 2 ([] : List PairS) ({data := #[97]} : ByteArray) 5).1) ({data := #[98]} : ByteArray) 3).1) ({data := #[99]} : ByteArray) 4).1) : Nat) : Int) = 2)) = true from by decide +kernel], H.below⟩

end Go.Proofs.Ytpeefnbcgilihaa
