/- Contracts of table.Table: Get, Drop; a step; the law TableHeavy, walked. -/
import Derived.Test.YtpeefnbcgilihaaTabP
namespace Go.Proofs.Ytpeefnbcgilihaa
open Go Go.RowKit
set_option linter.unusedVariables false
set_option linter.unusedSimpArgs false

set_option maxRecDepth 100000 in
set_option maxHeartbeats 4000000 in
theorem Get_s {t : Nat} {xs : List PairI} {room : Nat} (k : Int) {g cap : Nat} (hn : xs.length ≤ 4096) (hq : (fkI xs k) < xs.length) (w0 : World) (hR : Ro w0 [.blk t #[.slice (some ⟨g, 0, none⟩) (List.length xs) cap, .int .i64 ((room : Nat) : Int), .func (.func 26) #[] #[]] 90, .row (.slice (some ⟨g, 0, none⟩) (List.length xs) cap) 92 2 (List.length xs) (List.flatMap pairLI xs)]) :
    Calls Try.prog 27 #[.pointer (some ⟨t, 0, none⟩), .int .i64 k] w0 fun e w' => e = .returned (.tuple #[.int .i64 (xs.getD (fkI xs k) (0, 0)).2, .bool true]) ∧ Below w0.heap.size w0 w' := by
  refine x_enter Try.func27 rfl #[.pointer (some ⟨t, 0, none⟩), .int .i64 k, undef, undef, undef, undef, undef, undef, undef, undef, undef, undef, undef, undef, undef, undef, undef, undef, undef, undef, undef, undef] (by kernel_rfl) ?_
  have H := Hs.nil w0
  have R0 := hR
  refine x_seq ?_
  refine x_region ?_
  refine x_val (.int .i64 0) (by kernel_rfl) rfl (by kernel_rfl) ?_
  refine x_val (.bool false) (by kernel_rfl) rfl (by kernel_rfl) ?_
  refine x_nil ?_
  refine x_then ?_
  refine x_seq ?_
  refine x_region ?_
  refine x_val (.pointer (some ⟨t, 0, none⟩)) (by kernel_rfl) rfl (by kernel_rfl) ?_
  refine x_val (.int .i64 k) (by kernel_rfl) rfl (by kernel_rfl) ?_
  refine x_callB (.int .i64 (((fkI xs k) : Nat) : Int)) H (by kernel_rfl) rfl (by kernel_rfl) (by have h := find_I (room := room) k hn _ (H.ro R0); rw [show findI xs k = (((fkI xs k) : Nat) : Int) by unfold findI; rw [if_pos hq]] at h; exact h) ?_
  clear H
  intro v1 H
  refine x_val (.int .i64 (((fkI xs k) : Nat) : Int)) (by kernel_rfl) rfl (by kernel_rfl) ?_
  refine x_nil ?_
  refine x_then ?_
  refine x_seq ?_
  refine x_seq ?_
  refine x_region ?_
  refine x_val (.int .i64 (((fkI xs k) : Nat) : Int)) (by kernel_rfl) rfl (by kernel_rfl) ?_
  refine x_val (.bool (decide ((((fkI xs k) : Nat) : Int) < 0))) (by kernel_rfl) rfl (by kernel_rfl) ?_
  refine x_nil ?_
  refine x_then ?_
  cases h1 : decide ((((fkI xs k) : Nat) : Int) < 0)
  · skip
    have h1p := of_decide_eq_false h1
    refine x_f (by kernel_rfl) ?_
    refine x_skipc ?_
    refine x_then ?_
    refine x_seq ?_
    refine x_region ?_
    refine x_val (.pointer (some ⟨t, 0, none⟩)) (by kernel_rfl) rfl (by kernel_rfl) ?_
    refine x_val (.pointer (some ⟨t, 0, none⟩)) (by kernel_rfl) rfl (by kernel_rfl) ?_
    refine x_val (.pointer (some ⟨t, 0, none⟩)) (by kernel_rfl) rfl (by kernel_rfl) ?_
    refine x_loadc t 0 (.slice (some ⟨g, 0, none⟩) (List.length xs) cap) ((H.ro R0).cell 0 rfl 0 rfl) (by kernel_rfl) rfl (by kernel_rfl) ?_
    refine x_val (.int .i64 (((fkI xs k) : Nat) : Int)) (by kernel_rfl) rfl (by kernel_rfl) ?_
    refine x_ix (t := 88) g 0 (fkI xs k) (List.length xs) cap 92 2 ((fkI xs k) * 2) (by omega) (by omega) (by kernel_rfl) (by kernel_rfl) (by kernel_rfl) rfl (by kernel_rfl) ?_
    refine x_val (.pointer (some ⟨g, (fkI xs k) * 2 + 1, none⟩)) (by kernel_rfl) rfl (by kernel_rfl) ?_
    refine x_loadc g ((fkI xs k) * 2 + 1) (.int .i64 ((xs.getD (fkI xs k) (0, 0)).2)) (((H.ro R0).rowCells 1 rfl ((fkI xs k) * 2) (flatAt pairLenI (0, 0) _ (by omega))) 1 _ rfl) (by kernel_rfl) rfl (by kernel_rfl) ?_
    refine x_val (.int .i64 ((xs.getD (fkI xs k) (0, 0)).2)) (by kernel_rfl) rfl (by kernel_rfl) ?_
    refine x_val (.bool true) (by kernel_rfl) rfl (by kernel_rfl) ?_
    refine x_nil ?_
    refine x_then ?_
    refine x_retc ?_
    refine x_ret (.tuple #[.int .i64 ((xs.getD (fkI xs k) (0, 0)).2), .bool true]) (by kernel_rfl) (by kernel_rfl) ?_
    exact ⟨rfl, H.below⟩
  · skip
    have h1p := of_decide_eq_true h1
    exact absurd h1p (by omega)

set_option maxRecDepth 100000 in
set_option maxHeartbeats 4000000 in
theorem Get_no {t : Nat} {xs : List PairI} {room : Nat} (k : Int) {sv : Value} (hn : xs.length ≤ 4096) (hq : ¬ (fkI xs k) < xs.length) (w0 : World) (hR : Ro w0 [.blk t #[sv, .int .i64 ((room : Nat) : Int), .func (.func 26) #[] #[]] 90, .row (sv) 92 2 (List.length xs) (List.flatMap pairLI xs)]) :
    Calls Try.prog 27 #[.pointer (some ⟨t, 0, none⟩), .int .i64 k] w0 fun e w' => e = .returned (.tuple #[.int .i64 0, .bool false]) ∧ Below w0.heap.size w0 w' := by
  refine x_enter Try.func27 rfl #[.pointer (some ⟨t, 0, none⟩), .int .i64 k, undef, undef, undef, undef, undef, undef, undef, undef, undef, undef, undef, undef, undef, undef, undef, undef, undef, undef, undef, undef] (by kernel_rfl) ?_
  have H := Hs.nil w0
  have R0 := hR
  refine x_seq ?_
  refine x_region ?_
  refine x_val (.int .i64 0) (by kernel_rfl) rfl (by kernel_rfl) ?_
  refine x_val (.bool false) (by kernel_rfl) rfl (by kernel_rfl) ?_
  refine x_nil ?_
  refine x_then ?_
  refine x_seq ?_
  refine x_region ?_
  refine x_val (.pointer (some ⟨t, 0, none⟩)) (by kernel_rfl) rfl (by kernel_rfl) ?_
  refine x_val (.int .i64 k) (by kernel_rfl) rfl (by kernel_rfl) ?_
  refine x_callB (.int .i64 (-1)) H (by kernel_rfl) rfl (by kernel_rfl) (by have h := find_I (room := room) k hn _ (H.ro R0); rw [show findI xs k = -1 by unfold findI; rw [if_neg hq]] at h; exact h) ?_
  clear H
  intro v1 H
  refine x_val (.int .i64 (-1)) (by kernel_rfl) rfl (by kernel_rfl) ?_
  refine x_nil ?_
  refine x_then ?_
  refine x_seq ?_
  refine x_seq ?_
  refine x_region ?_
  refine x_val (.int .i64 (-1)) (by kernel_rfl) rfl (by kernel_rfl) ?_
  refine x_val (.bool true) (by kernel_rfl) rfl (by kernel_rfl) ?_
  refine x_nil ?_
  refine x_then ?_
  refine x_t (by kernel_rfl) ?_
  refine x_seq ?_
  refine x_region ?_
  refine x_val (.int .i64 0) (by kernel_rfl) rfl (by kernel_rfl) ?_
  refine x_nil ?_
  refine x_then ?_
  refine x_seq ?_
  refine x_region ?_
  refine x_val (.int .i64 0) (by kernel_rfl) rfl (by kernel_rfl) ?_
  refine x_val (.int .i64 0) (by kernel_rfl) rfl (by kernel_rfl) ?_
  refine x_val (.bool false) (by kernel_rfl) rfl (by kernel_rfl) ?_
  refine x_nil ?_
  refine x_then ?_
  refine x_retc ?_
  refine x_then_ret ?_
  refine x_ret (.tuple #[.int .i64 0, .bool false]) (by kernel_rfl) (by kernel_rfl) ?_
  exact ⟨rfl, H.below⟩

theorem Get_yes {t : Nat} {xs : List PairI} {room : Nat} (k : Int) {sv : Value} (hn : xs.length ≤ 4096) (hq : (fkI xs k) < xs.length) (w0 : World) (hR : Ro w0 [.blk t #[sv, .int .i64 ((room : Nat) : Int), .func (.func 26) #[] #[]] 90, .row (sv) 92 2 (List.length xs) (List.flatMap pairLI xs)]) : Calls Try.prog 27 #[.pointer (some ⟨t, 0, none⟩), .int .i64 k] w0 fun e w' => e = .returned (.tuple #[.int .i64 (xs.getD (fkI xs k) (0, 0)).2, .bool true]) ∧ Below w0.heap.size w0 w' := by
  rcases rowForm (hR 1 _ rfl : w0.ownsRow 0 _ 2 sv _ _) with ⟨rfl, h0⟩ | ⟨g, cap, rfl, hc, _⟩
  · omega
  · exact Get_s k hn hq w0 hR

set_option maxRecDepth 100000 in
set_option maxHeartbeats 4000000 in
theorem Drop_s {t : Nat} {xs : List PairI} {room : Nat} (k : Int) {g cap : Nat} (hn : xs.length ≤ 4096) (hq : (fkI xs k) < xs.length) (w0 : World) (H0 : Hs (fps [.blk t #[.slice (some ⟨g, 0, none⟩) (List.length xs) cap, .int .i64 ((room : Nat) : Int), .func (.func 26) #[] #[]] 90, .row (.slice (some ⟨g, 0, none⟩) (List.length xs) cap) 92 2 (List.length xs) (List.flatMap pairLI xs)]) w0 w0 [.blk t #[.slice (some ⟨g, 0, none⟩) (List.length xs) cap, .int .i64 ((room : Nat) : Int), .func (.func 26) #[] #[]] 90, .row (.slice (some ⟨g, 0, none⟩) (List.length xs) cap) 92 2 (List.length xs) (List.flatMap pairLI xs)]) :
    Calls Try.prog 45 #[.pointer (some ⟨t, 0, none⟩), .int .i64 k] w0 fun e w' => ∃ sv', e = .returned (.bool true) ∧ Hs (fps [.blk t #[.slice (some ⟨g, 0, none⟩) (List.length xs) cap, .int .i64 ((room : Nat) : Int), .func (.func 26) #[] #[]] 90, .row (.slice (some ⟨g, 0, none⟩) (List.length xs) cap) 92 2 (List.length xs) (List.flatMap pairLI xs)]) w0 w' [.blk t #[sv', .int .i64 ((room : Nat) : Int), .func (.func 26) #[] #[]] 90, .row (sv') 92 2 (List.length (xs.eraseIdx (fkI xs k))) (List.flatMap pairLI (xs.eraseIdx (fkI xs k)))] := by
  refine x_enter Try.func45 rfl #[.pointer (some ⟨t, 0, none⟩), .int .i64 k, undef, undef, undef, undef, undef, undef, undef, undef, undef, undef, undef, undef] (by kernel_rfl) ?_
  have H := H0
  refine x_seq ?_
  refine x_region ?_
  refine x_val (.bool false) (by kernel_rfl) rfl (by kernel_rfl) ?_
  refine x_nil ?_
  refine x_then ?_
  refine x_seq ?_
  refine x_region ?_
  refine x_val (.pointer (some ⟨t, 0, none⟩)) (by kernel_rfl) rfl (by kernel_rfl) ?_
  refine x_val (.int .i64 k) (by kernel_rfl) rfl (by kernel_rfl) ?_
  refine x_callB (.int .i64 (((fkI xs k) : Nat) : Int)) H (by kernel_rfl) rfl (by kernel_rfl) (by have h := find_I (room := room) k hn _ (H.roOf [0, 1] [.blk t #[.slice (some ⟨g, 0, none⟩) (List.length xs) cap, .int .i64 ((room : Nat) : Int), .func (.func 26) #[] #[]] 90, .row (.slice (some ⟨g, 0, none⟩) (List.length xs) cap) 92 2 (List.length xs) (List.flatMap pairLI xs)] (by kernel_rfl)); rw [show findI xs k = (((fkI xs k) : Nat) : Int) by unfold findI; rw [if_pos hq]] at h; exact h) ?_
  clear H
  intro v1 H
  refine x_val (.int .i64 (((fkI xs k) : Nat) : Int)) (by kernel_rfl) rfl (by kernel_rfl) ?_
  refine x_nil ?_
  refine x_then ?_
  refine x_seq ?_
  refine x_seq ?_
  refine x_region ?_
  refine x_val (.int .i64 (((fkI xs k) : Nat) : Int)) (by kernel_rfl) rfl (by kernel_rfl) ?_
  refine x_val (.bool (decide ((((fkI xs k) : Nat) : Int) < 0))) (by kernel_rfl) rfl (by kernel_rfl) ?_
  refine x_nil ?_
  refine x_then ?_
  cases h1 : decide ((((fkI xs k) : Nat) : Int) < 0)
  · skip
    have h1p := of_decide_eq_false h1
    refine x_f (by kernel_rfl) ?_
    refine x_skipc ?_
    refine x_then ?_
    refine x_seq ?_
    refine x_region ?_
    refine x_val (.pointer (some ⟨t, 0, none⟩)) (by kernel_rfl) rfl (by kernel_rfl) ?_
    refine x_val (.int .i64 (((fkI xs k) : Nat) : Int)) (by kernel_rfl) rfl (by kernel_rfl) ?_
    refine x_callH (.int .i64 ((xs.getD (fkI xs k) (0, 0)).1)) [.blk t #[.slice (some ⟨g, 0, none⟩) (List.length (xs.eraseIdx (fkI xs k))) cap, .int .i64 ((room : Nat) : Int), .func (.func 26) #[] #[]] 90, .row (.slice (some ⟨g, 0, none⟩) (List.length (xs.eraseIdx (fkI xs k))) cap) 92 2 (List.length (xs.eraseIdx (fkI xs k))) (List.flatMap pairLI (xs.eraseIdx (fkI xs k)))] (by kernel_rfl) rfl (by kernel_rfl) (Hs.use (A := [.blk t #[.slice (some ⟨g, 0, none⟩) (List.length xs) cap, .int .i64 ((room : Nat) : Int), .func (.func 26) #[] #[]] 90, .row (.slice (some ⟨g, 0, none⟩) (List.length xs) cap) 92 2 (List.length xs) (List.flatMap pairLI xs)]) (R := []) (H.pick [0, 1] _ (by decide) (by kernel_rfl)) (fun h => remove_I (fkI xs k) hq hn _ h)) ?_
    clear H
    intro v2 H
    refine x_nil ?_
    refine x_then ?_
    refine x_seq ?_
    refine x_region ?_
    refine x_val (.bool true) (by kernel_rfl) rfl (by kernel_rfl) ?_
    refine x_nil ?_
    refine x_then ?_
    refine x_retc ?_
    refine x_ret (.bool true) (by kernel_rfl) (by kernel_rfl) ?_
    replace H := H.pick [0, 1] [.blk t #[.slice (some ⟨g, 0, none⟩) (List.length (xs.eraseIdx (fkI xs k))) cap, .int .i64 ((room : Nat) : Int), .func (.func 26) #[] #[]] 90, .row (.slice (some ⟨g, 0, none⟩) (List.length (xs.eraseIdx (fkI xs k))) cap) 92 2 (List.length (xs.eraseIdx (fkI xs k))) (List.flatMap pairLI (xs.eraseIdx (fkI xs k)))] (by decide) (by kernel_rfl)
    exact ⟨_, rfl, H⟩
  · skip
    have h1p := of_decide_eq_true h1
    exact absurd h1p (by omega)

set_option maxRecDepth 100000 in
set_option maxHeartbeats 4000000 in
theorem Drop_no {t : Nat} {xs : List PairI} {room : Nat} (k : Int) {sv : Value} (hn : xs.length ≤ 4096) (hq : ¬ (fkI xs k) < xs.length) (w0 : World) (H0 : Hs (fps [.blk t #[sv, .int .i64 ((room : Nat) : Int), .func (.func 26) #[] #[]] 90, .row (sv) 92 2 (List.length xs) (List.flatMap pairLI xs)]) w0 w0 [.blk t #[sv, .int .i64 ((room : Nat) : Int), .func (.func 26) #[] #[]] 90, .row (sv) 92 2 (List.length xs) (List.flatMap pairLI xs)]) :
    Calls Try.prog 45 #[.pointer (some ⟨t, 0, none⟩), .int .i64 k] w0 fun e w' => ∃ sv', e = .returned (.bool false) ∧ Hs (fps [.blk t #[sv, .int .i64 ((room : Nat) : Int), .func (.func 26) #[] #[]] 90, .row (sv) 92 2 (List.length xs) (List.flatMap pairLI xs)]) w0 w' [.blk t #[sv', .int .i64 ((room : Nat) : Int), .func (.func 26) #[] #[]] 90, .row (sv') 92 2 (List.length xs) (List.flatMap pairLI xs)] := by
  refine x_enter Try.func45 rfl #[.pointer (some ⟨t, 0, none⟩), .int .i64 k, undef, undef, undef, undef, undef, undef, undef, undef, undef, undef, undef, undef] (by kernel_rfl) ?_
  have H := H0
  refine x_seq ?_
  refine x_region ?_
  refine x_val (.bool false) (by kernel_rfl) rfl (by kernel_rfl) ?_
  refine x_nil ?_
  refine x_then ?_
  refine x_seq ?_
  refine x_region ?_
  refine x_val (.pointer (some ⟨t, 0, none⟩)) (by kernel_rfl) rfl (by kernel_rfl) ?_
  refine x_val (.int .i64 k) (by kernel_rfl) rfl (by kernel_rfl) ?_
  refine x_callB (.int .i64 (-1)) H (by kernel_rfl) rfl (by kernel_rfl) (by have h := find_I (room := room) k hn _ (H.roOf [0, 1] [.blk t #[sv, .int .i64 ((room : Nat) : Int), .func (.func 26) #[] #[]] 90, .row (sv) 92 2 (List.length xs) (List.flatMap pairLI xs)] (by kernel_rfl)); rw [show findI xs k = -1 by unfold findI; rw [if_neg hq]] at h; exact h) ?_
  clear H
  intro v1 H
  refine x_val (.int .i64 (-1)) (by kernel_rfl) rfl (by kernel_rfl) ?_
  refine x_nil ?_
  refine x_then ?_
  refine x_seq ?_
  refine x_seq ?_
  refine x_region ?_
  refine x_val (.int .i64 (-1)) (by kernel_rfl) rfl (by kernel_rfl) ?_
  refine x_val (.bool true) (by kernel_rfl) rfl (by kernel_rfl) ?_
  refine x_nil ?_
  refine x_then ?_
  refine x_t (by kernel_rfl) ?_
  refine x_seq ?_
  refine x_region ?_
  refine x_val (.bool false) (by kernel_rfl) rfl (by kernel_rfl) ?_
  refine x_nil ?_
  refine x_then ?_
  refine x_retc ?_
  refine x_then_ret ?_
  refine x_ret (.bool false) (by kernel_rfl) (by kernel_rfl) ?_
  replace H := H.pick [0, 1] [.blk t #[sv, .int .i64 ((room : Nat) : Int), .func (.func 26) #[] #[]] 90, .row (sv) 92 2 (List.length xs) (List.flatMap pairLI xs)] (by decide) (by kernel_rfl)
  exact ⟨_, rfl, H⟩

def dropI (xs : List PairI) (k : Int) : List PairI := if fkI xs k < xs.length then xs.eraseIdx (fkI xs k) else xs
theorem Drop_I {t : Nat} {xs : List PairI} {room : Nat} (k : Int) {sv : Value} (hn : xs.length ≤ 4096) (w0 : World) (H0 : Hs (fps [.blk t #[sv, .int .i64 ((room : Nat) : Int), .func (.func 26) #[] #[]] 90, .row (sv) 92 2 (List.length xs) (List.flatMap pairLI xs)]) w0 w0 [.blk t #[sv, .int .i64 ((room : Nat) : Int), .func (.func 26) #[] #[]] 90, .row (sv) 92 2 (List.length xs) (List.flatMap pairLI xs)]) : Calls Try.prog 45 #[.pointer (some ⟨t, 0, none⟩), .int .i64 k] w0 fun e w' => ∃ sv', e = .returned (.bool (decide (fkI xs k < xs.length))) ∧ Hs (fps [.blk t #[sv, .int .i64 ((room : Nat) : Int), .func (.func 26) #[] #[]] 90, .row (sv) 92 2 (List.length xs) (List.flatMap pairLI xs)]) w0 w' [.blk t #[sv', .int .i64 ((room : Nat) : Int), .func (.func 26) #[] #[]] 90, .row (sv') 92 2 (List.length (dropI xs k)) (List.flatMap pairLI (dropI xs k))] := by
  unfold dropI
  by_cases hq : fkI xs k < xs.length
  · rw [if_pos hq, decide_eq_true hq]
    rcases H0.rowForm 1 rfl with ⟨rfl, h0⟩ | ⟨g, cap, rfl, hc, _⟩
    · omega
    · exact Drop_s k hn hq w0 H0
  · rw [if_neg hq, decide_eq_false hq]; exact Drop_no k hn hq w0 H0

set_option maxRecDepth 100000 in
set_option maxHeartbeats 4000000 in
theorem RFind_nil (k : Int) (w0 : World) :
    Calls Try.prog 33 #[.slice none 0 0, .int .i64 k] w0 fun e w' => e = .returned (.int .i64 (-1)) ∧ Below w0.heap.size w0 w' := by
  refine x_enter Try.func33 rfl #[.slice none 0 0, .int .i64 k, undef, undef, undef, undef, undef, undef, undef, undef, undef, undef, undef, undef, undef, undef, undef, undef, undef, undef] (by kernel_rfl) ?_
  have H := Hs.nil w0
  refine x_seq ?_
  refine x_region ?_
  refine x_val (.int .i64 0) (by kernel_rfl) rfl (by kernel_rfl) ?_
  refine x_nil ?_
  refine x_then ?_
  refine x_seq ?_
  refine x_seq ?_
  refine x_region ?_
  refine x_val (.int .i64 0) (by kernel_rfl) rfl (by kernel_rfl) ?_
  refine x_nil ?_
  refine x_then ?_
  refine x_block ?_
  refine x_loop (G := Unit) (fun (_ : Unit) a w' => ∃ uf1 : Nat → Value, a = { tmps := #[.slice none 0 0, .int .i64 k, undef, undef, (uf1 0), .int .i64 0, (uf1 1), (uf1 2), (uf1 3), (uf1 4), (uf1 5), (uf1 6), (uf1 7), (uf1 8), (uf1 9), (uf1 10), (uf1 11), (uf1 12), (uf1 13), (uf1 14)], defers := [] } ∧ Hs [] w0 w' []) (fun _ => 0) () ⟨(nthV [.int .i64 0, undef, undef, undef, undef, undef, undef, undef, undef, undef, undef, undef, undef, undef, undef]), (by kernel_rfl), H⟩ ?_
  clear H
  rintro _ _ v1 ⟨uf1, rfl, H⟩
  refine x_seq ?_
  refine x_seq ?_
  refine x_region ?_
  refine x_val (.int .i64 0) (by kernel_rfl) rfl (by kernel_rfl) ?_
  refine x_val (.slice none 0 0) (by kernel_rfl) rfl (by kernel_rfl) ?_
  refine x_val (.int .i64 0) (by kernel_rfl) rfl (by kernel_rfl) ?_
  refine x_val (.bool false) (by kernel_rfl) rfl (by kernel_rfl) ?_
  refine x_nil ?_
  refine x_then ?_
  refine x_f (by kernel_rfl) ?_
  refine x_exit ?_
  refine x_then_exit ?_
  refine x_then_exit ?_
  refine x_blk_exit ?_
  refine x_then ?_
  refine x_seq ?_
  refine x_region ?_
  refine x_val (.int .i64 (-1)) (by kernel_rfl) rfl (by kernel_rfl) ?_
  refine x_nil ?_
  refine x_then ?_
  refine x_retc ?_
  refine x_ret (.int .i64 (-1)) (by kernel_rfl) (by kernel_rfl) ?_
  exact ⟨rfl, H.below⟩

set_option maxRecDepth 100000 in
set_option maxHeartbeats 4000000 in
theorem RPut_nil (room k v : Int) (h1 : 1 ≤ room) (w0 : World) :
    Calls Try.prog 44 #[.slice none 0 0, .int .i64 room, .int .i64 k, .int .i64 v] w0 fun e w' => ∃ u, e = .returned (.tuple #[u, .int .i64 0, .bool false]) ∧ Below w0.heap.size w0 w' := by
  refine x_enter Try.func44 rfl #[.slice none 0 0, .int .i64 room, .int .i64 k, .int .i64 v, undef, undef, undef, undef, undef, undef, undef, undef, undef, undef, undef, undef, undef, undef, undef, undef, undef, undef, undef, undef, undef, undef, undef, undef, undef, undef, undef, undef, undef, undef, undef, undef, undef, undef, undef, undef, undef, undef, undef, undef, undef, undef, undef, undef, undef, undef, undef, undef, undef, undef, undef, undef, undef, undef, undef, undef, undef, undef, undef, undef, undef, undef, undef, undef, undef, undef] (by kernel_rfl) ?_
  have H := Hs.nil w0
  have q1 : decide (0 < room) = true := by simp; omega
  refine x_seq ?_
  refine x_region ?_
  refine x_val (.slice none 0 0) (by kernel_rfl) rfl (by kernel_rfl) ?_
  refine x_val (.int .i64 0) (by kernel_rfl) rfl (by kernel_rfl) ?_
  refine x_val (.bool false) (by kernel_rfl) rfl (by kernel_rfl) ?_
  refine x_nil ?_
  refine x_then ?_
  refine x_seq ?_
  refine x_region ?_
  refine x_val (.slice none 0 0) (by kernel_rfl) rfl (by kernel_rfl) ?_
  refine x_val (.int .i64 k) (by kernel_rfl) rfl (by kernel_rfl) ?_
  refine x_callB (.int .i64 (-1)) H (by kernel_rfl) rfl (by kernel_rfl) (RFind_nil k _) ?_
  clear H
  intro v1 H
  refine x_val (.int .i64 (-1)) (by kernel_rfl) rfl (by kernel_rfl) ?_
  refine x_nil ?_
  refine x_then ?_
  refine x_seq ?_
  refine x_region ?_
  refine x_val (.slice none 0 0) (by kernel_rfl) rfl (by kernel_rfl) ?_
  refine x_nil ?_
  refine x_then ?_
  refine x_seq ?_
  refine x_region ?_
  refine x_val (.slice none 0 0) (by kernel_rfl) rfl (by kernel_rfl) ?_
  refine x_val (.slice none 0 0) (by kernel_rfl) rfl (by kernel_rfl) ?_
  replace H := H.nilRow 77 2
  replace H : Hs [] w0 _ [.row (.slice none 0 0) 77 2 0 (List.flatMap pairLI ([] : List PairI))] := H
  refine x_appendSrc H 0 (.slice none 0 0) 70 77 2 16 0 (.agg #[.int .i64 0, .int .i64 0]) (List.flatMap pairLI ([] : List PairI)) (.slice none 0 0) 0 ([] : List Value) rfl (.inl ⟨rfl, rfl, rfl⟩) (by kernel_rfl) (by kernel_rfl) (by kernel_rfl) (by decide) (fun u hu => by simp at hu) (by unfold maxLen; omega) (by omega) (by kernel_rfl) rfl (by kernel_rfl) ?_
  clear H
  intro v2 vr20 H
  rw [show (List.flatMap pairLI ([] : List PairI)) ++ ([] : List Value) = (List.flatMap pairLI ([] : List PairI)) from (by simp)] at H
  rw [show (0 + 0 : Nat) = (List.length ([] : List PairI)) from (by simp)] at H
  replace H : Hs [] w0 v2 [.row (vr20) 77 2 (List.length ([] : List PairI)) (List.flatMap pairLI ([] : List PairI))] := H
  refine x_val (vr20) (by kernel_rfl) rfl (by kernel_rfl) ?_
  refine x_nil ?_
  refine x_then ?_
  refine x_seq ?_
  refine x_seq ?_
  refine x_region ?_
  refine x_val (.int .i64 (-1)) (by kernel_rfl) rfl (by kernel_rfl) ?_
  refine x_val (.bool false) (by kernel_rfl) rfl (by kernel_rfl) ?_
  refine x_nil ?_
  refine x_then ?_
  refine x_f (by kernel_rfl) ?_
  refine x_skipc ?_
  refine x_then ?_
  refine x_seq ?_
  refine x_seq ?_
  refine x_region ?_
  refine x_val (.slice none 0 0) (by kernel_rfl) rfl (by kernel_rfl) ?_
  refine x_val (.int .i64 0) (by kernel_rfl) rfl (by kernel_rfl) ?_
  refine x_val (.int .i64 room) (by kernel_rfl) rfl (by kernel_rfl) ?_
  refine x_val (.bool (decide (0 < room))) (by kernel_rfl) rfl (by kernel_rfl) ?_
  refine x_nil ?_
  refine x_then ?_
  rw [q1]
  refine x_t (by kernel_rfl) ?_
  refine x_seq ?_
  refine x_region ?_
  refine x_val (vr20) (by kernel_rfl) rfl (by kernel_rfl) ?_
  refine x_val (.int .i64 k) (by kernel_rfl) rfl (by kernel_rfl) ?_
  refine x_val (.int .i64 v) (by kernel_rfl) rfl (by kernel_rfl) ?_
  refine x_val (.agg #[.int .i64 k, .int .i64 v]) (by kernel_rfl) rfl (by kernel_rfl) ?_
  refine x_box' H #[.int .i64 k, .int .i64 v] 77 1 (by kernel_rfl) rfl (by kernel_rfl) ?_
  clear H
  intro v3 g1 H
  refine x_append H 1 (vr20) 70 77 2 16 (List.length ([] : List PairI)) (.agg #[.int .i64 0, .int .i64 0]) (List.flatMap pairLI ([] : List PairI)) ⟨g1, 0, none⟩ 1 1 [.int .i64 k, .int .i64 v] rfl (by kernel_rfl) (by kernel_rfl) rfl (by decide) (by decide) rfl (fun j u hj => by rw [add_none]; exact cellOf (H.blk 0 rfl) (by simpa using hj)) (List.all_eq_true.1 (by kernel_rfl)) (by simp; unfold maxLen; omega) (by simp) (by kernel_rfl) rfl (by kernel_rfl) ?_
  clear H
  intro v4 g2 c2 hc2 H
  rw [show (((List.length ([] : List PairI)) + 1) : Nat) = (List.length (([] : List PairI) ++ [(k, v)])) from (by simp)] at H ⊢
  rw [show (List.flatMap pairLI ([] : List PairI)) ++ [.int .i64 k, .int .i64 v] = (List.flatMap pairLI (([] : List PairI) ++ [(k, v)])) from (by rw [List.flatMap_append]; rfl)] at H
  replace H : Hs [] w0 v4 [.blk g1 #[.int .i64 k, .int .i64 v] 77, .row (.slice (some ⟨g2, 0, none⟩) (List.length (([] : List PairI) ++ [(k, v)])) c2) 77 2 (List.length (([] : List PairI) ++ [(k, v)])) (List.flatMap pairLI (([] : List PairI) ++ [(k, v)]))] := H
  replace H := H.pick [1] [.row (.slice (some ⟨g2, 0, none⟩) (List.length (([] : List PairI) ++ [(k, v)])) c2) 77 2 (List.length (([] : List PairI) ++ [(k, v)])) (List.flatMap pairLI (([] : List PairI) ++ [(k, v)]))] (by decide) (by kernel_rfl)
  refine x_val (.slice (some ⟨g2, 0, none⟩) (List.length (([] : List PairI) ++ [(k, v)])) c2) (by kernel_rfl) rfl (by kernel_rfl) ?_
  refine x_val (.int .i64 0) (by kernel_rfl) rfl (by kernel_rfl) ?_
  refine x_val (.bool false) (by kernel_rfl) rfl (by kernel_rfl) ?_
  refine x_nil ?_
  refine x_then ?_
  refine x_retc ?_
  refine x_then_ret ?_
  refine x_ret (.tuple #[.slice (some ⟨g2, 0, none⟩) (List.length (([] : List PairI) ++ [(k, v)])) c2, .int .i64 0, .bool false]) (by kernel_rfl) (by kernel_rfl) ?_
  exact ⟨_, rfl, H.below⟩

set_option maxRecDepth 100000 in
set_option maxHeartbeats 4000000 in
theorem step_put {t : Nat} {sv : Value} {xs : List PairI} {room : Nat} (o k v : Int) (hn : xs.length ≤ room) (h1 : 1 ≤ room) (h2 : room ≤ 4096) (k1 : decide (o = 1) = true) (w0 : World) (H0 : Hs (fps [.blk t #[sv, .int .i64 ((room : Nat) : Int), .func (.func 26) #[] #[]] 90, .row (sv) 92 2 (List.length xs) (List.flatMap pairLI xs)]) w0 w0 [.blk t #[sv, .int .i64 ((room : Nat) : Int), .func (.func 26) #[] #[]] 90, .row (sv) 92 2 (List.length xs) (List.flatMap pairLI xs)]) :
    Calls Try.prog 31 #[.pointer (some ⟨t, 0, none⟩), .slice none 0 0, .int .i64 ((room : Nat) : Int), .agg #[.int .i64 o, .int .i64 k, .int .i64 v]] w0 fun e w' => ∃ sv' u bb, e = .returned (.tuple #[u, .bool bb]) ∧ Hs (fps [.blk t #[sv, .int .i64 ((room : Nat) : Int), .func (.func 26) #[] #[]] 90, .row (sv) 92 2 (List.length xs) (List.flatMap pairLI xs)]) w0 w' [.blk t #[sv', .int .i64 ((room : Nat) : Int), .func (.func 26) #[] #[]] 90, .row (sv') 92 2 (List.length ((putI room xs k v).1)) (List.flatMap pairLI ((putI room xs k v).1))] := by
  refine x_enter Try.func31 rfl #[.pointer (some ⟨t, 0, none⟩), .slice none 0 0, .int .i64 ((room : Nat) : Int), .agg #[.int .i64 o, .int .i64 k, .int .i64 v], undef, undef, undef, undef, undef, undef, undef, undef, undef, undef, undef, undef, undef, undef, undef, undef, undef, undef, undef, undef, undef, undef, undef, undef, undef, undef, undef, undef, undef, undef, undef, undef, undef, undef, undef, undef, undef, undef, undef, undef, undef, undef, undef, undef, undef, undef, undef, undef, undef, undef, undef, undef, undef, undef, undef, undef, undef, undef, undef, undef, undef, undef, undef, undef, undef, undef, undef, undef, undef, undef, undef, undef, undef, undef, undef, undef, undef, undef, undef, undef, undef, undef, undef, undef, undef, undef, undef, undef, undef, undef, undef, undef, undef, undef] (by kernel_rfl) ?_
  have H := H0
  refine x_seq ?_
  refine x_region ?_
  refine x_box H #[.int .i64 o, .int .i64 k, .int .i64 v] 69 (by kernel_rfl) rfl (by kernel_rfl) ?_
  clear H
  intro v1 g1 H
  refine x_val (.slice none 0 0) (by kernel_rfl) rfl (by kernel_rfl) ?_
  refine x_val (.bool false) (by kernel_rfl) rfl (by kernel_rfl) ?_
  refine x_nil ?_
  refine x_then ?_
  refine x_seq ?_
  refine x_seq ?_
  refine x_region ?_
  refine x_val (.pointer (some ⟨g1, 0, none⟩)) (by kernel_rfl) rfl (by kernel_rfl) ?_
  refine x_load1 H 0 g1 0 #[.int .i64 o, .int .i64 k, .int .i64 v] 69 (.int .i64 o) (by kernel_rfl) (by kernel_rfl) (by kernel_rfl) rfl (by kernel_rfl) ?_
  refine x_nil ?_
  refine x_then ?_
  refine x_block ?_
  refine x_seq ?_
  refine x_region ?_
  refine x_val (.bool (decide (o = 1))) (by kernel_rfl) rfl (by kernel_rfl) ?_
  refine x_val (.bool (decide (o = 1))) (by kernel_rfl) rfl (by kernel_rfl) ?_
  refine x_nil ?_
  refine x_then ?_
  rw [k1]
  refine x_t (by kernel_rfl) ?_
  refine x_seq ?_
  refine x_region ?_
  refine x_val (.pointer (some ⟨t, 0, none⟩)) (by kernel_rfl) rfl (by kernel_rfl) ?_
  refine x_val (.pointer (some ⟨g1, 1, none⟩)) (by kernel_rfl) rfl (by kernel_rfl) ?_
  refine x_load1 H 0 g1 1 #[.int .i64 o, .int .i64 k, .int .i64 v] 69 (.int .i64 k) (by kernel_rfl) (by kernel_rfl) (by kernel_rfl) rfl (by kernel_rfl) ?_
  refine x_val (.pointer (some ⟨g1, 2, none⟩)) (by kernel_rfl) rfl (by kernel_rfl) ?_
  refine x_load1 H 0 g1 2 #[.int .i64 o, .int .i64 k, .int .i64 v] 69 (.int .i64 v) (by kernel_rfl) (by kernel_rfl) (by kernel_rfl) rfl (by kernel_rfl) ?_
  refine x_call (by kernel_rfl) rfl (by kernel_rfl) (Hs.useE (A := [.blk t #[sv, .int .i64 ((room : Nat) : Int), .func (.func 26) #[] #[]] 90, .row (sv) 92 2 (List.length xs) (List.flatMap pairLI xs)]) (R := [.blk g1 #[.int .i64 o, .int .i64 k, .int .i64 v] 69]) (fun svp => [.blk t #[svp, .int .i64 ((room : Nat) : Int), .func (.func 26) #[] #[]] 90, .row (svp) 92 2 (List.length ((putI room xs k v).1)) (List.flatMap pairLI ((putI room xs k v).1))]) (fun _ => .tuple #[.int .i64 ((putI room xs k v).2.1), .bool ((putI room xs k v).2.2)]) (H.pick [1, 2, 0] _ (by decide) (by kernel_rfl)) (fun h => Put_I k v (by first | omega | exact Nat.zero_le _) (by first | omega | exact Nat.zero_le _) (by omega) _ h)) ?_
  rintro _ v2 ⟨svp, rfl, H'⟩
  refine ⟨_, rfl, ?_⟩
  clear H
  have H : Hs (fps [.blk t #[sv, .int .i64 ((room : Nat) : Int), .func (.func 26) #[] #[]] 90, .row (sv) 92 2 (List.length xs) (List.flatMap pairLI xs)]) w0 _ [.blk t #[svp, .int .i64 ((room : Nat) : Int), .func (.func 26) #[] #[]] 90, .row (svp) 92 2 (List.length ((putI room xs k v).1)) (List.flatMap pairLI ((putI room xs k v).1)), .blk g1 #[.int .i64 o, .int .i64 k, .int .i64 v] 69] := H'
  clear H'
  refine x_val (.tuple #[.int .i64 ((putI room xs k v).2.1), .bool ((putI room xs k v).2.2)]) (by kernel_rfl) rfl (by kernel_rfl) ?_
  refine x_val (.int .i64 ((putI room xs k v).2.1)) (by kernel_rfl) rfl (by kernel_rfl) ?_
  refine x_val (.bool ((putI room xs k v).2.2)) (by kernel_rfl) rfl (by kernel_rfl) ?_
  refine x_val (.int .i64 ((putI room xs k v).2.1)) (by kernel_rfl) rfl (by kernel_rfl) ?_
  refine x_val (.bool ((putI room xs k v).2.2)) (by kernel_rfl) rfl (by kernel_rfl) ?_
  refine x_nil ?_
  refine x_then ?_
  refine x_seq ?_
  refine x_region ?_
  refine x_val (.slice none 0 0) (by kernel_rfl) rfl (by kernel_rfl) ?_
  refine x_val (.int .i64 ((room : Nat) : Int)) (by kernel_rfl) rfl (by kernel_rfl) ?_
  refine x_val (.pointer (some ⟨g1, 1, none⟩)) (by kernel_rfl) rfl (by kernel_rfl) ?_
  refine x_load1 H 2 g1 1 #[.int .i64 o, .int .i64 k, .int .i64 v] 69 (.int .i64 k) (by kernel_rfl) (by kernel_rfl) (by kernel_rfl) rfl (by kernel_rfl) ?_
  refine x_val (.pointer (some ⟨g1, 2, none⟩)) (by kernel_rfl) rfl (by kernel_rfl) ?_
  refine x_load1 H 2 g1 2 #[.int .i64 o, .int .i64 k, .int .i64 v] 69 (.int .i64 v) (by kernel_rfl) (by kernel_rfl) (by kernel_rfl) rfl (by kernel_rfl) ?_
  refine x_call (by kernel_rfl) rfl (by kernel_rfl) (RPut_nil ((room : Nat) : Int) k v (by omega) _) ?_
  rintro _ v3 ⟨u, rfl, hB⟩
  refine ⟨_, rfl, ?_⟩
  replace H := H.via hB
  clear hB
  refine x_val (.tuple #[u, .int .i64 0, .bool false]) (by kernel_rfl) rfl (by kernel_rfl) ?_
  refine x_val (u) (by kernel_rfl) rfl (by kernel_rfl) ?_
  refine x_val (.int .i64 0) (by kernel_rfl) rfl (by kernel_rfl) ?_
  refine x_val (.bool false) (by kernel_rfl) rfl (by kernel_rfl) ?_
  refine x_val (u) (by kernel_rfl) rfl (by kernel_rfl) ?_
  refine x_val (.int .i64 0) (by kernel_rfl) rfl (by kernel_rfl) ?_
  refine x_val (.bool false) (by kernel_rfl) rfl (by kernel_rfl) ?_
  refine x_nil ?_
  refine x_frame' { tmps := #[.pointer (some ⟨t, 0, none⟩), .slice none 0 0, .int .i64 ((room : Nat) : Int), .agg #[.int .i64 o, .int .i64 k, .int .i64 v], undef, undef, undef, .pointer (some ⟨g1, 0, none⟩), .slice none 0 0, .bool false, .int .i64 ((putI room xs k v).2.1), .bool ((putI room xs k v).2.2), u, .int .i64 0, .bool false, undef, undef, undef, undef, .pointer (some ⟨g1, 0, none⟩), .int .i64 o, .bool true, .bool true, .tuple #[.int .i64 ((putI room xs k v).2.1), .bool ((putI room xs k v).2.2)], .pointer (some ⟨t, 0, none⟩), .pointer (some ⟨g1, 1, none⟩), .int .i64 k, .pointer (some ⟨g1, 2, none⟩), .int .i64 v, .tuple #[.int .i64 ((putI room xs k v).2.1), .bool ((putI room xs k v).2.2)], .int .i64 ((putI room xs k v).2.1), .bool ((putI room xs k v).2.2), .tuple #[u, .int .i64 0, .bool false], .slice none 0 0, .int .i64 ((room : Nat) : Int), .pointer (some ⟨g1, 1, none⟩), .int .i64 k, .pointer (some ⟨g1, 2, none⟩), .int .i64 v, .tuple #[u, .int .i64 0, .bool false], u, .int .i64 0, .bool false, undef, undef, undef, undef, undef, undef, undef, undef, undef, undef, undef, undef, undef, undef, undef, undef, undef, undef, undef, undef, undef, undef, undef, undef, undef, undef, undef, undef, undef, undef, undef, undef, undef, undef, undef, undef, undef, undef, undef, undef, undef, undef, undef, undef, undef, undef, undef, undef, undef, undef, undef, undef, undef, undef, undef], defers := [] } (by kernel_rfl) ?_
  refine x_then ?_
  refine x_seq ?_
  refine x_region ?_
  refine x_val (u) (by kernel_rfl) rfl (by kernel_rfl) ?_
  refine x_val (.int .i64 ((putI room xs k v).2.1)) (by kernel_rfl) rfl (by kernel_rfl) ?_
  refine x_val (.int .i64 0) (by kernel_rfl) rfl (by kernel_rfl) ?_
  refine x_val (.bool (decide (((putI room xs k v).2.1) = 0))) (by kernel_rfl) rfl (by kernel_rfl) ?_
  refine x_val (.bool (decide (((putI room xs k v).2.1) = 0))) (by kernel_rfl) rfl (by kernel_rfl) ?_
  cases h1 : decide (((putI room xs k v).2.1) = 0)
  · skip
    have h1p := of_decide_eq_false h1
    refine x_skip (by kernel_rfl) ?_
    refine x_skip (by kernel_rfl) ?_
    refine x_skip (by kernel_rfl) ?_
    refine x_val (.bool false) (by kernel_rfl) rfl (by kernel_rfl) ?_
    refine x_val (u) (by kernel_rfl) rfl (by kernel_rfl) ?_
    refine x_val (.bool false) (by kernel_rfl) rfl (by kernel_rfl) ?_
    refine x_nil ?_
    refine x_then ?_
    refine x_retc ?_
    refine x_blk_ret ?_
    refine x_then_ret ?_
    refine x_ret (.tuple #[u, .bool false]) (by kernel_rfl) (by kernel_rfl) ?_
    replace H := H.pick [0, 1] [.blk t #[svp, .int .i64 ((room : Nat) : Int), .func (.func 26) #[] #[]] 90, .row (svp) 92 2 (List.length ((putI room xs k v).1)) (List.flatMap pairLI ((putI room xs k v).1))] (by decide) (by kernel_rfl)
    exact ⟨_, _, _, rfl, H⟩
  · skip
    have h1p := of_decide_eq_true h1
    refine x_val (.bool ((putI room xs k v).2.2)) (by kernel_rfl) rfl (by kernel_rfl) ?_
    refine x_val (.bool false) (by kernel_rfl) rfl (by kernel_rfl) ?_
    refine x_val (.bool (((putI room xs k v).2.2) == false)) (by kernel_rfl) rfl (by kernel_rfl) ?_
    refine x_val (.bool (((putI room xs k v).2.2) == false)) (by kernel_rfl) rfl (by kernel_rfl) ?_
    refine x_val (u) (by kernel_rfl) rfl (by kernel_rfl) ?_
    refine x_val (.bool (((putI room xs k v).2.2) == false)) (by kernel_rfl) rfl (by kernel_rfl) ?_
    refine x_nil ?_
    refine x_then ?_
    refine x_retc ?_
    refine x_blk_ret ?_
    refine x_then_ret ?_
    refine x_ret (.tuple #[u, .bool (((putI room xs k v).2.2) == false)]) (by kernel_rfl) (by kernel_rfl) ?_
    replace H := H.pick [0, 1] [.blk t #[svp, .int .i64 ((room : Nat) : Int), .func (.func 26) #[] #[]] 90, .row (svp) 92 2 (List.length ((putI room xs k v).1)) (List.flatMap pairLI ((putI room xs k v).1))] (by decide) (by kernel_rfl)
    exact ⟨_, _, _, rfl, H⟩

set_option maxRecDepth 100000 in
set_option maxHeartbeats 4000000 in
theorem step_drop {t : Nat} {sv : Value} {xs : List PairI} {room : Nat} (o k v : Int) (hn : xs.length ≤ room) (h1 : 1 ≤ room) (h2 : room ≤ 4096) (k1 : decide (o = 1) = false) (k2 : decide (o = 2) = true) (w0 : World) (H0 : Hs (fps [.blk t #[sv, .int .i64 ((room : Nat) : Int), .func (.func 26) #[] #[]] 90, .row (sv) 92 2 (List.length xs) (List.flatMap pairLI xs)]) w0 w0 [.blk t #[sv, .int .i64 ((room : Nat) : Int), .func (.func 26) #[] #[]] 90, .row (sv) 92 2 (List.length xs) (List.flatMap pairLI xs)]) :
    Calls Try.prog 31 #[.pointer (some ⟨t, 0, none⟩), .slice none 0 0, .int .i64 ((room : Nat) : Int), .agg #[.int .i64 o, .int .i64 k, .int .i64 v]] w0 fun e w' => ∃ sv' u bb, e = .returned (.tuple #[u, .bool bb]) ∧ Hs (fps [.blk t #[sv, .int .i64 ((room : Nat) : Int), .func (.func 26) #[] #[]] 90, .row (sv) 92 2 (List.length xs) (List.flatMap pairLI xs)]) w0 w' [.blk t #[sv', .int .i64 ((room : Nat) : Int), .func (.func 26) #[] #[]] 90, .row (sv') 92 2 (List.length (dropI xs k)) (List.flatMap pairLI (dropI xs k))] := by
  refine x_enter Try.func31 rfl #[.pointer (some ⟨t, 0, none⟩), .slice none 0 0, .int .i64 ((room : Nat) : Int), .agg #[.int .i64 o, .int .i64 k, .int .i64 v], undef, undef, undef, undef, undef, undef, undef, undef, undef, undef, undef, undef, undef, undef, undef, undef, undef, undef, undef, undef, undef, undef, undef, undef, undef, undef, undef, undef, undef, undef, undef, undef, undef, undef, undef, undef, undef, undef, undef, undef, undef, undef, undef, undef, undef, undef, undef, undef, undef, undef, undef, undef, undef, undef, undef, undef, undef, undef, undef, undef, undef, undef, undef, undef, undef, undef, undef, undef, undef, undef, undef, undef, undef, undef, undef, undef, undef, undef, undef, undef, undef, undef, undef, undef, undef, undef, undef, undef, undef, undef, undef, undef, undef, undef] (by kernel_rfl) ?_
  have H := H0
  refine x_seq ?_
  refine x_region ?_
  refine x_box H #[.int .i64 o, .int .i64 k, .int .i64 v] 69 (by kernel_rfl) rfl (by kernel_rfl) ?_
  clear H
  intro v1 g1 H
  refine x_val (.slice none 0 0) (by kernel_rfl) rfl (by kernel_rfl) ?_
  refine x_val (.bool false) (by kernel_rfl) rfl (by kernel_rfl) ?_
  refine x_nil ?_
  refine x_then ?_
  refine x_seq ?_
  refine x_seq ?_
  refine x_region ?_
  refine x_val (.pointer (some ⟨g1, 0, none⟩)) (by kernel_rfl) rfl (by kernel_rfl) ?_
  refine x_load1 H 0 g1 0 #[.int .i64 o, .int .i64 k, .int .i64 v] 69 (.int .i64 o) (by kernel_rfl) (by kernel_rfl) (by kernel_rfl) rfl (by kernel_rfl) ?_
  refine x_nil ?_
  refine x_then ?_
  refine x_block ?_
  refine x_seq ?_
  refine x_region ?_
  refine x_val (.bool (decide (o = 1))) (by kernel_rfl) rfl (by kernel_rfl) ?_
  refine x_val (.bool (decide (o = 1))) (by kernel_rfl) rfl (by kernel_rfl) ?_
  refine x_nil ?_
  refine x_then ?_
  rw [k1]
  refine x_f (by kernel_rfl) ?_
  refine x_seq ?_
  refine x_region ?_
  refine x_val (.bool (decide (o = 2))) (by kernel_rfl) rfl (by kernel_rfl) ?_
  refine x_val (.bool (decide (o = 2))) (by kernel_rfl) rfl (by kernel_rfl) ?_
  refine x_nil ?_
  refine x_then ?_
  rw [k2]
  refine x_t (by kernel_rfl) ?_
  refine x_seq ?_
  refine x_region ?_
  refine x_val (.slice none 0 0) (by kernel_rfl) rfl (by kernel_rfl) ?_
  refine x_val (.pointer (some ⟨g1, 1, none⟩)) (by kernel_rfl) rfl (by kernel_rfl) ?_
  refine x_load1 H 0 g1 1 #[.int .i64 o, .int .i64 k, .int .i64 v] 69 (.int .i64 k) (by kernel_rfl) (by kernel_rfl) (by kernel_rfl) rfl (by kernel_rfl) ?_
  refine x_callB (.int .i64 (-1)) H (by kernel_rfl) rfl (by kernel_rfl) (RFind_nil k _) ?_
  clear H
  intro v2 H
  refine x_val (.int .i64 (-1)) (by kernel_rfl) rfl (by kernel_rfl) ?_
  refine x_nil ?_
  refine x_then ?_
  refine x_seq ?_
  refine x_seq ?_
  refine x_region ?_
  refine x_val (.int .i64 (-1)) (by kernel_rfl) rfl (by kernel_rfl) ?_
  refine x_val (.bool true) (by kernel_rfl) rfl (by kernel_rfl) ?_
  refine x_nil ?_
  refine x_then ?_
  refine x_t (by kernel_rfl) ?_
  refine x_seq ?_
  refine x_region ?_
  refine x_val (.slice none 0 0) (by kernel_rfl) rfl (by kernel_rfl) ?_
  refine x_val (.pointer (some ⟨t, 0, none⟩)) (by kernel_rfl) rfl (by kernel_rfl) ?_
  refine x_val (.pointer (some ⟨g1, 1, none⟩)) (by kernel_rfl) rfl (by kernel_rfl) ?_
  refine x_load1 H 0 g1 1 #[.int .i64 o, .int .i64 k, .int .i64 v] 69 (.int .i64 k) (by kernel_rfl) (by kernel_rfl) (by kernel_rfl) rfl (by kernel_rfl) ?_
  refine x_call (by kernel_rfl) rfl (by kernel_rfl) (Hs.useE (A := [.blk t #[sv, .int .i64 ((room : Nat) : Int), .func (.func 26) #[] #[]] 90, .row (sv) 92 2 (List.length xs) (List.flatMap pairLI xs)]) (R := [.blk g1 #[.int .i64 o, .int .i64 k, .int .i64 v] 69]) (fun svd => [.blk t #[svd, .int .i64 ((room : Nat) : Int), .func (.func 26) #[] #[]] 90, .row (svd) 92 2 (List.length (dropI xs k)) (List.flatMap pairLI (dropI xs k))]) (fun _ => .bool (decide (fkI xs k < List.length xs))) (H.pick [1, 2, 0] _ (by decide) (by kernel_rfl)) (fun h => Drop_I k (by omega) _ h)) ?_
  rintro _ v3 ⟨svd, rfl, H'⟩
  refine ⟨_, rfl, ?_⟩
  clear H
  have H : Hs (fps [.blk t #[sv, .int .i64 ((room : Nat) : Int), .func (.func 26) #[] #[]] 90, .row (sv) 92 2 (List.length xs) (List.flatMap pairLI xs)]) w0 _ [.blk t #[svd, .int .i64 ((room : Nat) : Int), .func (.func 26) #[] #[]] 90, .row (svd) 92 2 (List.length (dropI xs k)) (List.flatMap pairLI (dropI xs k)), .blk g1 #[.int .i64 o, .int .i64 k, .int .i64 v] 69] := H'
  clear H'
  refine x_val (.bool (!(decide (fkI xs k < List.length xs)))) (by kernel_rfl) rfl (by kernel_rfl) ?_
  refine x_val (.slice none 0 0) (by kernel_rfl) rfl (by kernel_rfl) ?_
  refine x_val (.bool (!(decide (fkI xs k < List.length xs)))) (by kernel_rfl) rfl (by kernel_rfl) ?_
  refine x_nil ?_
  refine x_then ?_
  refine x_retc ?_
  refine x_then_ret ?_
  refine x_blk_ret ?_
  refine x_then_ret ?_
  refine x_ret (.tuple #[.slice none 0 0, .bool (!(decide (fkI xs k < List.length xs)))]) (by kernel_rfl) (by kernel_rfl) ?_
  replace H := H.pick [0, 1] [.blk t #[svd, .int .i64 ((room : Nat) : Int), .func (.func 26) #[] #[]] 90, .row (svd) 92 2 (List.length (dropI xs k)) (List.flatMap pairLI (dropI xs k))] (by decide) (by kernel_rfl)
  exact ⟨_, _, _, rfl, H⟩

set_option maxRecDepth 100000 in
set_option maxHeartbeats 4000000 in
theorem step_none {t : Nat} {sv : Value} {xs : List PairI} {room : Nat} (o k v : Int) (hn : xs.length ≤ room) (h1 : 1 ≤ room) (h2 : room ≤ 4096) (k1 : decide (o = 1) = false) (k2 : decide (o = 2) = false) (k3 : decide (o = 3) = false) (w0 : World) (H0 : Hs (fps [.blk t #[sv, .int .i64 ((room : Nat) : Int), .func (.func 26) #[] #[]] 90, .row (sv) 92 2 (List.length xs) (List.flatMap pairLI xs)]) w0 w0 [.blk t #[sv, .int .i64 ((room : Nat) : Int), .func (.func 26) #[] #[]] 90, .row (sv) 92 2 (List.length xs) (List.flatMap pairLI xs)]) :
    Calls Try.prog 31 #[.pointer (some ⟨t, 0, none⟩), .slice none 0 0, .int .i64 ((room : Nat) : Int), .agg #[.int .i64 o, .int .i64 k, .int .i64 v]] w0 fun e w' => ∃ sv' u bb, e = .returned (.tuple #[u, .bool bb]) ∧ Hs (fps [.blk t #[sv, .int .i64 ((room : Nat) : Int), .func (.func 26) #[] #[]] 90, .row (sv) 92 2 (List.length xs) (List.flatMap pairLI xs)]) w0 w' [.blk t #[sv', .int .i64 ((room : Nat) : Int), .func (.func 26) #[] #[]] 90, .row (sv') 92 2 (List.length xs) (List.flatMap pairLI xs)] := by
  refine x_enter Try.func31 rfl #[.pointer (some ⟨t, 0, none⟩), .slice none 0 0, .int .i64 ((room : Nat) : Int), .agg #[.int .i64 o, .int .i64 k, .int .i64 v], undef, undef, undef, undef, undef, undef, undef, undef, undef, undef, undef, undef, undef, undef, undef, undef, undef, undef, undef, undef, undef, undef, undef, undef, undef, undef, undef, undef, undef, undef, undef, undef, undef, undef, undef, undef, undef, undef, undef, undef, undef, undef, undef, undef, undef, undef, undef, undef, undef, undef, undef, undef, undef, undef, undef, undef, undef, undef, undef, undef, undef, undef, undef, undef, undef, undef, undef, undef, undef, undef, undef, undef, undef, undef, undef, undef, undef, undef, undef, undef, undef, undef, undef, undef, undef, undef, undef, undef, undef, undef, undef, undef, undef, undef] (by kernel_rfl) ?_
  have H := H0
  refine x_seq ?_
  refine x_region ?_
  refine x_box H #[.int .i64 o, .int .i64 k, .int .i64 v] 69 (by kernel_rfl) rfl (by kernel_rfl) ?_
  clear H
  intro v1 g1 H
  refine x_val (.slice none 0 0) (by kernel_rfl) rfl (by kernel_rfl) ?_
  refine x_val (.bool false) (by kernel_rfl) rfl (by kernel_rfl) ?_
  refine x_nil ?_
  refine x_then ?_
  refine x_seq ?_
  refine x_seq ?_
  refine x_region ?_
  refine x_val (.pointer (some ⟨g1, 0, none⟩)) (by kernel_rfl) rfl (by kernel_rfl) ?_
  refine x_load1 H 0 g1 0 #[.int .i64 o, .int .i64 k, .int .i64 v] 69 (.int .i64 o) (by kernel_rfl) (by kernel_rfl) (by kernel_rfl) rfl (by kernel_rfl) ?_
  refine x_nil ?_
  refine x_then ?_
  refine x_block ?_
  refine x_seq ?_
  refine x_region ?_
  refine x_val (.bool (decide (o = 1))) (by kernel_rfl) rfl (by kernel_rfl) ?_
  refine x_val (.bool (decide (o = 1))) (by kernel_rfl) rfl (by kernel_rfl) ?_
  refine x_nil ?_
  refine x_then ?_
  rw [k1]
  refine x_f (by kernel_rfl) ?_
  refine x_seq ?_
  refine x_region ?_
  refine x_val (.bool (decide (o = 2))) (by kernel_rfl) rfl (by kernel_rfl) ?_
  refine x_val (.bool (decide (o = 2))) (by kernel_rfl) rfl (by kernel_rfl) ?_
  refine x_nil ?_
  refine x_then ?_
  rw [k2]
  refine x_f (by kernel_rfl) ?_
  refine x_seq ?_
  refine x_region ?_
  refine x_val (.bool (decide (o = 3))) (by kernel_rfl) rfl (by kernel_rfl) ?_
  refine x_val (.bool (decide (o = 3))) (by kernel_rfl) rfl (by kernel_rfl) ?_
  refine x_nil ?_
  refine x_then ?_
  rw [k3]
  refine x_f (by kernel_rfl) ?_
  refine x_skipc ?_
  refine x_blk ?_
  refine x_then ?_
  refine x_seq ?_
  refine x_region ?_
  refine x_val (.slice none 0 0) (by kernel_rfl) rfl (by kernel_rfl) ?_
  refine x_val (.slice none 0 0) (by kernel_rfl) rfl (by kernel_rfl) ?_
  refine x_val (.bool true) (by kernel_rfl) rfl (by kernel_rfl) ?_
  refine x_nil ?_
  refine x_then ?_
  refine x_retc ?_
  refine x_ret (.tuple #[.slice none 0 0, .bool true]) (by kernel_rfl) (by kernel_rfl) ?_
  replace H := H.pick [1, 2] [.blk t #[sv, .int .i64 ((room : Nat) : Int), .func (.func 26) #[] #[]] 90, .row (sv) 92 2 (List.length xs) (List.flatMap pairLI xs)] (by decide) (by kernel_rfl)
  exact ⟨_, _, _, rfl, H⟩

theorem put_nil {room : Nat} (h : 1 ≤ room) (k v : Int) : putI room [] k v = ([(k, v)], 0, false) := by
  unfold putI; rw [if_neg (by simp), if_pos (by simp; omega)]; rfl
def topL (x : Int × Int × Int) : List Value := [.int .i64 x.1, .int .i64 x.2.1, .int .i64 x.2.2]
/-- Some steps that are handed in. -/
def TOpsAt (w0 : World) (ad : Option Addr) (n : Nat) (l : List (Int × Int × Int)) : Prop :=
  0 < n → ∃ g off, ad = some ⟨g, off, none⟩ ∧ ∀ w', Below w0.heap.size w0 w' → ∀ i, i < n → ∀ (j : Nat) v, (topL (l.getD i (0, 0, 0)))[j]? = some v → w'.cell? ⟨g, off + i * 3 + j, none⟩ = some v

theorem heavy_drop {key : Int} {xs : List PairI} {room : Nat} (h : Heavy key xs) (hl : xs.length ≤ room) {k : Int} (hk : ¬ k = key) : Heavy key (dropI xs k) ∧ (dropI xs k).length ≤ room := by
  unfold dropI
  split
  · rename_i hq; exact ⟨h.drop hk hq, by rw [List.length_eraseIdx, if_pos hq]; omega⟩
  · exact ⟨h, hl⟩

set_option maxRecDepth 100000 in
set_option maxHeartbeats 4000000 in
theorem heavy_no (room : Int) (ad : Option Addr) (nA cA : Nat) (key : Int) (hroom : room < 1 ∨ 256 < room) (w0 : World) :
    Calls Try.prog 8 #[.int .i64 room, .slice ad nA cA, .int .i64 key] w0 fun e w' => e = .returned (.bool true) ∧ Below w0.heap.size w0 w' := by
  refine x_enter Try.func8 rfl #[.int .i64 room, .slice ad nA cA, .int .i64 key, undef, undef, undef, undef, undef, undef, undef, undef, undef, undef, undef, undef, undef, undef, undef, undef, undef, undef, undef, undef, undef, undef, undef, undef, undef, undef, undef, undef, undef, undef, undef, undef, undef, undef, undef, undef, undef, undef, undef, undef, undef, undef, undef, undef, undef, undef, undef, undef, undef, undef, undef, undef, undef, undef, undef, undef, undef, undef, undef, undef, undef, undef, undef, undef, undef, undef, undef, undef, undef, undef, undef, undef] (by kernel_rfl) ?_
  have H := Hs.nil w0
  refine x_seq ?_
  refine x_region ?_
  refine x_val (.bool false) (by kernel_rfl) rfl (by kernel_rfl) ?_
  refine x_nil ?_
  refine x_then ?_
  refine x_seq ?_
  refine x_seq ?_
  refine x_region ?_
  refine x_callB (.bool true) H (by kernel_rfl) rfl (by kernel_rfl) (anchor16 _) ?_
  clear H
  intro v1 H
  refine x_val (.bool false) (by kernel_rfl) rfl (by kernel_rfl) ?_
  refine x_nil ?_
  refine x_then ?_
  refine x_f (by kernel_rfl) ?_
  refine x_skipc ?_
  refine x_then ?_
  refine x_seq ?_
  refine x_region ?_
  refine x_val (.int .i64 room) (by kernel_rfl) rfl (by kernel_rfl) ?_
  refine x_callB (.tuple #[.pointer none, .int .i64 12]) H (by kernel_rfl) rfl (by kernel_rfl) (TNewI_no room hroom _) ?_
  clear H
  intro v2 H
  refine x_val (.tuple #[.pointer none, .int .i64 12]) (by kernel_rfl) rfl (by kernel_rfl) ?_
  refine x_val (.pointer none) (by kernel_rfl) rfl (by kernel_rfl) ?_
  refine x_val (.int .i64 12) (by kernel_rfl) rfl (by kernel_rfl) ?_
  refine x_val (.pointer none) (by kernel_rfl) rfl (by kernel_rfl) ?_
  refine x_val (.int .i64 12) (by kernel_rfl) rfl (by kernel_rfl) ?_
  refine x_nil ?_
  refine x_then ?_
  refine x_seq ?_
  refine x_seq ?_
  refine x_region ?_
  refine x_val (.int .i64 12) (by kernel_rfl) rfl (by kernel_rfl) ?_
  refine x_val (.bool true) (by kernel_rfl) rfl (by kernel_rfl) ?_
  refine x_val (.bool true) (by kernel_rfl) rfl (by kernel_rfl) ?_
  refine x_skip (by kernel_rfl) ?_
  refine x_skip (by kernel_rfl) ?_
  refine x_val (.bool true) (by kernel_rfl) rfl (by kernel_rfl) ?_
  refine x_val (.bool true) (by kernel_rfl) rfl (by kernel_rfl) ?_
  refine x_skip (by kernel_rfl) ?_
  refine x_skip (by kernel_rfl) ?_
  refine x_val (.bool true) (by kernel_rfl) rfl (by kernel_rfl) ?_
  refine x_val (.bool true) (by kernel_rfl) rfl (by kernel_rfl) ?_
  refine x_skip (by kernel_rfl) ?_
  refine x_skip (by kernel_rfl) ?_
  refine x_skip (by kernel_rfl) ?_
  refine x_val (.bool true) (by kernel_rfl) rfl (by kernel_rfl) ?_
  refine x_nil ?_
  refine x_then ?_
  refine x_t (by kernel_rfl) ?_
  refine x_seq ?_
  refine x_region ?_
  refine x_val (.bool true) (by kernel_rfl) rfl (by kernel_rfl) ?_
  refine x_nil ?_
  refine x_then ?_
  refine x_retc ?_
  refine x_then_ret ?_
  refine x_ret (.bool true) (by kernel_rfl) (by kernel_rfl) ?_
  exact ⟨rfl, H.below⟩

set_option maxRecDepth 100000 in
set_option maxHeartbeats 4000000 in
theorem heavy_yes (room : Nat) (ad : Option Addr) (nA cA : Nat) (key : Int) (l : List (Int × Int × Int)) (h1 : 1 ≤ room) (h2 : room ≤ 256) (w0 : World) (hA : TOpsAt w0 ad nA l) :
    Calls Try.prog 8 #[.int .i64 ((room : Nat) : Int), .slice ad nA cA, .int .i64 key] w0 fun e w' => e = .returned (.bool true) ∧ Below w0.heap.size w0 w' := by
  refine x_enter Try.func8 rfl #[.int .i64 ((room : Nat) : Int), .slice ad nA cA, .int .i64 key, undef, undef, undef, undef, undef, undef, undef, undef, undef, undef, undef, undef, undef, undef, undef, undef, undef, undef, undef, undef, undef, undef, undef, undef, undef, undef, undef, undef, undef, undef, undef, undef, undef, undef, undef, undef, undef, undef, undef, undef, undef, undef, undef, undef, undef, undef, undef, undef, undef, undef, undef, undef, undef, undef, undef, undef, undef, undef, undef, undef, undef, undef, undef, undef, undef, undef, undef, undef, undef, undef, undef, undef] (by kernel_rfl) ?_
  have H := Hs.nil w0
  refine x_seq ?_
  refine x_region ?_
  refine x_val (.bool false) (by kernel_rfl) rfl (by kernel_rfl) ?_
  refine x_nil ?_
  refine x_then ?_
  refine x_seq ?_
  refine x_seq ?_
  refine x_region ?_
  refine x_callB (.bool true) H (by kernel_rfl) rfl (by kernel_rfl) (anchor16 _) ?_
  clear H
  intro v1 H
  refine x_val (.bool false) (by kernel_rfl) rfl (by kernel_rfl) ?_
  refine x_nil ?_
  refine x_then ?_
  refine x_f (by kernel_rfl) ?_
  refine x_skipc ?_
  refine x_then ?_
  refine x_seq ?_
  refine x_region ?_
  refine x_val (.int .i64 ((room : Nat) : Int)) (by kernel_rfl) rfl (by kernel_rfl) ?_
  refine x_call (by kernel_rfl) rfl (by kernel_rfl) (TNewI_yes room (by omega) (by omega) _) ?_
  rintro _ v2 ⟨t, rfl, hN'⟩
  refine ⟨_, rfl, ?_⟩
  replace H := H.more hN'
  clear hN'
  replace H : Hs [] w0 _ [.blk t #[.slice none 0 0, .int .i64 ((room : Nat) : Int), .func (.func 26) #[] #[]] 90, .row (.slice none 0 0) 92 2 (List.length ([] : List PairI)) (List.flatMap pairLI ([] : List PairI))] := H
  refine x_val (.tuple #[.pointer (some ⟨t, 0, none⟩), .int .i64 0]) (by kernel_rfl) rfl (by kernel_rfl) ?_
  refine x_val (.pointer (some ⟨t, 0, none⟩)) (by kernel_rfl) rfl (by kernel_rfl) ?_
  refine x_val (.int .i64 0) (by kernel_rfl) rfl (by kernel_rfl) ?_
  refine x_val (.pointer (some ⟨t, 0, none⟩)) (by kernel_rfl) rfl (by kernel_rfl) ?_
  refine x_val (.int .i64 0) (by kernel_rfl) rfl (by kernel_rfl) ?_
  refine x_nil ?_
  refine x_then ?_
  refine x_seq ?_
  refine x_seq ?_
  refine x_region ?_
  refine x_val (.int .i64 0) (by kernel_rfl) rfl (by kernel_rfl) ?_
  refine x_val (.bool false) (by kernel_rfl) rfl (by kernel_rfl) ?_
  refine x_val (.bool false) (by kernel_rfl) rfl (by kernel_rfl) ?_
  refine x_val (.pointer (some ⟨t, 0, none⟩)) (by kernel_rfl) rfl (by kernel_rfl) ?_
  refine x_val (.bool false) (by kernel_rfl) rfl (by kernel_rfl) ?_
  refine x_val (.bool false) (by kernel_rfl) rfl (by kernel_rfl) ?_
  refine x_val (.bool false) (by kernel_rfl) rfl (by kernel_rfl) ?_
  refine x_val (.int .i64 ((room : Nat) : Int)) (by kernel_rfl) rfl (by kernel_rfl) ?_
  refine x_val (.bool (decide (((room : Nat) : Int) < 2))) (by kernel_rfl) rfl (by kernel_rfl) ?_
  refine x_val (.bool (decide (((room : Nat) : Int) < 2))) (by kernel_rfl) rfl (by kernel_rfl) ?_
  refine x_val (.bool (decide (((room : Nat) : Int) < 2))) (by kernel_rfl) rfl (by kernel_rfl) ?_
  cases h1 : decide (((room : Nat) : Int) < 2)
  · skip
    have h1p := of_decide_eq_false h1
    refine x_val (.slice ad nA cA) (by kernel_rfl) rfl (by kernel_rfl) ?_
    refine x_val (.int .i64 ((nA : Nat) : Int)) (by kernel_rfl) rfl (by kernel_rfl) ?_
    refine x_val (.bool (decide (100 < ((nA : Nat) : Int)))) (by kernel_rfl) rfl (by kernel_rfl) ?_
    refine x_val (.bool (decide (100 < ((nA : Nat) : Int)))) (by kernel_rfl) rfl (by kernel_rfl) ?_
    refine x_nil ?_
    refine x_then ?_
    cases h2 : decide (100 < ((nA : Nat) : Int))
    · skip
      have h2p := of_decide_eq_false h2
      refine x_f (by kernel_rfl) ?_
      refine x_skipc ?_
      refine x_then ?_
      refine x_seq ?_
      refine x_region ?_
      refine x_val (.pointer (some ⟨t, 0, none⟩)) (by kernel_rfl) rfl (by kernel_rfl) ?_
      refine x_val (.int .i64 key) (by kernel_rfl) rfl (by kernel_rfl) ?_
      refine x_call (by kernel_rfl) rfl (by kernel_rfl) (Hs.useE (A := [.blk t #[.slice none 0 0, .int .i64 ((room : Nat) : Int), .func (.func 26) #[] #[]] 90, .row (.slice none 0 0) 92 2 (List.length ([] : List PairI)) (List.flatMap pairLI ([] : List PairI))]) (R := []) (fun svp => [.blk t #[svp, .int .i64 ((room : Nat) : Int), .func (.func 26) #[] #[]] 90, .row (svp) 92 2 (List.length ((putI room ([] : List PairI) key 1099511627776).1)) (List.flatMap pairLI ((putI room ([] : List PairI) key 1099511627776).1))]) (fun _ => .tuple #[.int .i64 ((putI room ([] : List PairI) key 1099511627776).2.1), .bool ((putI room ([] : List PairI) key 1099511627776).2.2)]) (H.pick [0, 1] _ (by decide) (by kernel_rfl)) (fun h => Put_I key 1099511627776 (by first | omega | exact Nat.zero_le _) (by first | omega | exact Nat.zero_le _) (by omega) _ h)) ?_
      rintro _ v3 ⟨svp, rfl, H'⟩
      refine ⟨_, rfl, ?_⟩
      clear H
      have H : Hs [] w0 _ [.blk t #[svp, .int .i64 ((room : Nat) : Int), .func (.func 26) #[] #[]] 90, .row (svp) 92 2 (List.length ((putI room ([] : List PairI) key 1099511627776).1)) (List.flatMap pairLI ((putI room ([] : List PairI) key 1099511627776).1))] := H'
      clear H'
      refine x_nil ?_
      refine x_then ?_
      refine x_seq ?_
      refine x_seq ?_
      refine x_region ?_
      refine x_val (.slice ad nA cA) (by kernel_rfl) rfl (by kernel_rfl) ?_
      refine x_val (.int .i64 ((nA : Nat) : Int)) (by kernel_rfl) rfl (by kernel_rfl) ?_
      refine x_val (.int .i64 0) (by kernel_rfl) rfl (by kernel_rfl) ?_
      refine x_nil ?_
      refine x_frame' { tmps := #[.int .i64 ((room : Nat) : Int), .slice ad nA cA, .int .i64 key, undef, undef, undef, .bool false, .pointer (some ⟨t, 0, none⟩), .int .i64 0, undef, undef, undef, undef, .bool true, .bool false, .tuple #[.pointer (some ⟨t, 0, none⟩), .int .i64 0], .int .i64 ((room : Nat) : Int), .tuple #[.pointer (some ⟨t, 0, none⟩), .int .i64 0], .pointer (some ⟨t, 0, none⟩), .int .i64 0, .int .i64 0, .bool false, .bool false, .pointer (some ⟨t, 0, none⟩), .bool false, .bool false, .bool false, .int .i64 ((room : Nat) : Int), .bool false, .bool false, .bool false, .slice ad nA cA, .int .i64 ((nA : Nat) : Int), .bool false, .bool false, .pointer (some ⟨t, 0, none⟩), .int .i64 key, .tuple #[.int .i64 ((putI room ([] : List PairI) key 1099511627776).2.1), .bool ((putI room ([] : List PairI) key 1099511627776).2.2)], .slice ad nA cA, .int .i64 ((nA : Nat) : Int), .int .i64 0, undef, undef, undef, undef, undef, undef, undef, undef, undef, undef, undef, undef, undef, undef, undef, undef, undef, undef, undef, undef, undef, undef, undef, undef, undef, undef, undef, undef, undef, undef, undef, undef, undef, undef], defers := [] } (by kernel_rfl) ?_
      refine x_then ?_
      refine x_block ?_
      replace H := H.pick [0, 1] [.blk t #[svp, .int .i64 ((room : Nat) : Int), .func (.func 26) #[] #[]] 90, .row (svp) 92 2 (List.length ((putI room ([] : List PairI) key 1099511627776).1)) (List.flatMap pairLI ((putI room ([] : List PairI) key 1099511627776).1))] (by decide) (by kernel_rfl)
      refine x_loop (G := Nat × Value × List PairI) (fun gh a w' => match gh with | (k, sv, xs) => ∃ uf1 : Nat → Value, a = { tmps := #[.int .i64 ((room : Nat) : Int), .slice ad nA cA, .int .i64 key, undef, undef, undef, (uf1 0), .pointer (some ⟨t, 0, none⟩), .int .i64 0, undef, (uf1 1), (uf1 2), (uf1 3), .bool true, .bool false, .tuple #[.pointer (some ⟨t, 0, none⟩), .int .i64 0], .int .i64 ((room : Nat) : Int), .tuple #[.pointer (some ⟨t, 0, none⟩), .int .i64 0], .pointer (some ⟨t, 0, none⟩), .int .i64 0, .int .i64 0, .bool false, .bool false, .pointer (some ⟨t, 0, none⟩), .bool false, .bool false, .bool false, .int .i64 ((room : Nat) : Int), .bool false, .bool false, .bool false, .slice ad nA cA, .int .i64 ((nA : Nat) : Int), .bool false, .bool false, .pointer (some ⟨t, 0, none⟩), .int .i64 key, .tuple #[.int .i64 ((putI room ([] : List PairI) key 1099511627776).2.1), .bool ((putI room ([] : List PairI) key 1099511627776).2.2)], .slice ad nA cA, .int .i64 ((nA : Nat) : Int), .int .i64 ((k : Nat) : Int), (uf1 4), (uf1 5), (uf1 6), (uf1 7), (uf1 8), (uf1 9), (uf1 10), (uf1 11), (uf1 12), (uf1 13), (uf1 14), (uf1 15), (uf1 16), (uf1 17), (uf1 18), (uf1 19), (uf1 20), (uf1 21), (uf1 22), (uf1 23), (uf1 24), (uf1 25), (uf1 26), (uf1 27), (uf1 28), (uf1 29), (uf1 30), (uf1 31), (uf1 32), (uf1 33), (uf1 34), (uf1 35), (uf1 36), (uf1 37)], defers := [] } ∧ Hs [] w0 w' [.blk t #[sv, .int .i64 ((room : Nat) : Int), .func (.func 26) #[] #[]] 90, .row (sv) 92 2 (List.length xs) (List.flatMap pairLI xs)] ∧ (k ≤ nA) ∧ (Heavy key xs) ∧ (xs.length ≤ room)) (fun gh => match gh with | (k, sv, xs) => nA - k) (0, svp, ((putI room ([] : List PairI) key 1099511627776).1)) ⟨(nthV [.bool false, undef, undef, undef, undef, undef, undef, undef, undef, undef, undef, undef, undef, undef, undef, undef, undef, undef, undef, undef, undef, undef, undef, undef, undef, undef, undef, undef, undef, undef, undef, undef, undef, undef, undef, undef, undef, undef]), (by kernel_rfl), H, (Nat.zero_le _), (by rw [put_nil (by omega)]; exact Heavy.first key), (by rw [put_nil (by omega)]; simp; omega)⟩ ?_
      clear H
      rintro ⟨k, sv, xs⟩ _ v4 ⟨uf1, rfl, H, r1, r2, r3⟩
      have e2 := r2
      refine x_seq ?_
      refine x_region ?_
      refine x_val (.bool (decide (((k : Nat) : Int) < ((nA : Nat) : Int)))) (by kernel_rfl) rfl (by kernel_rfl) ?_
      refine x_nil ?_
      refine x_then ?_
      refine x_seq ?_
      cases h3 : decide (((k : Nat) : Int) < ((nA : Nat) : Int))
      · skip
        have h3p := of_decide_eq_false h3
        refine x_f (by kernel_rfl) ?_
        refine x_exit ?_
        refine x_then_exit ?_
        refine x_then_exit ?_
        refine x_blk_exit ?_
        refine x_then ?_
        refine x_seq ?_
        refine x_region ?_
        refine x_val (.bool true) (by kernel_rfl) rfl (by kernel_rfl) ?_
        refine x_nil ?_
        refine x_then ?_
        refine x_retc ?_
        refine x_ret (.bool true) (by kernel_rfl) (by kernel_rfl) ?_
        exact ⟨rfl, H.below⟩
      · skip
        have h3p := of_decide_eq_true h3
        refine x_t (by kernel_rfl) ?_
        refine x_skipc ?_
        refine x_then ?_
        refine x_seq ?_
        refine x_block ?_
        refine x_seq ?_
        refine x_region ?_
        obtain ⟨ga, oa, had, hcell⟩ := hA (by omega)
        refine x_ixO (t := 67) had k nA cA 69 3 (oa + k * 3) (by omega) (by omega) (by kernel_rfl) (by kernel_rfl) (by kernel_rfl) rfl (by kernel_rfl) ?_
        refine x_loadcn (t := 69) ga (oa + k * 3) [.int .i64 ((l.getD k (0, 0, 0)).1), .int .i64 ((l.getD k (0, 0, 0)).2.1), .int .i64 ((l.getD k (0, 0, 0)).2.2)] (hcell _ H.below k (by omega)) (by kernel_rfl) rfl (by kernel_rfl) (by kernel_rfl) ?_
        refine x_box H #[.int .i64 0, .int .i64 0, .int .i64 0] 69 (by kernel_rfl) rfl (by kernel_rfl) ?_
        clear H
        intro v5 g1 H
        refine x_store (t := 69) (v := .agg #[.int .i64 ((l.getD k (0, 0, 0)).1), .int .i64 ((l.getD k (0, 0, 0)).2.1), .int .i64 ((l.getD k (0, 0, 0)).2.2)]) H 0 g1 0 #[.int .i64 0, .int .i64 0, .int .i64 0] #[.int .i64 ((l.getD k (0, 0, 0)).1), .int .i64 ((l.getD k (0, 0, 0)).2.1), .int .i64 ((l.getD k (0, 0, 0)).2.2)] 69 [.int .i64 ((l.getD k (0, 0, 0)).1), .int .i64 ((l.getD k (0, 0, 0)).2.1), .int .i64 ((l.getD k (0, 0, 0)).2.2)] [.blk g1 #[.int .i64 ((l.getD k (0, 0, 0)).1), .int .i64 ((l.getD k (0, 0, 0)).2.1), .int .i64 ((l.getD k (0, 0, 0)).2.2)] 69, .blk t #[sv, .int .i64 ((room : Nat) : Int), .func (.func 26) #[] #[]] 90, .row (sv) 92 2 (List.length xs) (List.flatMap pairLI xs)] (by kernel_rfl) rfl (by kernel_rfl) (by kernel_rfl) (by kernel_rfl) (by kernel_rfl) (by kernel_rfl) (by kernel_rfl) (by kernel_rfl) (by kernel_rfl) ?_
        clear H
        intro v6 H
        refine x_nil ?_
        refine x_then ?_
        refine x_seq ?_
        refine x_seq ?_
        refine x_region ?_
        refine x_val (.pointer (some ⟨g1, 1, none⟩)) (by kernel_rfl) rfl (by kernel_rfl) ?_
        refine x_load1 H 0 g1 1 #[.int .i64 ((l.getD k (0, 0, 0)).1), .int .i64 ((l.getD k (0, 0, 0)).2.1), .int .i64 ((l.getD k (0, 0, 0)).2.2)] 69 (.int .i64 ((l.getD k (0, 0, 0)).2.1)) (by kernel_rfl) (by kernel_rfl) (by kernel_rfl) rfl (by kernel_rfl) ?_
        refine x_val (.int .i64 key) (by kernel_rfl) rfl (by kernel_rfl) ?_
        refine x_val (.bool (decide (((l.getD k (0, 0, 0)).2.1) = key))) (by kernel_rfl) rfl (by kernel_rfl) ?_
        refine x_val (.bool (decide (((l.getD k (0, 0, 0)).2.1) = key))) (by kernel_rfl) rfl (by kernel_rfl) ?_
        cases h4 : decide (((l.getD k (0, 0, 0)).2.1) = key)
        · skip
          have h4p := of_decide_eq_false h4
          refine x_val (.pointer (some ⟨g1, 2, none⟩)) (by kernel_rfl) rfl (by kernel_rfl) ?_
          refine x_load1 H 0 g1 2 #[.int .i64 ((l.getD k (0, 0, 0)).1), .int .i64 ((l.getD k (0, 0, 0)).2.1), .int .i64 ((l.getD k (0, 0, 0)).2.2)] 69 (.int .i64 ((l.getD k (0, 0, 0)).2.2)) (by kernel_rfl) (by kernel_rfl) (by kernel_rfl) rfl (by kernel_rfl) ?_
          refine x_val (.bool (decide (1099511627776 ≤ ((l.getD k (0, 0, 0)).2.2)))) (by kernel_rfl) rfl (by kernel_rfl) ?_
          refine x_val (.bool (decide (1099511627776 ≤ ((l.getD k (0, 0, 0)).2.2)))) (by kernel_rfl) rfl (by kernel_rfl) ?_
          refine x_val (.bool (decide (1099511627776 ≤ ((l.getD k (0, 0, 0)).2.2)))) (by kernel_rfl) rfl (by kernel_rfl) ?_
          cases h5 : decide (1099511627776 ≤ ((l.getD k (0, 0, 0)).2.2))
          · skip
            have h5p := of_decide_eq_false h5
            refine x_val (.pointer (some ⟨g1, 0, none⟩)) (by kernel_rfl) rfl (by kernel_rfl) ?_
            refine x_load1 H 0 g1 0 #[.int .i64 ((l.getD k (0, 0, 0)).1), .int .i64 ((l.getD k (0, 0, 0)).2.1), .int .i64 ((l.getD k (0, 0, 0)).2.2)] 69 (.int .i64 ((l.getD k (0, 0, 0)).1)) (by kernel_rfl) (by kernel_rfl) (by kernel_rfl) rfl (by kernel_rfl) ?_
            refine x_val (.bool (decide (((l.getD k (0, 0, 0)).1) = 3))) (by kernel_rfl) rfl (by kernel_rfl) ?_
            refine x_val (.bool (decide (((l.getD k (0, 0, 0)).1) = 3))) (by kernel_rfl) rfl (by kernel_rfl) ?_
            refine x_nil ?_
            refine x_then ?_
            cases h6 : decide (((l.getD k (0, 0, 0)).1) = 3)
            · skip
              have h6p := of_decide_eq_false h6
              refine x_f (by kernel_rfl) ?_
              refine x_skipc ?_
              refine x_then ?_
              refine x_seq ?_
              refine x_region ?_
              refine x_val (.pointer (some ⟨t, 0, none⟩)) (by kernel_rfl) rfl (by kernel_rfl) ?_
              refine x_val (.int .i64 ((room : Nat) : Int)) (by kernel_rfl) rfl (by kernel_rfl) ?_
              refine x_loadn (t := 69) H 0 g1 0 #[.int .i64 ((l.getD k (0, 0, 0)).1), .int .i64 ((l.getD k (0, 0, 0)).2.1), .int .i64 ((l.getD k (0, 0, 0)).2.2)] 69 [.int .i64 ((l.getD k (0, 0, 0)).1), .int .i64 ((l.getD k (0, 0, 0)).2.1), .int .i64 ((l.getD k (0, 0, 0)).2.2)] (by kernel_rfl) (by kernel_rfl) (by kernel_rfl) rfl (by kernel_rfl) (by kernel_rfl) ?_
              cases h7 : decide (((l.getD k (0, 0, 0)).1) = 1)
              · skip
                have h7p := of_decide_eq_false h7
                cases h8 : decide (((l.getD k (0, 0, 0)).1) = 2)
                · skip
                  have h8p := of_decide_eq_false h8
                  refine x_call (by kernel_rfl) rfl (by kernel_rfl) (Hs.useE (S := Value × Value × Bool) (A := [.blk t #[sv, .int .i64 ((room : Nat) : Int), .func (.func 26) #[] #[]] 90, .row (sv) 92 2 (List.length xs) (List.flatMap pairLI xs)]) (R := [.blk g1 #[.int .i64 ((l.getD k (0, 0, 0)).1), .int .i64 ((l.getD k (0, 0, 0)).2.1), .int .i64 ((l.getD k (0, 0, 0)).2.2)] 69]) (fun z => [.blk t #[z.1, .int .i64 ((room : Nat) : Int), .func (.func 26) #[] #[]] 90, .row (z.1) 92 2 (List.length xs) (List.flatMap pairLI xs)]) (fun z => .tuple #[z.2.1, .bool z.2.2]) (H.pick [1, 2, 0] _ (by decide) (by kernel_rfl)) (fun h => (step_none ((l.getD k (0, 0, 0)).1) ((l.getD k (0, 0, 0)).2.1) ((l.getD k (0, 0, 0)).2.2) (by omega) (by omega) (by omega) h7 h8 h6 _ h).mono (fun e w' ⟨s', u, bb, q1, q2⟩ => ⟨(s', u, bb), q1, q2⟩))) ?_
                  rintro _ v7 ⟨⟨svs, us, bs⟩, rfl, H'⟩
                  refine ⟨_, rfl, ?_⟩
                  clear H
                  have H : Hs [] w0 _ [.blk t #[svs, .int .i64 ((room : Nat) : Int), .func (.func 26) #[] #[]] 90, .row (svs) 92 2 (List.length xs) (List.flatMap pairLI xs), .blk g1 #[.int .i64 ((l.getD k (0, 0, 0)).1), .int .i64 ((l.getD k (0, 0, 0)).2.1), .int .i64 ((l.getD k (0, 0, 0)).2.2)] 69] := H'
                  clear H'
                  refine x_nil ?_
                  refine x_then ?_
                  refine x_seq ?_
                  refine x_region ?_
                  refine x_val (.pointer (some ⟨t, 0, none⟩)) (by kernel_rfl) rfl (by kernel_rfl) ?_
                  refine x_val (.int .i64 key) (by kernel_rfl) rfl (by kernel_rfl) ?_
                  have hHv : Heavy key xs ∧ (xs).length ≤ room := ⟨e2, by omega⟩
                  have hf := hHv.1.find
                  have hf2 := hHv.2
                  refine x_callB (.tuple #[.int .i64 1099511627776, .bool true]) H (by kernel_rfl) rfl (by kernel_rfl) (by have h := Get_yes (room := room) key (by omega) hf.1 _ (H.roOf [0, 1] [.blk t #[svs, .int .i64 ((room : Nat) : Int), .func (.func 26) #[] #[]] 90, .row (svs) 92 2 (List.length xs) (List.flatMap pairLI xs)] (by kernel_rfl)); rw [hf.2] at h; exact h) ?_
                  clear H
                  intro v8 H
                  refine x_val (.tuple #[.int .i64 1099511627776, .bool true]) (by kernel_rfl) rfl (by kernel_rfl) ?_
                  refine x_val (.int .i64 1099511627776) (by kernel_rfl) rfl (by kernel_rfl) ?_
                  refine x_val (.bool true) (by kernel_rfl) rfl (by kernel_rfl) ?_
                  refine x_val (.int .i64 1099511627776) (by kernel_rfl) rfl (by kernel_rfl) ?_
                  refine x_val (.bool true) (by kernel_rfl) rfl (by kernel_rfl) ?_
                  refine x_nil ?_
                  refine x_frame' { tmps := #[.int .i64 ((room : Nat) : Int), .slice ad nA cA, .int .i64 key, undef, undef, undef, (uf1 0), .pointer (some ⟨t, 0, none⟩), .int .i64 0, undef, .pointer (some ⟨g1, 0, none⟩), .int .i64 1099511627776, .bool true, .bool true, .bool false, .tuple #[.pointer (some ⟨t, 0, none⟩), .int .i64 0], .int .i64 ((room : Nat) : Int), .tuple #[.pointer (some ⟨t, 0, none⟩), .int .i64 0], .pointer (some ⟨t, 0, none⟩), .int .i64 0, .int .i64 0, .bool false, .bool false, .pointer (some ⟨t, 0, none⟩), .bool false, .bool false, .bool false, .int .i64 ((room : Nat) : Int), .bool false, .bool false, .bool false, .slice ad nA cA, .int .i64 ((nA : Nat) : Int), .bool false, .bool false, .pointer (some ⟨t, 0, none⟩), .int .i64 key, .tuple #[.int .i64 ((putI room ([] : List PairI) key 1099511627776).2.1), .bool ((putI room ([] : List PairI) key 1099511627776).2.2)], .slice ad nA cA, .int .i64 ((nA : Nat) : Int), .int .i64 ((k : Nat) : Int), .bool true, .pointer (some ⟨ga, oa + k * 3, none⟩), .agg #[.int .i64 ((l.getD k (0, 0, 0)).1), .int .i64 ((l.getD k (0, 0, 0)).2.1), .int .i64 ((l.getD k (0, 0, 0)).2.2)], .pointer (some ⟨g1, 1, none⟩), .int .i64 ((l.getD k (0, 0, 0)).2.1), .int .i64 key, .bool false, .bool false, .pointer (some ⟨g1, 2, none⟩), .int .i64 ((l.getD k (0, 0, 0)).2.2), .bool false, .bool false, .bool false, .pointer (some ⟨g1, 0, none⟩), .int .i64 ((l.getD k (0, 0, 0)).1), .bool false, .bool false, .pointer (some ⟨t, 0, none⟩), .int .i64 ((room : Nat) : Int), .agg #[.int .i64 ((l.getD k (0, 0, 0)).1), .int .i64 ((l.getD k (0, 0, 0)).2.1), .int .i64 ((l.getD k (0, 0, 0)).2.2)], .tuple #[us, .bool bs], .tuple #[.int .i64 1099511627776, .bool true], .pointer (some ⟨t, 0, none⟩), .int .i64 key, .tuple #[.int .i64 1099511627776, .bool true], .int .i64 1099511627776, .bool true, (uf1 31), (uf1 32), (uf1 33), (uf1 34), (uf1 35), (uf1 36), (uf1 37)], defers := [] } (by kernel_rfl) ?_
                  refine x_then ?_
                  refine x_seq ?_
                  refine x_region ?_
                  refine x_val (.int .i64 1099511627776) (by kernel_rfl) rfl (by kernel_rfl) ?_
                  refine x_val (.bool false) (by kernel_rfl) rfl (by kernel_rfl) ?_
                  refine x_val (.bool false) (by kernel_rfl) rfl (by kernel_rfl) ?_
                  refine x_val (.bool true) (by kernel_rfl) rfl (by kernel_rfl) ?_
                  refine x_val (.bool false) (by kernel_rfl) rfl (by kernel_rfl) ?_
                  refine x_val (.bool false) (by kernel_rfl) rfl (by kernel_rfl) ?_
                  refine x_nil ?_
                  refine x_then ?_
                  refine x_f (by kernel_rfl) ?_
                  refine x_skipc ?_
                  refine x_blk ?_
                  refine x_then ?_
                  refine x_region ?_
                  refine x_ar (((k : Nat) : Int) + 1) ⟨by omega, by omega⟩ (by kernel_rfl) rfl (by kernel_rfl) ?_
                  refine x_val (.int .i64 (((k : Nat) : Int) + 1)) (by kernel_rfl) rfl (by kernel_rfl) ?_
                  refine x_nil ?_
                  refine x_then ?_
                  replace H := H.pick [0, 1] [.blk t #[svs, .int .i64 ((room : Nat) : Int), .func (.func 26) #[] #[]] 90, .row (svs) 92 2 (List.length xs) (List.flatMap pairLI xs)] (by decide) (by kernel_rfl)
                  exact ⟨(k + 1, svs, xs), (by dsimp only; omega), (nthV [(uf1 0), .pointer (some ⟨g1, 0, none⟩), .int .i64 1099511627776, .bool true, .bool true, .pointer (some ⟨ga, oa + k * 3, none⟩), .agg #[.int .i64 ((l.getD k (0, 0, 0)).1), .int .i64 ((l.getD k (0, 0, 0)).2.1), .int .i64 ((l.getD k (0, 0, 0)).2.2)], .pointer (some ⟨g1, 1, none⟩), .int .i64 ((l.getD k (0, 0, 0)).2.1), .int .i64 key, .bool false, .bool false, .pointer (some ⟨g1, 2, none⟩), .int .i64 ((l.getD k (0, 0, 0)).2.2), .bool false, .bool false, .bool false, .pointer (some ⟨g1, 0, none⟩), .int .i64 ((l.getD k (0, 0, 0)).1), .bool false, .bool false, .pointer (some ⟨t, 0, none⟩), .int .i64 ((room : Nat) : Int), .agg #[.int .i64 ((l.getD k (0, 0, 0)).1), .int .i64 ((l.getD k (0, 0, 0)).2.1), .int .i64 ((l.getD k (0, 0, 0)).2.2)], .tuple #[us, .bool bs], .tuple #[.int .i64 1099511627776, .bool true], .pointer (some ⟨t, 0, none⟩), .int .i64 key, .tuple #[.int .i64 1099511627776, .bool true], .int .i64 1099511627776, .bool true, .int .i64 1099511627776, .bool false, .bool false, .bool true, .bool false, .bool false, .int .i64 (((k : Nat) : Int) + 1)]), (by kernel_rfl), H, (by omega), hHv.1, hHv.2⟩
                · skip
                  have h8p := of_decide_eq_true h8
                  refine x_call (by kernel_rfl) rfl (by kernel_rfl) (Hs.useE (S := Value × Value × Bool) (A := [.blk t #[sv, .int .i64 ((room : Nat) : Int), .func (.func 26) #[] #[]] 90, .row (sv) 92 2 (List.length xs) (List.flatMap pairLI xs)]) (R := [.blk g1 #[.int .i64 ((l.getD k (0, 0, 0)).1), .int .i64 ((l.getD k (0, 0, 0)).2.1), .int .i64 ((l.getD k (0, 0, 0)).2.2)] 69]) (fun z => [.blk t #[z.1, .int .i64 ((room : Nat) : Int), .func (.func 26) #[] #[]] 90, .row (z.1) 92 2 (List.length (dropI xs ((l.getD k (0, 0, 0)).2.1))) (List.flatMap pairLI (dropI xs ((l.getD k (0, 0, 0)).2.1)))]) (fun z => .tuple #[z.2.1, .bool z.2.2]) (H.pick [1, 2, 0] _ (by decide) (by kernel_rfl)) (fun h => (step_drop ((l.getD k (0, 0, 0)).1) ((l.getD k (0, 0, 0)).2.1) ((l.getD k (0, 0, 0)).2.2) (by omega) (by omega) (by omega) h7 h8 _ h).mono (fun e w' ⟨s', u, bb, q1, q2⟩ => ⟨(s', u, bb), q1, q2⟩))) ?_
                  rintro _ v9 ⟨⟨svs, us, bs⟩, rfl, H'⟩
                  refine ⟨_, rfl, ?_⟩
                  clear H
                  have H : Hs [] w0 _ [.blk t #[svs, .int .i64 ((room : Nat) : Int), .func (.func 26) #[] #[]] 90, .row (svs) 92 2 (List.length (dropI xs ((l.getD k (0, 0, 0)).2.1))) (List.flatMap pairLI (dropI xs ((l.getD k (0, 0, 0)).2.1))), .blk g1 #[.int .i64 ((l.getD k (0, 0, 0)).1), .int .i64 ((l.getD k (0, 0, 0)).2.1), .int .i64 ((l.getD k (0, 0, 0)).2.2)] 69] := H'
                  clear H'
                  refine x_nil ?_
                  refine x_then ?_
                  refine x_seq ?_
                  refine x_region ?_
                  refine x_val (.pointer (some ⟨t, 0, none⟩)) (by kernel_rfl) rfl (by kernel_rfl) ?_
                  refine x_val (.int .i64 key) (by kernel_rfl) rfl (by kernel_rfl) ?_
                  have hHv : Heavy key (dropI xs ((l.getD k (0, 0, 0)).2.1)) ∧ ((dropI xs ((l.getD k (0, 0, 0)).2.1))).length ≤ room := (heavy_drop e2 (by omega) h4p)
                  have hf := hHv.1.find
                  have hf2 := hHv.2
                  refine x_callB (.tuple #[.int .i64 1099511627776, .bool true]) H (by kernel_rfl) rfl (by kernel_rfl) (by have h := Get_yes (room := room) key (by omega) hf.1 _ (H.roOf [0, 1] [.blk t #[svs, .int .i64 ((room : Nat) : Int), .func (.func 26) #[] #[]] 90, .row (svs) 92 2 (List.length (dropI xs ((l.getD k (0, 0, 0)).2.1))) (List.flatMap pairLI (dropI xs ((l.getD k (0, 0, 0)).2.1)))] (by kernel_rfl)); rw [hf.2] at h; exact h) ?_
                  clear H
                  intro v10 H
                  refine x_val (.tuple #[.int .i64 1099511627776, .bool true]) (by kernel_rfl) rfl (by kernel_rfl) ?_
                  refine x_val (.int .i64 1099511627776) (by kernel_rfl) rfl (by kernel_rfl) ?_
                  refine x_val (.bool true) (by kernel_rfl) rfl (by kernel_rfl) ?_
                  refine x_val (.int .i64 1099511627776) (by kernel_rfl) rfl (by kernel_rfl) ?_
                  refine x_val (.bool true) (by kernel_rfl) rfl (by kernel_rfl) ?_
                  refine x_nil ?_
                  refine x_frame' { tmps := #[.int .i64 ((room : Nat) : Int), .slice ad nA cA, .int .i64 key, undef, undef, undef, (uf1 0), .pointer (some ⟨t, 0, none⟩), .int .i64 0, undef, .pointer (some ⟨g1, 0, none⟩), .int .i64 1099511627776, .bool true, .bool true, .bool false, .tuple #[.pointer (some ⟨t, 0, none⟩), .int .i64 0], .int .i64 ((room : Nat) : Int), .tuple #[.pointer (some ⟨t, 0, none⟩), .int .i64 0], .pointer (some ⟨t, 0, none⟩), .int .i64 0, .int .i64 0, .bool false, .bool false, .pointer (some ⟨t, 0, none⟩), .bool false, .bool false, .bool false, .int .i64 ((room : Nat) : Int), .bool false, .bool false, .bool false, .slice ad nA cA, .int .i64 ((nA : Nat) : Int), .bool false, .bool false, .pointer (some ⟨t, 0, none⟩), .int .i64 key, .tuple #[.int .i64 ((putI room ([] : List PairI) key 1099511627776).2.1), .bool ((putI room ([] : List PairI) key 1099511627776).2.2)], .slice ad nA cA, .int .i64 ((nA : Nat) : Int), .int .i64 ((k : Nat) : Int), .bool true, .pointer (some ⟨ga, oa + k * 3, none⟩), .agg #[.int .i64 ((l.getD k (0, 0, 0)).1), .int .i64 ((l.getD k (0, 0, 0)).2.1), .int .i64 ((l.getD k (0, 0, 0)).2.2)], .pointer (some ⟨g1, 1, none⟩), .int .i64 ((l.getD k (0, 0, 0)).2.1), .int .i64 key, .bool false, .bool false, .pointer (some ⟨g1, 2, none⟩), .int .i64 ((l.getD k (0, 0, 0)).2.2), .bool false, .bool false, .bool false, .pointer (some ⟨g1, 0, none⟩), .int .i64 ((l.getD k (0, 0, 0)).1), .bool false, .bool false, .pointer (some ⟨t, 0, none⟩), .int .i64 ((room : Nat) : Int), .agg #[.int .i64 ((l.getD k (0, 0, 0)).1), .int .i64 ((l.getD k (0, 0, 0)).2.1), .int .i64 ((l.getD k (0, 0, 0)).2.2)], .tuple #[us, .bool bs], .tuple #[.int .i64 1099511627776, .bool true], .pointer (some ⟨t, 0, none⟩), .int .i64 key, .tuple #[.int .i64 1099511627776, .bool true], .int .i64 1099511627776, .bool true, (uf1 31), (uf1 32), (uf1 33), (uf1 34), (uf1 35), (uf1 36), (uf1 37)], defers := [] } (by kernel_rfl) ?_
                  refine x_then ?_
                  refine x_seq ?_
                  refine x_region ?_
                  refine x_val (.int .i64 1099511627776) (by kernel_rfl) rfl (by kernel_rfl) ?_
                  refine x_val (.bool false) (by kernel_rfl) rfl (by kernel_rfl) ?_
                  refine x_val (.bool false) (by kernel_rfl) rfl (by kernel_rfl) ?_
                  refine x_val (.bool true) (by kernel_rfl) rfl (by kernel_rfl) ?_
                  refine x_val (.bool false) (by kernel_rfl) rfl (by kernel_rfl) ?_
                  refine x_val (.bool false) (by kernel_rfl) rfl (by kernel_rfl) ?_
                  refine x_nil ?_
                  refine x_then ?_
                  refine x_f (by kernel_rfl) ?_
                  refine x_skipc ?_
                  refine x_blk ?_
                  refine x_then ?_
                  refine x_region ?_
                  refine x_ar (((k : Nat) : Int) + 1) ⟨by omega, by omega⟩ (by kernel_rfl) rfl (by kernel_rfl) ?_
                  refine x_val (.int .i64 (((k : Nat) : Int) + 1)) (by kernel_rfl) rfl (by kernel_rfl) ?_
                  refine x_nil ?_
                  refine x_then ?_
                  replace H := H.pick [0, 1] [.blk t #[svs, .int .i64 ((room : Nat) : Int), .func (.func 26) #[] #[]] 90, .row (svs) 92 2 (List.length (dropI xs ((l.getD k (0, 0, 0)).2.1))) (List.flatMap pairLI (dropI xs ((l.getD k (0, 0, 0)).2.1)))] (by decide) (by kernel_rfl)
                  exact ⟨(k + 1, svs, (dropI xs ((l.getD k (0, 0, 0)).2.1))), (by dsimp only; omega), (nthV [(uf1 0), .pointer (some ⟨g1, 0, none⟩), .int .i64 1099511627776, .bool true, .bool true, .pointer (some ⟨ga, oa + k * 3, none⟩), .agg #[.int .i64 ((l.getD k (0, 0, 0)).1), .int .i64 ((l.getD k (0, 0, 0)).2.1), .int .i64 ((l.getD k (0, 0, 0)).2.2)], .pointer (some ⟨g1, 1, none⟩), .int .i64 ((l.getD k (0, 0, 0)).2.1), .int .i64 key, .bool false, .bool false, .pointer (some ⟨g1, 2, none⟩), .int .i64 ((l.getD k (0, 0, 0)).2.2), .bool false, .bool false, .bool false, .pointer (some ⟨g1, 0, none⟩), .int .i64 ((l.getD k (0, 0, 0)).1), .bool false, .bool false, .pointer (some ⟨t, 0, none⟩), .int .i64 ((room : Nat) : Int), .agg #[.int .i64 ((l.getD k (0, 0, 0)).1), .int .i64 ((l.getD k (0, 0, 0)).2.1), .int .i64 ((l.getD k (0, 0, 0)).2.2)], .tuple #[us, .bool bs], .tuple #[.int .i64 1099511627776, .bool true], .pointer (some ⟨t, 0, none⟩), .int .i64 key, .tuple #[.int .i64 1099511627776, .bool true], .int .i64 1099511627776, .bool true, .int .i64 1099511627776, .bool false, .bool false, .bool true, .bool false, .bool false, .int .i64 (((k : Nat) : Int) + 1)]), (by kernel_rfl), H, (by omega), hHv.1, hHv.2⟩
              · skip
                have h7p := of_decide_eq_true h7
                refine x_call (by kernel_rfl) rfl (by kernel_rfl) (Hs.useE (S := Value × Value × Bool) (A := [.blk t #[sv, .int .i64 ((room : Nat) : Int), .func (.func 26) #[] #[]] 90, .row (sv) 92 2 (List.length xs) (List.flatMap pairLI xs)]) (R := [.blk g1 #[.int .i64 ((l.getD k (0, 0, 0)).1), .int .i64 ((l.getD k (0, 0, 0)).2.1), .int .i64 ((l.getD k (0, 0, 0)).2.2)] 69]) (fun z => [.blk t #[z.1, .int .i64 ((room : Nat) : Int), .func (.func 26) #[] #[]] 90, .row (z.1) 92 2 (List.length ((putI room xs ((l.getD k (0, 0, 0)).2.1) ((l.getD k (0, 0, 0)).2.2)).1)) (List.flatMap pairLI ((putI room xs ((l.getD k (0, 0, 0)).2.1) ((l.getD k (0, 0, 0)).2.2)).1))]) (fun z => .tuple #[z.2.1, .bool z.2.2]) (H.pick [1, 2, 0] _ (by decide) (by kernel_rfl)) (fun h => (step_put ((l.getD k (0, 0, 0)).1) ((l.getD k (0, 0, 0)).2.1) ((l.getD k (0, 0, 0)).2.2) (by omega) (by omega) (by omega) h7 _ h).mono (fun e w' ⟨s', u, bb, q1, q2⟩ => ⟨(s', u, bb), q1, q2⟩))) ?_
                rintro _ v11 ⟨⟨svs, us, bs⟩, rfl, H'⟩
                refine ⟨_, rfl, ?_⟩
                clear H
                have H : Hs [] w0 _ [.blk t #[svs, .int .i64 ((room : Nat) : Int), .func (.func 26) #[] #[]] 90, .row (svs) 92 2 (List.length ((putI room xs ((l.getD k (0, 0, 0)).2.1) ((l.getD k (0, 0, 0)).2.2)).1)) (List.flatMap pairLI ((putI room xs ((l.getD k (0, 0, 0)).2.1) ((l.getD k (0, 0, 0)).2.2)).1)), .blk g1 #[.int .i64 ((l.getD k (0, 0, 0)).1), .int .i64 ((l.getD k (0, 0, 0)).2.1), .int .i64 ((l.getD k (0, 0, 0)).2.2)] 69] := H'
                clear H'
                refine x_nil ?_
                refine x_then ?_
                refine x_seq ?_
                refine x_region ?_
                refine x_val (.pointer (some ⟨t, 0, none⟩)) (by kernel_rfl) rfl (by kernel_rfl) ?_
                refine x_val (.int .i64 key) (by kernel_rfl) rfl (by kernel_rfl) ?_
                have hHv : Heavy key ((putI room xs ((l.getD k (0, 0, 0)).2.1) ((l.getD k (0, 0, 0)).2.2)).1) ∧ ((putI room xs ((l.getD k (0, 0, 0)).2.1) ((l.getD k (0, 0, 0)).2.2)).1).length ≤ room := (e2.put (by omega) (by omega) h4p (by show _ < (1099511627776 : Int); omega))
                have hf := hHv.1.find
                have hf2 := hHv.2
                refine x_callB (.tuple #[.int .i64 1099511627776, .bool true]) H (by kernel_rfl) rfl (by kernel_rfl) (by have h := Get_yes (room := room) key (by omega) hf.1 _ (H.roOf [0, 1] [.blk t #[svs, .int .i64 ((room : Nat) : Int), .func (.func 26) #[] #[]] 90, .row (svs) 92 2 (List.length ((putI room xs ((l.getD k (0, 0, 0)).2.1) ((l.getD k (0, 0, 0)).2.2)).1)) (List.flatMap pairLI ((putI room xs ((l.getD k (0, 0, 0)).2.1) ((l.getD k (0, 0, 0)).2.2)).1))] (by kernel_rfl)); rw [hf.2] at h; exact h) ?_
                clear H
                intro v12 H
                refine x_val (.tuple #[.int .i64 1099511627776, .bool true]) (by kernel_rfl) rfl (by kernel_rfl) ?_
                refine x_val (.int .i64 1099511627776) (by kernel_rfl) rfl (by kernel_rfl) ?_
                refine x_val (.bool true) (by kernel_rfl) rfl (by kernel_rfl) ?_
                refine x_val (.int .i64 1099511627776) (by kernel_rfl) rfl (by kernel_rfl) ?_
                refine x_val (.bool true) (by kernel_rfl) rfl (by kernel_rfl) ?_
                refine x_nil ?_
                refine x_frame' { tmps := #[.int .i64 ((room : Nat) : Int), .slice ad nA cA, .int .i64 key, undef, undef, undef, (uf1 0), .pointer (some ⟨t, 0, none⟩), .int .i64 0, undef, .pointer (some ⟨g1, 0, none⟩), .int .i64 1099511627776, .bool true, .bool true, .bool false, .tuple #[.pointer (some ⟨t, 0, none⟩), .int .i64 0], .int .i64 ((room : Nat) : Int), .tuple #[.pointer (some ⟨t, 0, none⟩), .int .i64 0], .pointer (some ⟨t, 0, none⟩), .int .i64 0, .int .i64 0, .bool false, .bool false, .pointer (some ⟨t, 0, none⟩), .bool false, .bool false, .bool false, .int .i64 ((room : Nat) : Int), .bool false, .bool false, .bool false, .slice ad nA cA, .int .i64 ((nA : Nat) : Int), .bool false, .bool false, .pointer (some ⟨t, 0, none⟩), .int .i64 key, .tuple #[.int .i64 ((putI room ([] : List PairI) key 1099511627776).2.1), .bool ((putI room ([] : List PairI) key 1099511627776).2.2)], .slice ad nA cA, .int .i64 ((nA : Nat) : Int), .int .i64 ((k : Nat) : Int), .bool true, .pointer (some ⟨ga, oa + k * 3, none⟩), .agg #[.int .i64 ((l.getD k (0, 0, 0)).1), .int .i64 ((l.getD k (0, 0, 0)).2.1), .int .i64 ((l.getD k (0, 0, 0)).2.2)], .pointer (some ⟨g1, 1, none⟩), .int .i64 ((l.getD k (0, 0, 0)).2.1), .int .i64 key, .bool false, .bool false, .pointer (some ⟨g1, 2, none⟩), .int .i64 ((l.getD k (0, 0, 0)).2.2), .bool false, .bool false, .bool false, .pointer (some ⟨g1, 0, none⟩), .int .i64 ((l.getD k (0, 0, 0)).1), .bool false, .bool false, .pointer (some ⟨t, 0, none⟩), .int .i64 ((room : Nat) : Int), .agg #[.int .i64 ((l.getD k (0, 0, 0)).1), .int .i64 ((l.getD k (0, 0, 0)).2.1), .int .i64 ((l.getD k (0, 0, 0)).2.2)], .tuple #[us, .bool bs], .tuple #[.int .i64 1099511627776, .bool true], .pointer (some ⟨t, 0, none⟩), .int .i64 key, .tuple #[.int .i64 1099511627776, .bool true], .int .i64 1099511627776, .bool true, (uf1 31), (uf1 32), (uf1 33), (uf1 34), (uf1 35), (uf1 36), (uf1 37)], defers := [] } (by kernel_rfl) ?_
                refine x_then ?_
                refine x_seq ?_
                refine x_region ?_
                refine x_val (.int .i64 1099511627776) (by kernel_rfl) rfl (by kernel_rfl) ?_
                refine x_val (.bool false) (by kernel_rfl) rfl (by kernel_rfl) ?_
                refine x_val (.bool false) (by kernel_rfl) rfl (by kernel_rfl) ?_
                refine x_val (.bool true) (by kernel_rfl) rfl (by kernel_rfl) ?_
                refine x_val (.bool false) (by kernel_rfl) rfl (by kernel_rfl) ?_
                refine x_val (.bool false) (by kernel_rfl) rfl (by kernel_rfl) ?_
                refine x_nil ?_
                refine x_then ?_
                refine x_f (by kernel_rfl) ?_
                refine x_skipc ?_
                refine x_blk ?_
                refine x_then ?_
                refine x_region ?_
                refine x_ar (((k : Nat) : Int) + 1) ⟨by omega, by omega⟩ (by kernel_rfl) rfl (by kernel_rfl) ?_
                refine x_val (.int .i64 (((k : Nat) : Int) + 1)) (by kernel_rfl) rfl (by kernel_rfl) ?_
                refine x_nil ?_
                refine x_then ?_
                replace H := H.pick [0, 1] [.blk t #[svs, .int .i64 ((room : Nat) : Int), .func (.func 26) #[] #[]] 90, .row (svs) 92 2 (List.length ((putI room xs ((l.getD k (0, 0, 0)).2.1) ((l.getD k (0, 0, 0)).2.2)).1)) (List.flatMap pairLI ((putI room xs ((l.getD k (0, 0, 0)).2.1) ((l.getD k (0, 0, 0)).2.2)).1))] (by decide) (by kernel_rfl)
                exact ⟨(k + 1, svs, ((putI room xs ((l.getD k (0, 0, 0)).2.1) ((l.getD k (0, 0, 0)).2.2)).1)), (by dsimp only; omega), (nthV [(uf1 0), .pointer (some ⟨g1, 0, none⟩), .int .i64 1099511627776, .bool true, .bool true, .pointer (some ⟨ga, oa + k * 3, none⟩), .agg #[.int .i64 ((l.getD k (0, 0, 0)).1), .int .i64 ((l.getD k (0, 0, 0)).2.1), .int .i64 ((l.getD k (0, 0, 0)).2.2)], .pointer (some ⟨g1, 1, none⟩), .int .i64 ((l.getD k (0, 0, 0)).2.1), .int .i64 key, .bool false, .bool false, .pointer (some ⟨g1, 2, none⟩), .int .i64 ((l.getD k (0, 0, 0)).2.2), .bool false, .bool false, .bool false, .pointer (some ⟨g1, 0, none⟩), .int .i64 ((l.getD k (0, 0, 0)).1), .bool false, .bool false, .pointer (some ⟨t, 0, none⟩), .int .i64 ((room : Nat) : Int), .agg #[.int .i64 ((l.getD k (0, 0, 0)).1), .int .i64 ((l.getD k (0, 0, 0)).2.1), .int .i64 ((l.getD k (0, 0, 0)).2.2)], .tuple #[us, .bool bs], .tuple #[.int .i64 1099511627776, .bool true], .pointer (some ⟨t, 0, none⟩), .int .i64 key, .tuple #[.int .i64 1099511627776, .bool true], .int .i64 1099511627776, .bool true, .int .i64 1099511627776, .bool false, .bool false, .bool true, .bool false, .bool false, .int .i64 (((k : Nat) : Int) + 1)]), (by kernel_rfl), H, (by omega), hHv.1, hHv.2⟩
            · skip
              have h6p := of_decide_eq_true h6
              refine x_t (by kernel_rfl) ?_
              refine x_exit ?_
              refine x_then_exit ?_
              refine x_blk_exit ?_
              refine x_then ?_
              refine x_region ?_
              refine x_ar (((k : Nat) : Int) + 1) ⟨by omega, by omega⟩ (by kernel_rfl) rfl (by kernel_rfl) ?_
              refine x_val (.int .i64 (((k : Nat) : Int) + 1)) (by kernel_rfl) rfl (by kernel_rfl) ?_
              refine x_nil ?_
              refine x_then ?_
              replace H := H.pick [1, 2] [.blk t #[sv, .int .i64 ((room : Nat) : Int), .func (.func 26) #[] #[]] 90, .row (sv) 92 2 (List.length xs) (List.flatMap pairLI xs)] (by decide) (by kernel_rfl)
              exact ⟨(k + 1, sv, xs), (by dsimp only; omega), (nthV [(uf1 0), .pointer (some ⟨g1, 0, none⟩), (uf1 2), (uf1 3), .bool true, .pointer (some ⟨ga, oa + k * 3, none⟩), .agg #[.int .i64 ((l.getD k (0, 0, 0)).1), .int .i64 ((l.getD k (0, 0, 0)).2.1), .int .i64 ((l.getD k (0, 0, 0)).2.2)], .pointer (some ⟨g1, 1, none⟩), .int .i64 ((l.getD k (0, 0, 0)).2.1), .int .i64 key, .bool false, .bool false, .pointer (some ⟨g1, 2, none⟩), .int .i64 ((l.getD k (0, 0, 0)).2.2), .bool false, .bool false, .bool false, .pointer (some ⟨g1, 0, none⟩), .int .i64 ((l.getD k (0, 0, 0)).1), .bool true, .bool true, (uf1 21), (uf1 22), (uf1 23), (uf1 24), (uf1 25), (uf1 26), (uf1 27), (uf1 28), (uf1 29), (uf1 30), (uf1 31), (uf1 32), (uf1 33), (uf1 34), (uf1 35), (uf1 36), .int .i64 (((k : Nat) : Int) + 1)]), (by kernel_rfl), H, (by omega), e2, r3⟩
          · skip
            have h5p := of_decide_eq_true h5
            refine x_skip (by kernel_rfl) ?_
            refine x_skip (by kernel_rfl) ?_
            refine x_skip (by kernel_rfl) ?_
            refine x_val (.bool true) (by kernel_rfl) rfl (by kernel_rfl) ?_
            refine x_nil ?_
            refine x_then ?_
            refine x_t (by kernel_rfl) ?_
            refine x_exit ?_
            refine x_then_exit ?_
            refine x_blk_exit ?_
            refine x_then ?_
            refine x_region ?_
            refine x_ar (((k : Nat) : Int) + 1) ⟨by omega, by omega⟩ (by kernel_rfl) rfl (by kernel_rfl) ?_
            refine x_val (.int .i64 (((k : Nat) : Int) + 1)) (by kernel_rfl) rfl (by kernel_rfl) ?_
            refine x_nil ?_
            refine x_then ?_
            replace H := H.pick [1, 2] [.blk t #[sv, .int .i64 ((room : Nat) : Int), .func (.func 26) #[] #[]] 90, .row (sv) 92 2 (List.length xs) (List.flatMap pairLI xs)] (by decide) (by kernel_rfl)
            exact ⟨(k + 1, sv, xs), (by dsimp only; omega), (nthV [(uf1 0), .pointer (some ⟨g1, 0, none⟩), (uf1 2), (uf1 3), .bool true, .pointer (some ⟨ga, oa + k * 3, none⟩), .agg #[.int .i64 ((l.getD k (0, 0, 0)).1), .int .i64 ((l.getD k (0, 0, 0)).2.1), .int .i64 ((l.getD k (0, 0, 0)).2.2)], .pointer (some ⟨g1, 1, none⟩), .int .i64 ((l.getD k (0, 0, 0)).2.1), .int .i64 key, .bool false, .bool false, .pointer (some ⟨g1, 2, none⟩), .int .i64 ((l.getD k (0, 0, 0)).2.2), .bool true, .bool true, .bool true, undef, undef, undef, .bool true, (uf1 21), (uf1 22), (uf1 23), (uf1 24), (uf1 25), (uf1 26), (uf1 27), (uf1 28), (uf1 29), (uf1 30), (uf1 31), (uf1 32), (uf1 33), (uf1 34), (uf1 35), (uf1 36), .int .i64 (((k : Nat) : Int) + 1)]), (by kernel_rfl), H, (by omega), e2, r3⟩
        · skip
          have h4p := of_decide_eq_true h4
          refine x_skip (by kernel_rfl) ?_
          refine x_skip (by kernel_rfl) ?_
          refine x_skip (by kernel_rfl) ?_
          refine x_val (.bool true) (by kernel_rfl) rfl (by kernel_rfl) ?_
          refine x_val (.bool true) (by kernel_rfl) rfl (by kernel_rfl) ?_
          refine x_skip (by kernel_rfl) ?_
          refine x_skip (by kernel_rfl) ?_
          refine x_skip (by kernel_rfl) ?_
          refine x_val (.bool true) (by kernel_rfl) rfl (by kernel_rfl) ?_
          refine x_nil ?_
          refine x_then ?_
          refine x_t (by kernel_rfl) ?_
          refine x_exit ?_
          refine x_then_exit ?_
          refine x_blk_exit ?_
          refine x_then ?_
          refine x_region ?_
          refine x_ar (((k : Nat) : Int) + 1) ⟨by omega, by omega⟩ (by kernel_rfl) rfl (by kernel_rfl) ?_
          refine x_val (.int .i64 (((k : Nat) : Int) + 1)) (by kernel_rfl) rfl (by kernel_rfl) ?_
          refine x_nil ?_
          refine x_then ?_
          replace H := H.pick [1, 2] [.blk t #[sv, .int .i64 ((room : Nat) : Int), .func (.func 26) #[] #[]] 90, .row (sv) 92 2 (List.length xs) (List.flatMap pairLI xs)] (by decide) (by kernel_rfl)
          exact ⟨(k + 1, sv, xs), (by dsimp only; omega), (nthV [(uf1 0), .pointer (some ⟨g1, 0, none⟩), (uf1 2), (uf1 3), .bool true, .pointer (some ⟨ga, oa + k * 3, none⟩), .agg #[.int .i64 ((l.getD k (0, 0, 0)).1), .int .i64 ((l.getD k (0, 0, 0)).2.1), .int .i64 ((l.getD k (0, 0, 0)).2.2)], .pointer (some ⟨g1, 1, none⟩), .int .i64 ((l.getD k (0, 0, 0)).2.1), .int .i64 key, .bool true, .bool true, undef, undef, undef, .bool true, .bool true, undef, undef, undef, .bool true, (uf1 21), (uf1 22), (uf1 23), (uf1 24), (uf1 25), (uf1 26), (uf1 27), (uf1 28), (uf1 29), (uf1 30), (uf1 31), (uf1 32), (uf1 33), (uf1 34), (uf1 35), (uf1 36), .int .i64 (((k : Nat) : Int) + 1)]), (by kernel_rfl), H, (by omega), e2, r3⟩
    · skip
      have h2p := of_decide_eq_true h2
      refine x_t (by kernel_rfl) ?_
      refine x_seq ?_
      refine x_region ?_
      refine x_val (.bool true) (by kernel_rfl) rfl (by kernel_rfl) ?_
      refine x_nil ?_
      refine x_then ?_
      refine x_retc ?_
      refine x_then_ret ?_
      refine x_ret (.bool true) (by kernel_rfl) (by kernel_rfl) ?_
      exact ⟨rfl, H.below⟩
  · skip
    have h1p := of_decide_eq_true h1
    refine x_skip (by kernel_rfl) ?_
    refine x_skip (by kernel_rfl) ?_
    refine x_skip (by kernel_rfl) ?_
    refine x_val (.bool true) (by kernel_rfl) rfl (by kernel_rfl) ?_
    refine x_nil ?_
    refine x_then ?_
    refine x_t (by kernel_rfl) ?_
    refine x_seq ?_
    refine x_region ?_
    refine x_val (.bool true) (by kernel_rfl) rfl (by kernel_rfl) ?_
    refine x_nil ?_
    refine x_then ?_
    refine x_retc ?_
    refine x_then_ret ?_
    refine x_ret (.bool true) (by kernel_rfl) (by kernel_rfl) ?_
    exact ⟨rfl, H.below⟩

end Go.Proofs.Ytpeefnbcgilihaa
