/- Contracts of a table of buckets: find, lightest, remove. -/
import Derived.Test.YtgpalgbdacoagaaPxE
import Derived.Test.YtgpalgbdacoagaaPxR
import Derived.Test.YtgpalgbdacoagaaOpenMix
namespace Go.Proofs.Ytgpalgbdacoagaa
open Go Go.RowKit
set_option linter.unusedVariables false
set_option linter.unusedSimpArgs false

set_option maxRecDepth 100000 in
set_option maxHeartbeats 4000000 in
theorem weigh_b (u v : Int) (w0 : World) :
    Calls Try.prog 103 #[.agg #[.int .i64 u, .int .i64 v]] w0 fun e w' => e = .returned (.int .i64 u) ∧ Below w0.heap.size w0 w' := by
  refine x_enter Try.func103 rfl #[.agg #[.int .i64 u, .int .i64 v], undef, undef, undef, undef] (by kernel_rfl) ?_
  have H := Hs.nil w0
  refine x_seq ?_
  refine x_region ?_
  refine x_box H #[.int .i64 u, .int .i64 v] 86 (by kernel_rfl) rfl (by kernel_rfl) ?_
  clear H
  intro v1 g1 H
  refine x_val (.int .i64 0) (by kernel_rfl) rfl (by kernel_rfl) ?_
  refine x_nil ?_
  refine x_then ?_
  refine x_seq ?_
  refine x_region ?_
  refine x_val (.pointer (some ⟨g1, 0, none⟩)) (by kernel_rfl) rfl (by kernel_rfl) ?_
  refine x_load1 H 0 g1 0 _ _ (.int .i64 u) rfl (by kernel_rfl) (by kernel_rfl) rfl (by kernel_rfl) ?_
  refine x_val (.int .i64 u) (by kernel_rfl) rfl (by kernel_rfl) ?_
  refine x_nil ?_
  refine x_then ?_
  refine x_retc ?_
  refine x_ret (.int .i64 u) (by kernel_rfl) (by kernel_rfl) ?_
  exact ⟨rfl, H.below⟩

abbrev PairB := Int × Int × Int
def pairLB (x : PairB) : List Value := [.int .i64 x.1, .int .i64 x.2.1, .int .i64 x.2.2]
theorem pairLenB (x : PairB) : (pairLB x).length = 3 := rfl
theorem pairOneB (x : PairB) : ∀ v ∈ pairLB x, v.oneCell' = true := fun v hv => by
  simp only [pairLB, List.mem_cons, List.not_mem_nil, or_false] at hv
  rcases hv with rfl | rfl | rfl <;> rfl
abbrev Buk := Int × Int
def bukL (x : Buk) : List Value := [.int .i64 x.1, .int .i64 x.2]
theorem bukLen (x : Buk) : (bukL x).length = 2 := rfl
theorem bukOne (x : Buk) : ∀ v ∈ bukL x, v.oneCell' = true := fun v hv => by
  simp only [bukL, List.mem_cons, List.not_mem_nil, or_false] at hv
  rcases hv with rfl | rfl <;> rfl
def eqkI (a b : Int) : Bool := decide (a = b)
/-- The place of a key. -/
def fkB (xs : List PairB) (k : Int) : Nat := xs.findIdx fun x => eqkI x.1 k
def findB (xs : List PairB) (k : Int) : Int := if fkB xs k < xs.length then ((fkB xs k : Nat) : Int) else -1
theorem fk_allB (xs : List PairB) (k : Int) : ∀ j, j < fkB xs k → eqkI (xs.getD j (0, 0, 0)).1 k = false := fun j hj => by
  have hl : j < xs.length := Nat.lt_of_lt_of_le hj List.findIdx_le_length
  have this : eqkI (xs[j]).1 k = false := by have q := List.not_of_lt_findIdx hj; simpa using q
  simp only [List.getD, List.getElem?_eq_getElem hl, Option.getD_some]
  exact this
theorem fk_atB (xs : List PairB) (k : Int) (h : fkB xs k < xs.length) : eqkI (xs.getD (fkB xs k) (0, 0, 0)).1 k = true := by
  have := List.findIdx_getElem (w := h)
  simp only [List.getD, List.getElem?_eq_getElem h, Option.getD_some]
  exact this
/-- The place of the first of the lightest, and its weight. -/
def ltB (xs : List PairB) : Nat → Nat × Int
  | 0 => (0, 0)
  | k + 1 => if k = 0 ∨ (xs.getD k (0, 0, 0)).2.1 < (ltB xs k).2 then (k, (xs.getD k (0, 0, 0)).2.1) else ltB xs k
theorem lt_ltB (xs : List PairB) : ∀ k, 0 < k → (ltB xs k).1 < k
  | 0, h => absurd h (Nat.lt_irrefl _)
  | 1, _ => by rw [ltB, if_pos (.inl rfl)]; show 0 < 1; exact Nat.zero_lt_one
  | k + 2, _ => by
    rw [ltB]
    split
    · show k + 1 < k + 2; omega
    · have := lt_ltB xs (k + 1) (by omega); omega

set_option maxRecDepth 100000 in
set_option maxHeartbeats 4000000 in
theorem find1_B (a u v key : Int) (q : Nat) (w0 : World) (hR : Ro w0 [.blk q #[.int .i64 key] 3]) :
    Calls Try.prog 175 #[.agg #[.int .i64 a, .int .i64 u, .int .i64 v], .pointer (some ⟨q, 0, none⟩)] w0 fun e w' => e = .returned (.bool (eqkI a key)) ∧ Below w0.heap.size w0 w' := by
  refine x_enter Try.func175 rfl #[.agg #[.int .i64 a, .int .i64 u, .int .i64 v], .pointer (some ⟨q, 0, none⟩), undef, undef, undef, undef, undef, undef] (by kernel_rfl) ?_
  have H := Hs.nil w0
  have R0 := hR
  refine x_seq ?_
  refine x_region ?_
  refine x_box H #[.int .i64 a, .int .i64 u, .int .i64 v] 230 (by kernel_rfl) rfl (by kernel_rfl) ?_
  clear H
  intro v1 g1 H
  refine x_val (.bool false) (by kernel_rfl) rfl (by kernel_rfl) ?_
  refine x_nil ?_
  refine x_then ?_
  refine x_seq ?_
  refine x_region ?_
  refine x_val (.pointer (some ⟨g1, 0, none⟩)) (by kernel_rfl) rfl (by kernel_rfl) ?_
  refine x_load1 H 0 g1 0 _ _ (.int .i64 a) rfl (by kernel_rfl) (by kernel_rfl) rfl (by kernel_rfl) ?_
  refine x_loadc q 0 (.int .i64 key) ((H.ro R0).cell 0 rfl 0 rfl) (by kernel_rfl) rfl (by kernel_rfl) ?_
  refine x_val (.bool (decide (a = key))) (by kernel_rfl) rfl (by kernel_rfl) ?_
  refine x_val (.bool (decide (a = key))) (by kernel_rfl) rfl (by kernel_rfl) ?_
  refine x_nil ?_
  refine x_then ?_
  refine x_retc ?_
  refine x_ret (.bool (decide (a = key))) (by kernel_rfl) (by kernel_rfl) ?_
  exact ⟨rfl, H.below⟩

set_option maxRecDepth 100000 in
set_option maxHeartbeats 4000000 in
theorem IxB_yes {g cap : Nat} (xs : List PairB) (key : Int) (q : Nat) (hn : xs.length ≤ 4096) (n : Nat) (hq : n < xs.length) (hall : ∀ j, j < n → eqkI (xs.getD j (0, 0, 0)).1 key = false) (hq2 : eqkI (xs.getD n (0, 0, 0)).1 key = true) (w0 : World) (hR : Ro w0 [.row (.slice (some ⟨g, 0, none⟩) (List.length xs) cap) 230 3 (List.length xs) (List.flatMap pairLB xs), .blk q #[.int .i64 key] 3]) :
    Calls Try.prog 174 #[.slice (some ⟨g, 0, none⟩) (List.length xs) cap, .func (.func 175) #[] #[.pointer (some ⟨q, 0, none⟩)]] w0 fun e w' => e = .returned (.int .i64 ((n : Nat) : Int)) ∧ Below w0.heap.size w0 w' := by
  refine x_enter Try.func174 rfl #[.slice (some ⟨g, 0, none⟩) (List.length xs) cap, .func (.func 175) #[] #[.pointer (some ⟨q, 0, none⟩)], undef, undef, undef, undef, undef, undef, undef, undef, undef, undef, undef, undef, undef, undef, undef, undef, undef] (by kernel_rfl) ?_
  have H := Hs.nil w0
  have R0 := hR
  refine x_seq ?_
  refine x_region ?_
  refine x_val (.int .i64 0) (by kernel_rfl) rfl (by kernel_rfl) ?_
  refine x_nil ?_
  refine x_then ?_
  refine x_seq ?_
  refine x_seq ?_
  refine x_region ?_
  refine x_val (.slice (some ⟨g, 0, none⟩) (List.length xs) cap) (by kernel_rfl) rfl (by kernel_rfl) ?_
  refine x_val (.int .i64 (((List.length xs) : Nat) : Int)) (by kernel_rfl) rfl (by kernel_rfl) ?_
  refine x_val (.int .i64 0) (by kernel_rfl) rfl (by kernel_rfl) ?_
  refine x_nil ?_
  refine x_then ?_
  refine x_block ?_
  refine x_loop (G := Nat) (fun (k : Nat) a w' => ∃ uf1 : Nat → Value, a = { tmps := #[.slice (some ⟨g, 0, none⟩) (List.length xs) cap, .func (.func 175) #[] #[.pointer (some ⟨q, 0, none⟩)], undef, undef, (uf1 0), (uf1 1), .slice (some ⟨g, 0, none⟩) (List.length xs) cap, .int .i64 (((List.length xs) : Nat) : Int), .int .i64 ((k : Nat) : Int), (uf1 2), (uf1 3), (uf1 4), (uf1 5), (uf1 6), (uf1 7), (uf1 8), (uf1 9), (uf1 10), (uf1 11)], defers := [] } ∧ Hs [] w0 w' [] ∧ (k ≤ n)) (fun (k : Nat) => xs.length - k) 0 ⟨(nthV [.int .i64 0, undef, undef, undef, undef, undef, undef, undef, undef, undef, undef, undef]), (by kernel_rfl), H, (Nat.zero_le _)⟩ ?_
  clear H
  rintro k _ v1 ⟨uf1, rfl, H, r1⟩
  refine x_seq ?_
  refine x_region ?_
  refine x_val (.bool (decide (((k : Nat) : Int) < (((List.length xs) : Nat) : Int)))) (by kernel_rfl) rfl (by kernel_rfl) ?_
  refine x_nil ?_
  refine x_then ?_
  refine x_seq ?_
  cases h1 : decide (((k : Nat) : Int) < (((List.length xs) : Nat) : Int))
  · skip
    have h1p := of_decide_eq_false h1
    refine x_f (by kernel_rfl) ?_
    refine x_exit ?_
    refine x_then_exit ?_
    refine x_then_exit ?_
    refine x_blk_exit ?_
    refine x_then ?_
    refine x_seq ?_
    refine x_region ?_
    refine x_val (.int .i64 (-1)) (by kernel_rfl) rfl (by kernel_rfl) ?_
    refine x_nil ?_
    refine x_then ?_
    refine x_retc ?_
    refine x_ret (.int .i64 (-1)) (by kernel_rfl) (by kernel_rfl) ?_
    exfalso; omega
  · skip
    have h1p := of_decide_eq_true h1
    refine x_t (by kernel_rfl) ?_
    refine x_skipc ?_
    refine x_then ?_
    refine x_seq ?_
    refine x_block ?_
    refine x_seq ?_
    refine x_region ?_
    refine x_val (.int .i64 ((k : Nat) : Int)) (by kernel_rfl) rfl (by kernel_rfl) ?_
    refine x_val (.int .i64 ((k : Nat) : Int)) (by kernel_rfl) rfl (by kernel_rfl) ?_
    refine x_nil ?_
    refine x_then ?_
    refine x_seq ?_
    refine x_region ?_
    refine x_val (.func (.func 175) #[] #[.pointer (some ⟨q, 0, none⟩)]) (by kernel_rfl) rfl (by kernel_rfl) ?_
    refine x_val (.slice (some ⟨g, 0, none⟩) (List.length xs) cap) (by kernel_rfl) rfl (by kernel_rfl) ?_
    refine x_val (.int .i64 ((k : Nat) : Int)) (by kernel_rfl) rfl (by kernel_rfl) ?_
    refine x_ix (t := 226) g 0 k (List.length xs) cap 230 3 (k * 3) (by omega) (by omega) (by kernel_rfl) (by kernel_rfl) (by kernel_rfl) rfl (by kernel_rfl) ?_
    refine x_loadcn (t := 230) g (k * 3) [.int .i64 ((xs.getD k (0, 0, 0)).1), .int .i64 ((xs.getD k (0, 0, 0)).2.1), .int .i64 ((xs.getD k (0, 0, 0)).2.2)] ((H.ro R0).rowCells 0 rfl (k * 3) (flatAt pairLenB (0, 0, 0) _ (by omega))) (by kernel_rfl) rfl (by kernel_rfl) (by kernel_rfl) ?_
    refine x_callB (.bool (eqkI ((xs.getD k (0, 0, 0)).1) key)) H (by kernel_rfl) rfl (by kernel_rfl) (find1_B ((xs.getD k (0, 0, 0)).1) ((xs.getD k (0, 0, 0)).2.1) ((xs.getD k (0, 0, 0)).2.2) key q _ ((H.ro R0).pick [1] [.blk q #[.int .i64 key] 3] (by kernel_rfl))) ?_
    clear H
    intro v2 H
    refine x_nil ?_
    refine x_then ?_
    cases h2 : eqkI ((xs.getD k (0, 0, 0)).1) key
    · skip
      have hkq : k + 1 ≤ n := by
        rcases Nat.lt_or_ge k n with h | h
        · omega
        · rw [show k = n by omega, hq2] at h2; cases h2
      refine x_f (by kernel_rfl) ?_
      refine x_skipc ?_
      refine x_blk ?_
      refine x_then ?_
      refine x_region ?_
      refine x_ar (((k : Nat) : Int) + 1) ⟨by omega, by omega⟩ (by kernel_rfl) rfl (by kernel_rfl) ?_
      refine x_val (.int .i64 (((k : Nat) : Int) + 1)) (by kernel_rfl) rfl (by kernel_rfl) ?_
      refine x_nil ?_
      refine x_then ?_
      exact ⟨(k + 1), (by omega), (nthV [(uf1 0), .int .i64 ((k : Nat) : Int), .bool true, .int .i64 ((k : Nat) : Int), .func (.func 175) #[] #[.pointer (some ⟨q, 0, none⟩)], .slice (some ⟨g, 0, none⟩) (List.length xs) cap, .int .i64 ((k : Nat) : Int), .pointer (some ⟨g, k * 3, none⟩), .agg #[.int .i64 ((xs.getD k (0, 0, 0)).1), .int .i64 ((xs.getD k (0, 0, 0)).2.1), .int .i64 ((xs.getD k (0, 0, 0)).2.2)], .bool false, (uf1 10), .int .i64 (((k : Nat) : Int) + 1)]), (by kernel_rfl), H, (by omega)⟩
    · skip
      refine x_t (by kernel_rfl) ?_
      refine x_seq ?_
      refine x_region ?_
      refine x_val (.int .i64 ((k : Nat) : Int)) (by kernel_rfl) rfl (by kernel_rfl) ?_
      refine x_val (.int .i64 ((k : Nat) : Int)) (by kernel_rfl) rfl (by kernel_rfl) ?_
      refine x_nil ?_
      refine x_then ?_
      refine x_retc ?_
      refine x_blk_ret ?_
      refine x_then_ret ?_
      refine x_then_ret ?_
      refine x_blk_ret ?_
      refine x_then_ret ?_
      refine x_ret (.int .i64 ((k : Nat) : Int)) (by kernel_rfl) (by kernel_rfl) ?_
      have hkq : k = n := by
        rcases Nat.lt_or_ge k n with h | h
        · have q := hall k h; rw [h2] at q; cases q
        · omega
      subst hkq
      exact ⟨rfl, H.below⟩

set_option maxRecDepth 100000 in
set_option maxHeartbeats 4000000 in
theorem IxB_no {g cap : Nat} (xs : List PairB) (key : Int) (q : Nat) (hn : xs.length ≤ 4096) (hall : ∀ j, j < xs.length → eqkI (xs.getD j (0, 0, 0)).1 key = false) (w0 : World) (hR : Ro w0 [.row (.slice (some ⟨g, 0, none⟩) (List.length xs) cap) 230 3 (List.length xs) (List.flatMap pairLB xs), .blk q #[.int .i64 key] 3]) :
    Calls Try.prog 174 #[.slice (some ⟨g, 0, none⟩) (List.length xs) cap, .func (.func 175) #[] #[.pointer (some ⟨q, 0, none⟩)]] w0 fun e w' => e = .returned (.int .i64 (-1)) ∧ Below w0.heap.size w0 w' := by
  refine x_enter Try.func174 rfl #[.slice (some ⟨g, 0, none⟩) (List.length xs) cap, .func (.func 175) #[] #[.pointer (some ⟨q, 0, none⟩)], undef, undef, undef, undef, undef, undef, undef, undef, undef, undef, undef, undef, undef, undef, undef, undef, undef] (by kernel_rfl) ?_
  have H := Hs.nil w0
  have R0 := hR
  refine x_seq ?_
  refine x_region ?_
  refine x_val (.int .i64 0) (by kernel_rfl) rfl (by kernel_rfl) ?_
  refine x_nil ?_
  refine x_then ?_
  refine x_seq ?_
  refine x_seq ?_
  refine x_region ?_
  refine x_val (.slice (some ⟨g, 0, none⟩) (List.length xs) cap) (by kernel_rfl) rfl (by kernel_rfl) ?_
  refine x_val (.int .i64 (((List.length xs) : Nat) : Int)) (by kernel_rfl) rfl (by kernel_rfl) ?_
  refine x_val (.int .i64 0) (by kernel_rfl) rfl (by kernel_rfl) ?_
  refine x_nil ?_
  refine x_then ?_
  refine x_block ?_
  refine x_loop (G := Nat) (fun (k : Nat) a w' => ∃ uf1 : Nat → Value, a = { tmps := #[.slice (some ⟨g, 0, none⟩) (List.length xs) cap, .func (.func 175) #[] #[.pointer (some ⟨q, 0, none⟩)], undef, undef, (uf1 0), (uf1 1), .slice (some ⟨g, 0, none⟩) (List.length xs) cap, .int .i64 (((List.length xs) : Nat) : Int), .int .i64 ((k : Nat) : Int), (uf1 2), (uf1 3), (uf1 4), (uf1 5), (uf1 6), (uf1 7), (uf1 8), (uf1 9), (uf1 10), (uf1 11)], defers := [] } ∧ Hs [] w0 w' [] ∧ (k ≤ xs.length)) (fun (k : Nat) => xs.length - k) 0 ⟨(nthV [.int .i64 0, undef, undef, undef, undef, undef, undef, undef, undef, undef, undef, undef]), (by kernel_rfl), H, (Nat.zero_le _)⟩ ?_
  clear H
  rintro k _ v1 ⟨uf1, rfl, H, r1⟩
  refine x_seq ?_
  refine x_region ?_
  refine x_val (.bool (decide (((k : Nat) : Int) < (((List.length xs) : Nat) : Int)))) (by kernel_rfl) rfl (by kernel_rfl) ?_
  refine x_nil ?_
  refine x_then ?_
  refine x_seq ?_
  cases h1 : decide (((k : Nat) : Int) < (((List.length xs) : Nat) : Int))
  · skip
    have h1p := of_decide_eq_false h1
    refine x_f (by kernel_rfl) ?_
    refine x_exit ?_
    refine x_then_exit ?_
    refine x_then_exit ?_
    refine x_blk_exit ?_
    refine x_then ?_
    refine x_seq ?_
    refine x_region ?_
    refine x_val (.int .i64 (-1)) (by kernel_rfl) rfl (by kernel_rfl) ?_
    refine x_nil ?_
    refine x_then ?_
    refine x_retc ?_
    refine x_ret (.int .i64 (-1)) (by kernel_rfl) (by kernel_rfl) ?_
    exact ⟨rfl, H.below⟩
  · skip
    have h1p := of_decide_eq_true h1
    refine x_t (by kernel_rfl) ?_
    refine x_skipc ?_
    refine x_then ?_
    refine x_seq ?_
    refine x_block ?_
    refine x_seq ?_
    refine x_region ?_
    refine x_val (.int .i64 ((k : Nat) : Int)) (by kernel_rfl) rfl (by kernel_rfl) ?_
    refine x_val (.int .i64 ((k : Nat) : Int)) (by kernel_rfl) rfl (by kernel_rfl) ?_
    refine x_nil ?_
    refine x_then ?_
    refine x_seq ?_
    refine x_region ?_
    refine x_val (.func (.func 175) #[] #[.pointer (some ⟨q, 0, none⟩)]) (by kernel_rfl) rfl (by kernel_rfl) ?_
    refine x_val (.slice (some ⟨g, 0, none⟩) (List.length xs) cap) (by kernel_rfl) rfl (by kernel_rfl) ?_
    refine x_val (.int .i64 ((k : Nat) : Int)) (by kernel_rfl) rfl (by kernel_rfl) ?_
    refine x_ix (t := 226) g 0 k (List.length xs) cap 230 3 (k * 3) (by omega) (by omega) (by kernel_rfl) (by kernel_rfl) (by kernel_rfl) rfl (by kernel_rfl) ?_
    refine x_loadcn (t := 230) g (k * 3) [.int .i64 ((xs.getD k (0, 0, 0)).1), .int .i64 ((xs.getD k (0, 0, 0)).2.1), .int .i64 ((xs.getD k (0, 0, 0)).2.2)] ((H.ro R0).rowCells 0 rfl (k * 3) (flatAt pairLenB (0, 0, 0) _ (by omega))) (by kernel_rfl) rfl (by kernel_rfl) (by kernel_rfl) ?_
    refine x_callB (.bool (eqkI ((xs.getD k (0, 0, 0)).1) key)) H (by kernel_rfl) rfl (by kernel_rfl) (find1_B ((xs.getD k (0, 0, 0)).1) ((xs.getD k (0, 0, 0)).2.1) ((xs.getD k (0, 0, 0)).2.2) key q _ ((H.ro R0).pick [1] [.blk q #[.int .i64 key] 3] (by kernel_rfl))) ?_
    clear H
    intro v2 H
    refine x_nil ?_
    refine x_then ?_
    cases h2 : eqkI ((xs.getD k (0, 0, 0)).1) key
    · skip
      refine x_f (by kernel_rfl) ?_
      refine x_skipc ?_
      refine x_blk ?_
      refine x_then ?_
      refine x_region ?_
      refine x_ar (((k : Nat) : Int) + 1) ⟨by omega, by omega⟩ (by kernel_rfl) rfl (by kernel_rfl) ?_
      refine x_val (.int .i64 (((k : Nat) : Int) + 1)) (by kernel_rfl) rfl (by kernel_rfl) ?_
      refine x_nil ?_
      refine x_then ?_
      exact ⟨(k + 1), (by omega), (nthV [(uf1 0), .int .i64 ((k : Nat) : Int), .bool true, .int .i64 ((k : Nat) : Int), .func (.func 175) #[] #[.pointer (some ⟨q, 0, none⟩)], .slice (some ⟨g, 0, none⟩) (List.length xs) cap, .int .i64 ((k : Nat) : Int), .pointer (some ⟨g, k * 3, none⟩), .agg #[.int .i64 ((xs.getD k (0, 0, 0)).1), .int .i64 ((xs.getD k (0, 0, 0)).2.1), .int .i64 ((xs.getD k (0, 0, 0)).2.2)], .bool false, (uf1 10), .int .i64 (((k : Nat) : Int) + 1)]), (by kernel_rfl), H, (by omega)⟩
    · skip
      exact absurd (hall k (by omega)) (by rw [h2]; decide)

set_option maxRecDepth 100000 in
set_option maxHeartbeats 4000000 in
theorem IxB_nil (f : Value) (w0 : World) :
    Calls Try.prog 174 #[.slice none 0 0, f] w0 fun e w' => e = .returned (.int .i64 (-1)) ∧ Below w0.heap.size w0 w' := by
  refine x_enter Try.func174 rfl #[.slice none 0 0, f, undef, undef, undef, undef, undef, undef, undef, undef, undef, undef, undef, undef, undef, undef, undef, undef, undef] (by kernel_rfl) ?_
  have H := Hs.nil w0
  refine x_seq ?_
  refine x_region ?_
  refine x_val (.int .i64 0) (by kernel_rfl) rfl (by kernel_rfl) ?_
  refine x_nil ?_
  refine x_then ?_
  refine x_seq ?_
  refine x_seq ?_
  refine x_region ?_
  refine x_val (.slice none 0 0) (by kernel_rfl) rfl (by kernel_rfl) ?_
  refine x_val (.int .i64 0) (by kernel_rfl) rfl (by kernel_rfl) ?_
  refine x_val (.int .i64 0) (by kernel_rfl) rfl (by kernel_rfl) ?_
  refine x_nil ?_
  refine x_then ?_
  refine x_block ?_
  refine x_loop (G := Unit) (fun (_ : Unit) a w' => ∃ uf1 : Nat → Value, a = { tmps := #[.slice none 0 0, f, undef, undef, (uf1 0), (uf1 1), .slice none 0 0, .int .i64 0, .int .i64 0, (uf1 2), (uf1 3), (uf1 4), (uf1 5), (uf1 6), (uf1 7), (uf1 8), (uf1 9), (uf1 10), (uf1 11)], defers := [] } ∧ Hs [] w0 w' []) (fun _ => 0) () ⟨(nthV [.int .i64 0, undef, undef, undef, undef, undef, undef, undef, undef, undef, undef, undef]), (by kernel_rfl), H⟩ ?_
  clear H
  rintro _ _ v1 ⟨uf1, rfl, H⟩
  refine x_seq ?_
  refine x_region ?_
  refine x_val (.bool false) (by kernel_rfl) rfl (by kernel_rfl) ?_
  refine x_nil ?_
  refine x_then ?_
  refine x_seq ?_
  refine x_f (by kernel_rfl) ?_
  refine x_exit ?_
  refine x_then_exit ?_
  refine x_then_exit ?_
  refine x_blk_exit ?_
  refine x_then ?_
  refine x_seq ?_
  refine x_region ?_
  refine x_val (.int .i64 (-1)) (by kernel_rfl) rfl (by kernel_rfl) ?_
  refine x_nil ?_
  refine x_then ?_
  refine x_retc ?_
  refine x_ret (.int .i64 (-1)) (by kernel_rfl) (by kernel_rfl) ?_
  exact ⟨rfl, H.below⟩

theorem IxB {sv : Value} (xs : List PairB) (key : Int) (q : Nat) (hn : xs.length ≤ 4096) (w0 : World) (hR : Ro w0 [.row (sv) 230 3 (List.length xs) (List.flatMap pairLB xs), .blk q #[.int .i64 key] 3]) : Calls Try.prog 174 #[sv, .func (.func 175) #[] #[.pointer (some ⟨q, 0, none⟩)]] w0 fun e w' => e = .returned (.int .i64 (findB xs key)) ∧ Below w0.heap.size w0 w' := by
  rcases rowForm (hR 0 _ rfl : w0.ownsRow 0 _ 3 sv _ _) with ⟨rfl, h0⟩ | ⟨g, cap, rfl, hc, _⟩
  · have e : findB xs key = -1 := by unfold findB; rw [if_neg (by omega)]
    rw [e]; exact IxB_nil _ w0
  · unfold findB
    by_cases hq : fkB xs key < xs.length
    · rw [if_pos hq]; exact IxB_yes xs key q hn _ hq (fk_allB xs key) (fk_atB xs key hq) w0 hR
    · rw [if_neg hq]; exact IxB_no xs key q hn (fun j hj => fk_allB xs key j (by omega)) w0 hR

set_option maxRecDepth 100000 in
set_option maxHeartbeats 4000000 in
theorem find_B {t : Nat} {sv : Value} {xs : List PairB} {room : Nat} (key : Int) (hn : xs.length ≤ 4096) (w0 : World) (hR : Ro w0 [.blk t #[sv, .int .i64 ((room : Nat) : Int), .func (.func 103) #[] #[]] 228, .row (sv) 230 3 (List.length xs) (List.flatMap pairLB xs)]) :
    Calls Try.prog 150 #[.pointer (some ⟨t, 0, none⟩), .int .i64 key] w0 fun e w' => e = .returned (.int .i64 (findB xs key)) ∧ Below w0.heap.size w0 w' := by
  refine x_enter Try.func150 rfl #[.pointer (some ⟨t, 0, none⟩), .int .i64 key, undef, undef, undef, undef, undef, undef, undef, undef, undef] (by kernel_rfl) ?_
  have H := Hs.nil w0
  have R0 := hR
  refine x_seq ?_
  refine x_region ?_
  refine x_box H #[.int .i64 key] 3 (by kernel_rfl) rfl (by kernel_rfl) ?_
  clear H
  intro v1 g1 H
  refine x_val (.int .i64 0) (by kernel_rfl) rfl (by kernel_rfl) ?_
  refine x_nil ?_
  refine x_then ?_
  refine x_seq ?_
  refine x_region ?_
  refine x_val (.pointer (some ⟨t, 0, none⟩)) (by kernel_rfl) rfl (by kernel_rfl) ?_
  refine x_val (.pointer (some ⟨t, 0, none⟩)) (by kernel_rfl) rfl (by kernel_rfl) ?_
  refine x_val (.pointer (some ⟨t, 0, none⟩)) (by kernel_rfl) rfl (by kernel_rfl) ?_
  refine x_loadc t 0 (sv) ((H.ro R0).cell 0 rfl 0 rfl) (by kernel_rfl) rfl (by kernel_rfl) ?_
  refine x_val (.func (.func 175) #[] #[.pointer (some ⟨g1, 0, none⟩)]) (by kernel_rfl) rfl (by kernel_rfl) ?_
  refine x_callB (.int .i64 (findB xs key)) H (by kernel_rfl) rfl (by kernel_rfl) (IxB xs key g1 hn _ (Ro.two ((H.ro R0).pick [1] [.row (sv) 230 3 (List.length xs) (List.flatMap pairLB xs)] (by kernel_rfl)) (H.roOf [0] [.blk g1 #[.int .i64 key] 3] (by kernel_rfl)))) ?_
  clear H
  intro v2 H
  refine x_val (.int .i64 (findB xs key)) (by kernel_rfl) rfl (by kernel_rfl) ?_
  refine x_nil ?_
  refine x_then ?_
  refine x_retc ?_
  refine x_ret (.int .i64 (findB xs key)) (by kernel_rfl) (by kernel_rfl) ?_
  exact ⟨rfl, H.below⟩

set_option maxRecDepth 100000 in
set_option maxHeartbeats 4000000 in
theorem lightest_B {t g cap : Nat} {xs : List PairB} {room : Nat} (hn : xs.length ≤ 4096) (w0 : World) (hR : Ro w0 [.blk t #[.slice (some ⟨g, 0, none⟩) (List.length xs) cap, .int .i64 ((room : Nat) : Int), .func (.func 103) #[] #[]] 228, .row (.slice (some ⟨g, 0, none⟩) (List.length xs) cap) 230 3 (List.length xs) (List.flatMap pairLB xs)]) :
    Calls Try.prog 152 #[.pointer (some ⟨t, 0, none⟩)] w0 fun e w' => e = .returned (.int .i64 (((ltB xs xs.length).1 : Nat) : Int)) ∧ Below w0.heap.size w0 w' := by
  refine x_enter Try.func152 rfl #[.pointer (some ⟨t, 0, none⟩), undef, undef, undef, undef, undef, undef, undef, undef, undef, undef, undef, undef, undef, undef, undef, undef, undef, undef, undef, undef, undef, undef, undef, undef, undef, undef, undef, undef, undef, undef, undef, undef, undef, undef, undef] (by kernel_rfl) ?_
  have H := Hs.nil w0
  have R0 := hR
  refine x_seq ?_
  refine x_region ?_
  refine x_val (.int .i64 0) (by kernel_rfl) rfl (by kernel_rfl) ?_
  refine x_nil ?_
  refine x_then ?_
  refine x_seq ?_
  refine x_region ?_
  refine x_val (.int .i64 0) (by kernel_rfl) rfl (by kernel_rfl) ?_
  refine x_val (.int .i64 0) (by kernel_rfl) rfl (by kernel_rfl) ?_
  refine x_nil ?_
  refine x_then ?_
  refine x_seq ?_
  refine x_seq ?_
  refine x_region ?_
  refine x_val (.pointer (some ⟨t, 0, none⟩)) (by kernel_rfl) rfl (by kernel_rfl) ?_
  refine x_val (.pointer (some ⟨t, 0, none⟩)) (by kernel_rfl) rfl (by kernel_rfl) ?_
  refine x_val (.pointer (some ⟨t, 0, none⟩)) (by kernel_rfl) rfl (by kernel_rfl) ?_
  refine x_loadc t 0 (.slice (some ⟨g, 0, none⟩) (List.length xs) cap) ((H.ro R0).cell 0 rfl 0 rfl) (by kernel_rfl) rfl (by kernel_rfl) ?_
  refine x_val (.int .i64 (((List.length xs) : Nat) : Int)) (by kernel_rfl) rfl (by kernel_rfl) ?_
  refine x_val (.int .i64 0) (by kernel_rfl) rfl (by kernel_rfl) ?_
  refine x_nil ?_
  refine x_then ?_
  refine x_block ?_
  refine x_loop (G := Nat × Nat × Int) (fun gh a w' => match gh with | (k, at0, ls) => ∃ uf1 : Nat → Value, a = { tmps := #[.pointer (some ⟨t, 0, none⟩), undef, .int .i64 0, .int .i64 ((at0 : Nat) : Int), .int .i64 ls, (uf1 0), (uf1 1), (uf1 2), .pointer (some ⟨t, 0, none⟩), .pointer (some ⟨t, 0, none⟩), .pointer (some ⟨t, 0, none⟩), .slice (some ⟨g, 0, none⟩) (List.length xs) cap, .int .i64 (((List.length xs) : Nat) : Int), .int .i64 ((k : Nat) : Int), (uf1 3), (uf1 4), (uf1 5), (uf1 6), (uf1 7), (uf1 8), (uf1 9), (uf1 10), (uf1 11), (uf1 12), (uf1 13), (uf1 14), (uf1 15), (uf1 16), (uf1 17), (uf1 18), (uf1 19), (uf1 20), (uf1 21), (uf1 22), (uf1 23), undef], defers := [] } ∧ Hs [] w0 w' [] ∧ (k ≤ xs.length) ∧ (at0 ≤ k) ∧ ((at0, ls) = ltB xs k)) (fun gh => match gh with | (k, at0, ls) => xs.length - k) (0, 0, 0) ⟨(nthV [undef, undef, undef, undef, undef, undef, undef, undef, undef, undef, undef, undef, undef, undef, undef, undef, undef, undef, undef, undef, undef, undef, undef, undef]), (by kernel_rfl), H, (Nat.zero_le _), (Nat.le_refl _), rfl⟩ ?_
  clear H
  rintro ⟨k, at0, ls⟩ _ v1 ⟨uf1, rfl, H, r1, r2, r3⟩
  have r2 := r3
  refine x_seq ?_
  refine x_region ?_
  refine x_val (.bool (decide (((k : Nat) : Int) < (((List.length xs) : Nat) : Int)))) (by kernel_rfl) rfl (by kernel_rfl) ?_
  refine x_nil ?_
  refine x_then ?_
  refine x_seq ?_
  cases h1 : decide (((k : Nat) : Int) < (((List.length xs) : Nat) : Int))
  · skip
    have h1p := of_decide_eq_false h1
    refine x_f (by kernel_rfl) ?_
    refine x_exit ?_
    refine x_then_exit ?_
    refine x_then_exit ?_
    refine x_blk_exit ?_
    refine x_then ?_
    refine x_seq ?_
    refine x_region ?_
    refine x_val (.int .i64 ((at0 : Nat) : Int)) (by kernel_rfl) rfl (by kernel_rfl) ?_
    refine x_val (.int .i64 ((at0 : Nat) : Int)) (by kernel_rfl) rfl (by kernel_rfl) ?_
    refine x_nil ?_
    refine x_then ?_
    refine x_retc ?_
    refine x_ret (.int .i64 ((at0 : Nat) : Int)) (by kernel_rfl) (by kernel_rfl) ?_
    have hk : k = xs.length := by omega
    rw [hk] at r2
    rw [← r2]
    exact ⟨rfl, H.below⟩
  · skip
    have h1p := of_decide_eq_true h1
    refine x_t (by kernel_rfl) ?_
    refine x_skipc ?_
    refine x_then ?_
    refine x_seq ?_
    refine x_block ?_
    refine x_seq ?_
    refine x_region ?_
    refine x_val (.int .i64 ((k : Nat) : Int)) (by kernel_rfl) rfl (by kernel_rfl) ?_
    refine x_ix (t := 226) g 0 k (List.length xs) cap 230 3 (k * 3) (by omega) (by omega) (by kernel_rfl) (by kernel_rfl) (by kernel_rfl) rfl (by kernel_rfl) ?_
    refine x_loadcn (t := 230) g (k * 3) [.int .i64 ((xs.getD k (0, 0, 0)).1), .int .i64 ((xs.getD k (0, 0, 0)).2.1), .int .i64 ((xs.getD k (0, 0, 0)).2.2)] ((H.ro R0).rowCells 1 rfl (k * 3) (flatAt pairLenB (0, 0, 0) _ (by omega))) (by kernel_rfl) rfl (by kernel_rfl) (by kernel_rfl) ?_
    refine x_box H #[.int .i64 0, .int .i64 0, .int .i64 0] 230 (by kernel_rfl) rfl (by kernel_rfl) ?_
    clear H
    intro v2 g1 H
    refine x_val (.int .i64 ((k : Nat) : Int)) (by kernel_rfl) rfl (by kernel_rfl) ?_
    refine x_store (t := 230) (v := .agg #[.int .i64 ((xs.getD k (0, 0, 0)).1), .int .i64 ((xs.getD k (0, 0, 0)).2.1), .int .i64 ((xs.getD k (0, 0, 0)).2.2)]) H 0 g1 0 _ #[.int .i64 ((xs.getD k (0, 0, 0)).1), .int .i64 ((xs.getD k (0, 0, 0)).2.1), .int .i64 ((xs.getD k (0, 0, 0)).2.2)] 230 [.int .i64 ((xs.getD k (0, 0, 0)).1), .int .i64 ((xs.getD k (0, 0, 0)).2.1), .int .i64 ((xs.getD k (0, 0, 0)).2.2)] _ rfl rfl (by kernel_rfl) (by kernel_rfl) (by kernel_rfl) rfl (by kernel_rfl) (by kernel_rfl) (by kernel_rfl) (by kernel_rfl) ?_
    clear H
    intro v3 H
    refine x_nil ?_
    refine x_then ?_
    refine x_seq ?_
    refine x_region_whole (fun w' => Hs [] w0 w' [.blk g1 #[.int .i64 ((xs.getD k (0, 0, 0)).1), .int .i64 ((xs.getD k (0, 0, 0)).2.1), .int .i64 ((xs.getD k (0, 0, 0)).2.2)] 230]) (by kernel_rfl) (by kernel_rfl) (by kernel_rfl) H.drew ?_
    refine q_val (.pointer (some ⟨t, 0, none⟩)) (by kernel_rfl) (fun _ => by kernel_rfl) ?_
    refine q_val (.pointer (some ⟨t, 0, none⟩)) (by kernel_rfl) (fun _ => by kernel_rfl) ?_
    refine q_val (.pointer (some ⟨t, 2, none⟩)) (by kernel_rfl) (fun _ => by kernel_rfl) ?_
    refine q_loadc t 2 (.func (.func 103) #[] #[]) (fun _ H => (H.ro R0).cell 0 rfl 2 rfl) (by kernel_rfl) (fun _ => by kernel_rfl) ?_
    refine q_val (.pointer (some ⟨g1, 1, none⟩)) (by kernel_rfl) (fun _ => by kernel_rfl) ?_
    refine q_loadn (t := 86) 0 g1 1 #[.int .i64 ((xs.getD k (0, 0, 0)).1), .int .i64 ((xs.getD k (0, 0, 0)).2.1), .int .i64 ((xs.getD k (0, 0, 0)).2.2)] 230 [.int .i64 ((xs.getD k (0, 0, 0)).2.1), .int .i64 ((xs.getD k (0, 0, 0)).2.2)] (by kernel_rfl) (by kernel_rfl) (by kernel_rfl) (by kernel_rfl) (by kernel_rfl) ?_
    refine q_callB (.int .i64 ((xs.getD k (0, 0, 0)).2.1)) (by kernel_rfl) (fun _ => by kernel_rfl) (fun _ => (weigh_b ((xs.getD k (0, 0, 0)).2.1) ((xs.getD k (0, 0, 0)).2.2) _)) ?_
    refine q_val (.int .i64 ((xs.getD k (0, 0, 0)).2.1)) (by kernel_rfl) (fun _ => by kernel_rfl) ?_
    refine q_nil ?_
    clear H
    intro v4 H
    refine x_then ?_
    refine x_seq ?_
    refine x_region ?_
    refine x_val (.int .i64 ((k : Nat) : Int)) (by kernel_rfl) rfl (by kernel_rfl) ?_
    refine x_val (.bool (decide (((k : Nat) : Int) = 0))) (by kernel_rfl) rfl (by kernel_rfl) ?_
    refine x_val (.bool (decide (((k : Nat) : Int) = 0))) (by kernel_rfl) rfl (by kernel_rfl) ?_
    cases h2 : decide (((k : Nat) : Int) = 0)
    · skip
      have h2p := of_decide_eq_false h2
      refine x_val (.int .i64 ((xs.getD k (0, 0, 0)).2.1)) (by kernel_rfl) rfl (by kernel_rfl) ?_
      refine x_val (.int .i64 ls) (by kernel_rfl) rfl (by kernel_rfl) ?_
      refine x_val (.bool (decide (((xs.getD k (0, 0, 0)).2.1) < ls))) (by kernel_rfl) rfl (by kernel_rfl) ?_
      refine x_val (.bool (decide (((xs.getD k (0, 0, 0)).2.1) < ls))) (by kernel_rfl) rfl (by kernel_rfl) ?_
      refine x_nil ?_
      refine x_then ?_
      cases h3 : decide (((xs.getD k (0, 0, 0)).2.1) < ls)
      · skip
        have h3p := of_decide_eq_false h3
        refine x_f (by kernel_rfl) ?_
        refine x_skipc ?_
        refine x_blk ?_
        refine x_then ?_
        refine x_region ?_
        refine x_ar (((k : Nat) : Int) + 1) ⟨by omega, by omega⟩ (by kernel_rfl) rfl (by kernel_rfl) ?_
        refine x_val (.int .i64 (((k : Nat) : Int) + 1)) (by kernel_rfl) rfl (by kernel_rfl) ?_
        refine x_nil ?_
        refine x_then ?_
        replace H := H.pick [] [] (by decide) (by kernel_rfl)
        exact ⟨(k + 1, at0, ls), (by dsimp only; omega), (nthV [.int .i64 ((k : Nat) : Int), .pointer (some ⟨g1, 0, none⟩), .int .i64 ((xs.getD k (0, 0, 0)).2.1), .bool true, .int .i64 ((k : Nat) : Int), .pointer (some ⟨g, k * 3, none⟩), .agg #[.int .i64 ((xs.getD k (0, 0, 0)).1), .int .i64 ((xs.getD k (0, 0, 0)).2.1), .int .i64 ((xs.getD k (0, 0, 0)).2.2)], .pointer (some ⟨t, 0, none⟩), .pointer (some ⟨t, 0, none⟩), .pointer (some ⟨t, 2, none⟩), .func (.func 103) #[] #[], .pointer (some ⟨g1, 1, none⟩), .agg #[.int .i64 ((xs.getD k (0, 0, 0)).2.1), .int .i64 ((xs.getD k (0, 0, 0)).2.2)], .int .i64 ((xs.getD k (0, 0, 0)).2.1), .int .i64 ((k : Nat) : Int), .bool false, .bool false, .int .i64 ((xs.getD k (0, 0, 0)).2.1), .int .i64 ls, .bool false, .bool false, (uf1 21), (uf1 22), .int .i64 (((k : Nat) : Int) + 1)]), (by kernel_rfl), H, (by omega), (by omega), (by rw [ltB, ← r2, if_neg (by rintro (q | q); omega; exact h3p q)])⟩
      · skip
        have h3p := of_decide_eq_true h3
        refine x_t (by kernel_rfl) ?_
        refine x_region ?_
        refine x_val (.int .i64 ((k : Nat) : Int)) (by kernel_rfl) rfl (by kernel_rfl) ?_
        refine x_val (.int .i64 ((xs.getD k (0, 0, 0)).2.1)) (by kernel_rfl) rfl (by kernel_rfl) ?_
        refine x_val (.int .i64 ((k : Nat) : Int)) (by kernel_rfl) rfl (by kernel_rfl) ?_
        refine x_val (.int .i64 ((xs.getD k (0, 0, 0)).2.1)) (by kernel_rfl) rfl (by kernel_rfl) ?_
        refine x_nil ?_
        refine x_blk ?_
        refine x_then ?_
        refine x_region ?_
        refine x_ar (((k : Nat) : Int) + 1) ⟨by omega, by omega⟩ (by kernel_rfl) rfl (by kernel_rfl) ?_
        refine x_val (.int .i64 (((k : Nat) : Int) + 1)) (by kernel_rfl) rfl (by kernel_rfl) ?_
        refine x_nil ?_
        refine x_then ?_
        replace H := H.pick [] [] (by decide) (by kernel_rfl)
        exact ⟨(k + 1, k, ((xs.getD k (0, 0, 0)).2.1)), (by dsimp only; omega), (nthV [.int .i64 ((k : Nat) : Int), .pointer (some ⟨g1, 0, none⟩), .int .i64 ((xs.getD k (0, 0, 0)).2.1), .bool true, .int .i64 ((k : Nat) : Int), .pointer (some ⟨g, k * 3, none⟩), .agg #[.int .i64 ((xs.getD k (0, 0, 0)).1), .int .i64 ((xs.getD k (0, 0, 0)).2.1), .int .i64 ((xs.getD k (0, 0, 0)).2.2)], .pointer (some ⟨t, 0, none⟩), .pointer (some ⟨t, 0, none⟩), .pointer (some ⟨t, 2, none⟩), .func (.func 103) #[] #[], .pointer (some ⟨g1, 1, none⟩), .agg #[.int .i64 ((xs.getD k (0, 0, 0)).2.1), .int .i64 ((xs.getD k (0, 0, 0)).2.2)], .int .i64 ((xs.getD k (0, 0, 0)).2.1), .int .i64 ((k : Nat) : Int), .bool false, .bool false, .int .i64 ((xs.getD k (0, 0, 0)).2.1), .int .i64 ls, .bool true, .bool true, .int .i64 ((k : Nat) : Int), .int .i64 ((xs.getD k (0, 0, 0)).2.1), .int .i64 (((k : Nat) : Int) + 1)]), (by kernel_rfl), H, (by omega), (by omega), (by rw [ltB, ← r2, if_pos (Or.inr h3p)])⟩
    · skip
      have h2p := of_decide_eq_true h2
      refine x_skip (by kernel_rfl) ?_
      refine x_skip (by kernel_rfl) ?_
      refine x_skip (by kernel_rfl) ?_
      refine x_val (.bool true) (by kernel_rfl) rfl (by kernel_rfl) ?_
      refine x_nil ?_
      refine x_then ?_
      refine x_t (by kernel_rfl) ?_
      refine x_region ?_
      refine x_val (.int .i64 ((k : Nat) : Int)) (by kernel_rfl) rfl (by kernel_rfl) ?_
      refine x_val (.int .i64 ((xs.getD k (0, 0, 0)).2.1)) (by kernel_rfl) rfl (by kernel_rfl) ?_
      refine x_val (.int .i64 ((k : Nat) : Int)) (by kernel_rfl) rfl (by kernel_rfl) ?_
      refine x_val (.int .i64 ((xs.getD k (0, 0, 0)).2.1)) (by kernel_rfl) rfl (by kernel_rfl) ?_
      refine x_nil ?_
      refine x_blk ?_
      refine x_then ?_
      refine x_region ?_
      refine x_ar (((k : Nat) : Int) + 1) ⟨by omega, by omega⟩ (by kernel_rfl) rfl (by kernel_rfl) ?_
      refine x_val (.int .i64 (((k : Nat) : Int) + 1)) (by kernel_rfl) rfl (by kernel_rfl) ?_
      refine x_nil ?_
      refine x_then ?_
      replace H := H.pick [] [] (by decide) (by kernel_rfl)
      exact ⟨(k + 1, k, ((xs.getD k (0, 0, 0)).2.1)), (by dsimp only; omega), (nthV [.int .i64 ((k : Nat) : Int), .pointer (some ⟨g1, 0, none⟩), .int .i64 ((xs.getD k (0, 0, 0)).2.1), .bool true, .int .i64 ((k : Nat) : Int), .pointer (some ⟨g, k * 3, none⟩), .agg #[.int .i64 ((xs.getD k (0, 0, 0)).1), .int .i64 ((xs.getD k (0, 0, 0)).2.1), .int .i64 ((xs.getD k (0, 0, 0)).2.2)], .pointer (some ⟨t, 0, none⟩), .pointer (some ⟨t, 0, none⟩), .pointer (some ⟨t, 2, none⟩), .func (.func 103) #[] #[], .pointer (some ⟨g1, 1, none⟩), .agg #[.int .i64 ((xs.getD k (0, 0, 0)).2.1), .int .i64 ((xs.getD k (0, 0, 0)).2.2)], .int .i64 ((xs.getD k (0, 0, 0)).2.1), .int .i64 ((k : Nat) : Int), .bool true, .bool true, undef, undef, undef, .bool true, .int .i64 ((k : Nat) : Int), .int .i64 ((xs.getD k (0, 0, 0)).2.1), .int .i64 (((k : Nat) : Int) + 1)]), (by kernel_rfl), H, (by omega), (by omega), (by rw [ltB, ← r2, if_pos (Or.inl (by omega))])⟩

set_option maxRecDepth 100000 in
set_option maxHeartbeats 4000000 in
theorem Del_B {g cap : Nat} (xs : List PairB) (q : Nat) (hq : q < xs.length) (hn : xs.length ≤ 4096) (i j : Int) (hi : i = ((q : Nat) : Int)) (hj : j = ((q : Nat) : Int) + 1) (w0 : World) (H0 : Hs (fps [.row (.slice (some ⟨g, 0, none⟩) (List.length xs) cap) 230 3 (List.length xs) (List.flatMap pairLB xs)]) w0 w0 [.row (.slice (some ⟨g, 0, none⟩) (List.length xs) cap) 230 3 (List.length xs) (List.flatMap pairLB xs)]) :
    Calls Try.prog 176 #[.slice (some ⟨g, 0, none⟩) (List.length xs) cap, .int .i64 i, .int .i64 j] w0 fun e w' => e = .returned (.slice (some ⟨g, 0, none⟩) (List.length (xs.eraseIdx q)) cap) ∧ Hs (fps [.row (.slice (some ⟨g, 0, none⟩) (List.length xs) cap) 230 3 (List.length xs) (List.flatMap pairLB xs)]) w0 w' [.row (.slice (some ⟨g, 0, none⟩) (List.length (xs.eraseIdx q)) cap) 230 3 (List.length (xs.eraseIdx q)) (List.flatMap pairLB (xs.eraseIdx q))] := by
  obtain rfl : j = ((q + 1 : Nat) : Int) := by omega
  subst hi
  refine x_enter Try.func176 rfl #[.slice (some ⟨g, 0, none⟩) (List.length xs) cap, .int .i64 ((q : Nat) : Int), .int .i64 (((q + 1) : Nat) : Int), undef, undef, undef, undef, undef, undef, undef, undef, undef, undef, undef, undef, undef, undef, undef, undef, undef, undef, undef, undef, undef, undef, undef, undef, undef, undef, undef, undef, undef, undef] (by kernel_rfl) ?_
  have H := H0
  have hncap : xs.length ≤ cap := by rcases H0.rowForm 0 rfl with ⟨h, _⟩ | ⟨g', c', h, h2, _⟩ <;> simp at h <;> omega
  have hqq : decide (((q : Nat) : Int) = (((q + 1) : Nat) : Int)) = false := by simp; omega
  refine x_seq ?_
  refine x_region ?_
  refine x_val (.slice none 0 0) (by kernel_rfl) rfl (by kernel_rfl) ?_
  refine x_nil ?_
  refine x_then ?_
  refine x_seq ?_
  refine x_region ?_
  refine x_val (.slice (some ⟨g, 0, none⟩) (List.length xs) cap) (by kernel_rfl) rfl (by kernel_rfl) ?_
  refine x_val (.int .i64 ((q : Nat) : Int)) (by kernel_rfl) rfl (by kernel_rfl) ?_
  refine x_val (.int .i64 (((q + 1) : Nat) : Int)) (by kernel_rfl) rfl (by kernel_rfl) ?_
  refine x_val (.slice (some ⟨g, 0, none⟩) (List.length xs) cap) (by kernel_rfl) rfl (by kernel_rfl) ?_
  refine x_val (.int .i64 (((List.length xs) : Nat) : Int)) (by kernel_rfl) rfl (by kernel_rfl) ?_
  refine x_val ((sliced (some ⟨g, 0, none⟩) q (q + 1) (List.length xs) 3)) (by kernel_rfl) rfl (Eq.trans (by kernel_rfl) (slcLHM (P := Try.prog) (t := 226) (b := some ⟨g, 0, none⟩) (n := (List.length xs)) (c := cap) (l := q) (h := (q + 1)) (m := (List.length xs)) (sz := 3) (by kernel_rfl) (by kernel_rfl) (by omega) (by omega) (by omega))) ?_
  refine x_nil ?_
  refine x_then ?_
  refine x_seq ?_
  refine x_seq ?_
  refine x_region ?_
  refine x_val (.int .i64 ((q : Nat) : Int)) (by kernel_rfl) rfl (by kernel_rfl) ?_
  refine x_val (.int .i64 (((q + 1) : Nat) : Int)) (by kernel_rfl) rfl (by kernel_rfl) ?_
  refine x_val (.bool (decide (((q : Nat) : Int) = (((q + 1) : Nat) : Int)))) (by kernel_rfl) rfl (by kernel_rfl) ?_
  refine x_nil ?_
  refine x_then ?_
  rw [hqq]
  refine x_f (by kernel_rfl) ?_
  refine x_skipc ?_
  refine x_then ?_
  refine x_seq ?_
  refine x_region ?_
  refine x_val (.slice (some ⟨g, 0, none⟩) (List.length xs) cap) (by kernel_rfl) rfl (by kernel_rfl) ?_
  refine x_val (.int .i64 (((List.length xs) : Nat) : Int)) (by kernel_rfl) rfl (by kernel_rfl) ?_
  refine x_val (.int .i64 (((List.length xs) : Nat) : Int)) (by kernel_rfl) rfl (by kernel_rfl) ?_
  refine x_nil ?_
  refine x_then ?_
  refine x_seq ?_
  refine x_region_head 6 (fun w' => Hs (fps [.row (.slice (some ⟨g, 0, none⟩) (List.length xs) cap) 230 3 (List.length xs) (List.flatMap pairLB xs)]) w0 w' [.row (.slice (some ⟨g, 0, none⟩) (List.length xs) cap) 230 3 (List.length xs) (List.flatMap pairLB xs)]) (by kernel_rfl) (by kernel_rfl) (by kernel_rfl) H.drew ?_
  simp only [List.take_succ_cons, List.take_zero, List.drop_succ_cons, List.drop_zero]
  refine q_val (.slice (some ⟨g, 0, none⟩) (List.length xs) cap) (by kernel_rfl) (fun _ => by kernel_rfl) ?_
  refine q_val (.int .i64 ((q : Nat) : Int)) (by kernel_rfl) (fun _ => by kernel_rfl) ?_
  refine q_val (.slice (some ⟨g, 0, none⟩) q cap) (by kernel_rfl) (fun _ => (Eq.trans (by kernel_rfl) (slcH (P := Try.prog) (t := 226) (g := g) (n := (List.length xs)) (c := cap) (h := q) (sz := 3) (by kernel_rfl) (by kernel_rfl) (by omega)))) ?_
  refine q_val (.slice (some ⟨g, 0, none⟩) (List.length xs) cap) (by kernel_rfl) (fun _ => by kernel_rfl) ?_
  refine q_val (.int .i64 (((q + 1) : Nat) : Int)) (by kernel_rfl) (fun _ => by kernel_rfl) ?_
  refine q_val ((sliced (some ⟨g, 0, none⟩) (q + 1) (List.length xs) cap 3)) (by kernel_rfl) (fun _ => (Eq.trans (by kernel_rfl) (slcL (P := Try.prog) (t := 226) (b := some ⟨g, 0, none⟩) (n := (List.length xs)) (c := cap) (l := (q + 1)) (sz := 3) (by kernel_rfl) (by kernel_rfl) (by omega)))) ?_
  refine q_nil ?_
  clear H
  intro v1 H
  refine x_appendIn H 0 226 230 3 g (List.length xs) q (q + 1) cap (List.flatMap pairLB xs) rfl (by kernel_rfl) (by kernel_rfl) (oneCellFlat pairOneB xs) (by omega) (by omega) (by kernel_rfl) rfl (by kernel_rfl) ?_
  clear H
  intro v2 H
  rw [show (List.take (q * 3) (List.flatMap pairLB xs) ++ List.drop ((q + 1) * 3) (List.flatMap pairLB xs)) = (List.flatMap pairLB (xs.eraseIdx q)) from (flatErase pairLenB xs q)] at H
  replace H : Hs (fps [.row (.slice (some ⟨g, 0, none⟩) (List.length xs) cap) 230 3 (List.length xs) (List.flatMap pairLB xs)]) w0 v2 [.row (.slice (some ⟨g, 0, none⟩) (q + ((List.length xs) - (q + 1))) cap) 230 3 (q + ((List.length xs) - (q + 1))) (List.flatMap pairLB (xs.eraseIdx q))] := H
  refine x_val (.slice (some ⟨g, 0, none⟩) (q + ((List.length xs) - (q + 1))) cap) (by kernel_rfl) rfl (by kernel_rfl) ?_
  refine x_nil ?_
  refine x_then ?_
  refine x_seq ?_
  refine x_region ?_
  refine x_val (.slice (some ⟨g, 0, none⟩) (q + ((List.length xs) - (q + 1))) cap) (by kernel_rfl) rfl (by kernel_rfl) ?_
  refine x_val (.slice (some ⟨g, 0, none⟩) (q + ((List.length xs) - (q + 1))) cap) (by kernel_rfl) rfl (by kernel_rfl) ?_
  refine x_val (.int .i64 (((q + ((List.length xs) - (q + 1))) : Nat) : Int)) (by kernel_rfl) rfl (by kernel_rfl) ?_
  refine x_val (.int .i64 (((List.length xs) : Nat) : Int)) (by kernel_rfl) rfl (by kernel_rfl) ?_
  refine x_val (.slice (some ⟨g, (q + ((List.length xs) - (q + 1))) * 3, none⟩) ((List.length xs) - (q + ((List.length xs) - (q + 1)))) (cap - (q + ((List.length xs) - (q + 1))))) (by kernel_rfl) rfl (Eq.trans (by kernel_rfl) (slcLH (P := Try.prog) (t := 226) (g := g) (n := (q + ((List.length xs) - (q + 1)))) (c := cap) (l := (q + ((List.length xs) - (q + 1)))) (h := (List.length xs)) (sz := 3) (by kernel_rfl) (by kernel_rfl) (by omega) (by omega) (by omega))) ?_
  refine x_clear H 0 226 230 3 g (q + ((List.length xs) - (q + 1))) cap (cap - (q + ((List.length xs) - (q + 1)))) (.agg #[.int .i64 0, .int .i64 0, .int .i64 0]) (List.flatMap pairLB (xs.eraseIdx q)) rfl (by kernel_rfl) (fun _ => run_zero (by kernel_rfl)) rfl (by decide) (by kernel_rfl) (by omega) (by kernel_rfl) rfl rfl (by rw [show List.length xs - (q + (List.length xs - (q + 1))) = 1 by omega]; kernel_rfl) ?_
  clear H
  intro v3 H
  refine x_nil ?_
  refine x_then ?_
  refine x_seq ?_
  refine x_region ?_
  refine x_val (.slice (some ⟨g, 0, none⟩) (q + ((List.length xs) - (q + 1))) cap) (by kernel_rfl) rfl (by kernel_rfl) ?_
  refine x_val (.slice (some ⟨g, 0, none⟩) (q + ((List.length xs) - (q + 1))) cap) (by kernel_rfl) rfl (by kernel_rfl) ?_
  refine x_nil ?_
  refine x_then ?_
  refine x_retc ?_
  refine x_ret (.slice (some ⟨g, 0, none⟩) (q + ((List.length xs) - (q + 1))) cap) (by kernel_rfl) (by kernel_rfl) ?_
  have hm : q + (List.length xs - (q + 1)) = (xs.eraseIdx q).length := by rw [List.length_eraseIdx, if_pos hq]; omega
  rw [hm] at H ⊢
  exact ⟨rfl, H⟩

set_option maxRecDepth 100000 in
set_option maxHeartbeats 4000000 in
theorem remove_B {t g cap : Nat} {xs : List PairB} {room : Nat} (q : Nat) (hq : q < xs.length) (hn : xs.length ≤ 4096) (w0 : World) (H0 : Hs (fps [.blk t #[.slice (some ⟨g, 0, none⟩) (List.length xs) cap, .int .i64 ((room : Nat) : Int), .func (.func 103) #[] #[]] 228, .row (.slice (some ⟨g, 0, none⟩) (List.length xs) cap) 230 3 (List.length xs) (List.flatMap pairLB xs)]) w0 w0 [.blk t #[.slice (some ⟨g, 0, none⟩) (List.length xs) cap, .int .i64 ((room : Nat) : Int), .func (.func 103) #[] #[]] 228, .row (.slice (some ⟨g, 0, none⟩) (List.length xs) cap) 230 3 (List.length xs) (List.flatMap pairLB xs)]) :
    Calls Try.prog 151 #[.pointer (some ⟨t, 0, none⟩), .int .i64 ((q : Nat) : Int)] w0 fun e w' => e = .returned (.int .i64 ((xs.getD q (0, 0, 0)).1)) ∧ Hs (fps [.blk t #[.slice (some ⟨g, 0, none⟩) (List.length xs) cap, .int .i64 ((room : Nat) : Int), .func (.func 103) #[] #[]] 228, .row (.slice (some ⟨g, 0, none⟩) (List.length xs) cap) 230 3 (List.length xs) (List.flatMap pairLB xs)]) w0 w' [.blk t #[.slice (some ⟨g, 0, none⟩) (List.length (xs.eraseIdx q)) cap, .int .i64 ((room : Nat) : Int), .func (.func 103) #[] #[]] 228, .row (.slice (some ⟨g, 0, none⟩) (List.length (xs.eraseIdx q)) cap) 230 3 (List.length (xs.eraseIdx q)) (List.flatMap pairLB (xs.eraseIdx q))] := by
  refine x_enter Try.func151 rfl #[.pointer (some ⟨t, 0, none⟩), .int .i64 ((q : Nat) : Int), undef, undef, undef, undef, undef, undef, undef, undef, undef, undef, undef, undef, undef, undef, undef, undef, undef, undef, undef, undef, undef, undef, undef, undef] (by kernel_rfl) ?_
  have H := H0
  have hi : ((q : Nat) : Int) = ((q : Nat) : Int) := rfl
  refine x_seq ?_
  refine x_region ?_
  refine x_val (.int .i64 0) (by kernel_rfl) rfl (by kernel_rfl) ?_
  refine x_nil ?_
  refine x_then ?_
  refine x_seq ?_
  refine x_region ?_
  refine x_val (.pointer (some ⟨t, 0, none⟩)) (by kernel_rfl) rfl (by kernel_rfl) ?_
  refine x_val (.pointer (some ⟨t, 0, none⟩)) (by kernel_rfl) rfl (by kernel_rfl) ?_
  refine x_val (.pointer (some ⟨t, 0, none⟩)) (by kernel_rfl) rfl (by kernel_rfl) ?_
  refine x_load1 H 0 t 0 _ _ (.slice (some ⟨g, 0, none⟩) (List.length xs) cap) rfl (by kernel_rfl) (by kernel_rfl) rfl (by kernel_rfl) ?_
  refine x_val (.int .i64 ((q : Nat) : Int)) (by kernel_rfl) rfl (by kernel_rfl) ?_
  refine x_ix (t := 226) g 0 q (List.length xs) cap 230 3 (q * 3) (by omega) (by omega) (by kernel_rfl) (by kernel_rfl) (by kernel_rfl) rfl (by kernel_rfl) ?_
  refine x_val (.pointer (some ⟨g, q * 3, none⟩)) (by kernel_rfl) rfl (by kernel_rfl) ?_
  refine x_loadc g (q * 3) (.int .i64 ((xs.getD q (0, 0, 0)).1)) ((H.rowCells 1 rfl (q * 3) (flatAt pairLenB (0, 0, 0) _ (by omega))) 0 _ rfl) (by kernel_rfl) rfl (by kernel_rfl) ?_
  refine x_val (.int .i64 ((xs.getD q (0, 0, 0)).1)) (by kernel_rfl) rfl (by kernel_rfl) ?_
  refine x_nil ?_
  refine x_then ?_
  refine x_seq ?_
  refine x_region ?_
  refine x_val (.pointer (some ⟨t, 0, none⟩)) (by kernel_rfl) rfl (by kernel_rfl) ?_
  refine x_val (.pointer (some ⟨t, 0, none⟩)) (by kernel_rfl) rfl (by kernel_rfl) ?_
  refine x_val (.pointer (some ⟨t, 0, none⟩)) (by kernel_rfl) rfl (by kernel_rfl) ?_
  refine x_val (.pointer (some ⟨t, 0, none⟩)) (by kernel_rfl) rfl (by kernel_rfl) ?_
  refine x_load1 H 0 t 0 _ _ (.slice (some ⟨g, 0, none⟩) (List.length xs) cap) rfl (by kernel_rfl) (by kernel_rfl) rfl (by kernel_rfl) ?_
  refine x_val (.int .i64 ((q : Nat) : Int)) (by kernel_rfl) rfl (by kernel_rfl) ?_
  refine x_val (.int .i64 ((q : Nat) : Int)) (by kernel_rfl) rfl (by kernel_rfl) ?_
  refine x_ar (((q : Nat) : Int) + 1) ⟨by omega, by omega⟩ (by kernel_rfl) rfl (by kernel_rfl) ?_
  refine x_callH (.slice (some ⟨g, 0, none⟩) (List.length (xs.eraseIdx q)) cap) [.row (.slice (some ⟨g, 0, none⟩) (List.length (xs.eraseIdx q)) cap) 230 3 (List.length (xs.eraseIdx q)) (List.flatMap pairLB (xs.eraseIdx q)), .blk t #[.slice (some ⟨g, 0, none⟩) (List.length xs) cap, .int .i64 ((room : Nat) : Int), .func (.func 103) #[] #[]] 228] (by kernel_rfl) rfl (by kernel_rfl) (Hs.use (A := [.row (.slice (some ⟨g, 0, none⟩) (List.length xs) cap) 230 3 (List.length xs) (List.flatMap pairLB xs)]) (R := [.blk t #[.slice (some ⟨g, 0, none⟩) (List.length xs) cap, .int .i64 ((room : Nat) : Int), .func (.func 103) #[] #[]] 228]) (H.pick [1, 0] _ (by decide) (by kernel_rfl)) (fun h => Del_B xs q hq hn ((q : Nat) : Int) (((q : Nat) : Int) + 1) hi (by rw [hi]) _ h)) ?_
  clear H
  intro v1 H
  refine x_val (.pointer (some ⟨t, 0, none⟩)) (by kernel_rfl) rfl (by kernel_rfl) ?_
  refine x_val (.pointer (some ⟨t, 0, none⟩)) (by kernel_rfl) rfl (by kernel_rfl) ?_
  refine x_store (t := 226) (v := .slice (some ⟨g, 0, none⟩) (List.length (xs.eraseIdx q)) cap) H 1 t 0 _ #[.slice (some ⟨g, 0, none⟩) (List.length (xs.eraseIdx q)) cap, .int .i64 ((room : Nat) : Int), .func (.func 103) #[] #[]] 228 [.slice (some ⟨g, 0, none⟩) (List.length (xs.eraseIdx q)) cap] _ rfl rfl (by kernel_rfl) (by kernel_rfl) (by kernel_rfl) rfl (by kernel_rfl) (by kernel_rfl) (by kernel_rfl) (by kernel_rfl) ?_
  clear H
  intro v2 H
  refine x_nil ?_
  refine x_then ?_
  refine x_seq ?_
  refine x_region ?_
  refine x_val (.int .i64 ((xs.getD q (0, 0, 0)).1)) (by kernel_rfl) rfl (by kernel_rfl) ?_
  refine x_val (.int .i64 ((xs.getD q (0, 0, 0)).1)) (by kernel_rfl) rfl (by kernel_rfl) ?_
  refine x_nil ?_
  refine x_then ?_
  refine x_retc ?_
  refine x_ret (.int .i64 ((xs.getD q (0, 0, 0)).1)) (by kernel_rfl) (by kernel_rfl) ?_
  replace H := H.pick [1, 0] [.blk t #[.slice (some ⟨g, 0, none⟩) (List.length (xs.eraseIdx q)) cap, .int .i64 ((room : Nat) : Int), .func (.func 103) #[] #[]] 228, .row (.slice (some ⟨g, 0, none⟩) (List.length (xs.eraseIdx q)) cap) 230 3 (List.length (xs.eraseIdx q)) (List.flatMap pairLB (xs.eraseIdx q))] (by decide) (by kernel_rfl)
  exact ⟨rfl, H⟩

end Go.Proofs.Ytgpalgbdacoagaa
