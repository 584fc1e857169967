/- Contracts of table.Table: find, lightest, remove. -/
import Derived.Test.YtpeefnbcgilihaaPxD
import Derived.Test.YtpeefnbcgilihaaPxR
import Derived.Test.YtpeefnbcgilihaaOpenMix
namespace Go.Proofs.Ytpeefnbcgilihaa
open Go Go.RowKit
set_option linter.unusedVariables false
set_option linter.unusedSimpArgs false

set_option maxRecDepth 100000 in
set_option maxHeartbeats 1000000 in
theorem weigh_any (v : Int) (w0 : World) :
    Calls Try.prog 26 #[.int .i64 v] w0 fun e w' => e = .returned (.int .i64 v) ∧ Below w0.heap.size w0 w' := by
  refine x_enter Try.func26 rfl #[.int .i64 v, undef, undef, undef] (by kernel_rfl) ?_
  have H := Hs.nil w0
  refine x_seq ?_
  refine x_region ?_
  refine x_val (.int .i64 0) (by kernel_rfl) rfl (by kernel_rfl) ?_
  refine x_nil ?_
  refine x_then ?_
  refine x_seq ?_
  refine x_region ?_
  refine x_val (.int .i64 v) (by kernel_rfl) rfl (by kernel_rfl) ?_
  refine x_val (.int .i64 v) (by kernel_rfl) rfl (by kernel_rfl) ?_
  refine x_nil ?_
  refine x_then ?_
  refine x_retc ?_
  refine x_ret (.int .i64 v) (by kernel_rfl) (by kernel_rfl) ?_
  exact ⟨rfl, H.below⟩

def eqkI (a b : Int) : Bool := decide (a = b)
def eqkS (a b : ByteArray) : Bool := a.toList == b.toList

abbrev PairI := Int × Int
def pairLI (x : PairI) : List Value := [.int .i64 x.1, .int .i64 x.2]
theorem pairLenI (x : PairI) : (pairLI x).length = 2 := rfl
theorem pairOneI (x : PairI) : ∀ v ∈ pairLI x, v.oneCell' = true := fun v hv => by
  simp only [pairLI, List.mem_cons, List.not_mem_nil, or_false] at hv
  rcases hv with rfl | rfl <;> rfl
/-- The place of a key. -/
def fkI (xs : List PairI) (k : Int) : Nat := xs.findIdx fun x => eqkI x.1 k
def findI (xs : List PairI) (k : Int) : Int := if fkI xs k < xs.length then ((fkI xs k : Nat) : Int) else -1
theorem fk_allI (xs : List PairI) (k : Int) : ∀ j, j < fkI xs k → eqkI (xs.getD j (0, 0)).1 k = false := fun j hj => by
  have hl : j < xs.length := Nat.lt_of_lt_of_le hj List.findIdx_le_length
  have this : eqkI (xs[j]).1 k = false := by have q := List.not_of_lt_findIdx hj; simpa using q
  simp only [List.getD, List.getElem?_eq_getElem hl, Option.getD_some]
  exact this
theorem fk_atI (xs : List PairI) (k : Int) (h : fkI xs k < xs.length) : eqkI (xs.getD (fkI xs k) (0, 0)).1 k = true := by
  have := List.findIdx_getElem (w := h)
  simp only [List.getD, List.getElem?_eq_getElem h, Option.getD_some]
  exact this
/-- The place of the first of the lightest, and its weight. -/
def ltI (xs : List PairI) : Nat → Nat × Int
  | 0 => (0, 0)
  | k + 1 => if k = 0 ∨ (xs.getD k (0, 0)).2 < (ltI xs k).2 then (k, (xs.getD k (0, 0)).2) else ltI xs k

set_option maxRecDepth 100000 in
set_option maxHeartbeats 2000000 in
theorem find1_I (a key : Int) (v : Int) (q : Nat) (w0 : World) (hR : Ro w0 [.blk q #[.int .i64 key] 3]) :
    Calls Try.prog 57 #[.agg #[.int .i64 a, .int .i64 v], .pointer (some ⟨q, 0, none⟩)] w0 fun e w' => e = .returned (.bool (eqkI a key)) ∧ Below w0.heap.size w0 w' := by
  refine x_enter Try.func57 rfl #[.agg #[.int .i64 a, .int .i64 v], .pointer (some ⟨q, 0, none⟩), undef, undef, undef, undef, undef, undef] (by kernel_rfl) ?_
  have H := Hs.nil w0
  have R0 := hR
  refine x_seq ?_
  refine x_region ?_
  refine x_box H #[.int .i64 a, .int .i64 v] 92 (by kernel_rfl) rfl (by kernel_rfl) ?_
  clear H
  intro v1 g1 H
  refine x_val (.bool false) (by kernel_rfl) rfl (by kernel_rfl) ?_
  refine x_nil ?_
  refine x_then ?_
  refine x_seq ?_
  refine x_region ?_
  refine x_val (.pointer (some ⟨g1, 0, none⟩)) (by kernel_rfl) rfl (by kernel_rfl) ?_
  refine x_load1 H 0 g1 0 #[.int .i64 a, .int .i64 v] 92 (.int .i64 a) (by kernel_rfl) (by kernel_rfl) (by kernel_rfl) rfl (by kernel_rfl) ?_
  refine x_loadc q 0 (.int .i64 key) ((H.ro R0).cell 0 rfl 0 rfl) (by kernel_rfl) rfl (by kernel_rfl) ?_
  refine x_val (.bool (decide (a = key))) (by kernel_rfl) rfl (by kernel_rfl) ?_
  refine x_val (.bool (decide (a = key))) (by kernel_rfl) rfl (by kernel_rfl) ?_
  refine x_nil ?_
  refine x_then ?_
  refine x_retc ?_
  refine x_ret (.bool (decide (a = key))) (by kernel_rfl) (by kernel_rfl) ?_
  exact ⟨rfl, H.below⟩

set_option maxRecDepth 100000 in
set_option maxHeartbeats 2000000 in
theorem IxI_yes {g cap : Nat} (xs : List PairI) (key : Int) (q : Nat) (hn : xs.length ≤ 4096) (n : Nat) (hq : n < xs.length) (hall : ∀ j, j < n → eqkI (xs.getD j (0, 0)).1 key = false) (hq2 : eqkI (xs.getD n (0, 0)).1 key = true) (w0 : World) (hR : Ro w0 [.row (.slice (some ⟨g, 0, none⟩) (List.length xs) cap) 92 2 (List.length xs) (List.flatMap pairLI xs), .blk q #[.int .i64 key] 3]) :
    Calls Try.prog 56 #[.slice (some ⟨g, 0, none⟩) (List.length xs) cap, .func (.func 57) #[] #[.pointer (some ⟨q, 0, none⟩)]] w0 fun e w' => e = .returned (.int .i64 ((n : Nat) : Int)) ∧ Below w0.heap.size w0 w' := by
  refine x_enter Try.func56 rfl #[.slice (some ⟨g, 0, none⟩) (List.length xs) cap, .func (.func 57) #[] #[.pointer (some ⟨q, 0, none⟩)], undef, undef, undef, undef, undef, undef, undef, undef, undef, undef, undef, undef, undef, undef, undef, undef, undef] (by kernel_rfl) ?_
  have H := Hs.nil w0
  have R0 := hR
  refine x_seq ?_
  refine x_region ?_
  refine x_val (.int .i64 0) (by kernel_rfl) rfl (by kernel_rfl) ?_
  refine x_nil ?_
  refine x_then ?_
  refine x_seq ?_
  refine x_seq ?_
  refine x_region ?_
  refine x_val (.slice (some ⟨g, 0, none⟩) (List.length xs) cap) (by kernel_rfl) rfl (by kernel_rfl) ?_
  refine x_val (.int .i64 (((List.length xs) : Nat) : Int)) (by kernel_rfl) rfl (by kernel_rfl) ?_
  refine x_val (.int .i64 0) (by kernel_rfl) rfl (by kernel_rfl) ?_
  refine x_nil ?_
  refine x_then ?_
  refine x_block ?_
  refine x_loop (G := Nat) (fun (k : Nat) a w' => ∃ uf1 : Nat → Value, a = { tmps := #[.slice (some ⟨g, 0, none⟩) (List.length xs) cap, .func (.func 57) #[] #[.pointer (some ⟨q, 0, none⟩)], undef, undef, (uf1 0), (uf1 1), .slice (some ⟨g, 0, none⟩) (List.length xs) cap, .int .i64 (((List.length xs) : Nat) : Int), .int .i64 ((k : Nat) : Int), (uf1 2), (uf1 3), (uf1 4), (uf1 5), (uf1 6), (uf1 7), (uf1 8), (uf1 9), (uf1 10), (uf1 11)], defers := [] } ∧ Hs [] w0 w' [] ∧ (k ≤ n)) (fun (k : Nat) => xs.length - k) 0 ⟨(nthV [.int .i64 0, undef, undef, undef, undef, undef, undef, undef, undef, undef, undef, undef]), (by kernel_rfl), H, (Nat.zero_le _)⟩ ?_
  clear H
  rintro k _ v1 ⟨uf1, rfl, H, r1⟩
  refine x_seq ?_
  refine x_region ?_
  refine x_val (.bool (decide (((k : Nat) : Int) < (((List.length xs) : Nat) : Int)))) (by kernel_rfl) rfl (by kernel_rfl) ?_
  refine x_nil ?_
  refine x_then ?_
  refine x_seq ?_
  cases h1 : decide (((k : Nat) : Int) < (((List.length xs) : Nat) : Int))
  · skip
    have h1p := of_decide_eq_false h1
    refine x_f (by kernel_rfl) ?_
    refine x_exit ?_
    refine x_then_exit ?_
    refine x_then_exit ?_
    refine x_blk_exit ?_
    refine x_then ?_
    refine x_seq ?_
    refine x_region ?_
    refine x_val (.int .i64 (-1)) (by kernel_rfl) rfl (by kernel_rfl) ?_
    refine x_nil ?_
    refine x_then ?_
    refine x_retc ?_
    refine x_ret (.int .i64 (-1)) (by kernel_rfl) (by kernel_rfl) ?_
    exfalso; omega
  · skip
    have h1p := of_decide_eq_true h1
    refine x_t (by kernel_rfl) ?_
    refine x_skipc ?_
    refine x_then ?_
    refine x_seq ?_
    refine x_block ?_
    refine x_seq ?_
    refine x_region ?_
    refine x_val (.int .i64 ((k : Nat) : Int)) (by kernel_rfl) rfl (by kernel_rfl) ?_
    refine x_val (.int .i64 ((k : Nat) : Int)) (by kernel_rfl) rfl (by kernel_rfl) ?_
    refine x_nil ?_
    refine x_then ?_
    refine x_seq ?_
    refine x_region ?_
    refine x_val (.func (.func 57) #[] #[.pointer (some ⟨q, 0, none⟩)]) (by kernel_rfl) rfl (by kernel_rfl) ?_
    refine x_val (.slice (some ⟨g, 0, none⟩) (List.length xs) cap) (by kernel_rfl) rfl (by kernel_rfl) ?_
    refine x_val (.int .i64 ((k : Nat) : Int)) (by kernel_rfl) rfl (by kernel_rfl) ?_
    refine x_ix (t := 88) g 0 k (List.length xs) cap 92 2 (k * 2) (by omega) (by omega) (by kernel_rfl) (by kernel_rfl) (by kernel_rfl) rfl (by kernel_rfl) ?_
    refine x_loadcn (t := 92) g (k * 2) [.int .i64 ((xs.getD k (0, 0)).1), .int .i64 ((xs.getD k (0, 0)).2)] ((H.ro R0).rowCells 0 rfl (k * 2) (flatAt pairLenI (0, 0) _ (by omega))) (by kernel_rfl) rfl (by kernel_rfl) (by kernel_rfl) ?_
    refine x_callB (.bool (eqkI ((xs.getD k (0, 0)).1) key)) H (by kernel_rfl) rfl (by kernel_rfl) (find1_I ((xs.getD k (0, 0)).1) key ((xs.getD k (0, 0)).2) q _ ((H.ro R0).pick [1] [.blk q #[.int .i64 key] 3] (by kernel_rfl))) ?_
    clear H
    intro v2 H
    refine x_nil ?_
    refine x_then ?_
    cases h2 : eqkI ((xs.getD k (0, 0)).1) key
    · skip
      have hkq : k + 1 ≤ n := by
        rcases Nat.lt_or_ge k n with h | h
        · omega
        · rw [show k = n by omega, hq2] at h2; cases h2
      refine x_f (by kernel_rfl) ?_
      refine x_skipc ?_
      refine x_blk ?_
      refine x_then ?_
      refine x_region ?_
      refine x_ar (((k : Nat) : Int) + 1) ⟨by omega, by omega⟩ (by kernel_rfl) rfl (by kernel_rfl) ?_
      refine x_val (.int .i64 (((k : Nat) : Int) + 1)) (by kernel_rfl) rfl (by kernel_rfl) ?_
      refine x_nil ?_
      refine x_then ?_
      exact ⟨(k + 1), (by omega), (nthV [(uf1 0), .int .i64 ((k : Nat) : Int), .bool true, .int .i64 ((k : Nat) : Int), .func (.func 57) #[] #[.pointer (some ⟨q, 0, none⟩)], .slice (some ⟨g, 0, none⟩) (List.length xs) cap, .int .i64 ((k : Nat) : Int), .pointer (some ⟨g, k * 2, none⟩), .agg #[.int .i64 ((xs.getD k (0, 0)).1), .int .i64 ((xs.getD k (0, 0)).2)], .bool false, (uf1 10), .int .i64 (((k : Nat) : Int) + 1)]), (by kernel_rfl), H, (by omega)⟩
    · skip
      refine x_t (by kernel_rfl) ?_
      refine x_seq ?_
      refine x_region ?_
      refine x_val (.int .i64 ((k : Nat) : Int)) (by kernel_rfl) rfl (by kernel_rfl) ?_
      refine x_val (.int .i64 ((k : Nat) : Int)) (by kernel_rfl) rfl (by kernel_rfl) ?_
      refine x_nil ?_
      refine x_then ?_
      refine x_retc ?_
      refine x_blk_ret ?_
      refine x_then_ret ?_
      refine x_then_ret ?_
      refine x_blk_ret ?_
      refine x_then_ret ?_
      refine x_ret (.int .i64 ((k : Nat) : Int)) (by kernel_rfl) (by kernel_rfl) ?_
      have hkq : k = n := by
        rcases Nat.lt_or_ge k n with h | h
        · have q := hall k h; rw [h2] at q; cases q
        · omega
      subst hkq
      exact ⟨rfl, H.below⟩

set_option maxRecDepth 100000 in
set_option maxHeartbeats 2000000 in
theorem IxI_no {g cap : Nat} (xs : List PairI) (key : Int) (q : Nat) (hn : xs.length ≤ 4096) (hall : ∀ j, j < xs.length → eqkI (xs.getD j (0, 0)).1 key = false) (w0 : World) (hR : Ro w0 [.row (.slice (some ⟨g, 0, none⟩) (List.length xs) cap) 92 2 (List.length xs) (List.flatMap pairLI xs), .blk q #[.int .i64 key] 3]) :
    Calls Try.prog 56 #[.slice (some ⟨g, 0, none⟩) (List.length xs) cap, .func (.func 57) #[] #[.pointer (some ⟨q, 0, none⟩)]] w0 fun e w' => e = .returned (.int .i64 (-1)) ∧ Below w0.heap.size w0 w' := by
  refine x_enter Try.func56 rfl #[.slice (some ⟨g, 0, none⟩) (List.length xs) cap, .func (.func 57) #[] #[.pointer (some ⟨q, 0, none⟩)], undef, undef, undef, undef, undef, undef, undef, undef, undef, undef, undef, undef, undef, undef, undef, undef, undef] (by kernel_rfl) ?_
  have H := Hs.nil w0
  have R0 := hR
  refine x_seq ?_
  refine x_region ?_
  refine x_val (.int .i64 0) (by kernel_rfl) rfl (by kernel_rfl) ?_
  refine x_nil ?_
  refine x_then ?_
  refine x_seq ?_
  refine x_seq ?_
  refine x_region ?_
  refine x_val (.slice (some ⟨g, 0, none⟩) (List.length xs) cap) (by kernel_rfl) rfl (by kernel_rfl) ?_
  refine x_val (.int .i64 (((List.length xs) : Nat) : Int)) (by kernel_rfl) rfl (by kernel_rfl) ?_
  refine x_val (.int .i64 0) (by kernel_rfl) rfl (by kernel_rfl) ?_
  refine x_nil ?_
  refine x_then ?_
  refine x_block ?_
  refine x_loop (G := Nat) (fun (k : Nat) a w' => ∃ uf1 : Nat → Value, a = { tmps := #[.slice (some ⟨g, 0, none⟩) (List.length xs) cap, .func (.func 57) #[] #[.pointer (some ⟨q, 0, none⟩)], undef, undef, (uf1 0), (uf1 1), .slice (some ⟨g, 0, none⟩) (List.length xs) cap, .int .i64 (((List.length xs) : Nat) : Int), .int .i64 ((k : Nat) : Int), (uf1 2), (uf1 3), (uf1 4), (uf1 5), (uf1 6), (uf1 7), (uf1 8), (uf1 9), (uf1 10), (uf1 11)], defers := [] } ∧ Hs [] w0 w' [] ∧ (k ≤ xs.length)) (fun (k : Nat) => xs.length - k) 0 ⟨(nthV [.int .i64 0, undef, undef, undef, undef, undef, undef, undef, undef, undef, undef, undef]), (by kernel_rfl), H, (Nat.zero_le _)⟩ ?_
  clear H
  rintro k _ v1 ⟨uf1, rfl, H, r1⟩
  refine x_seq ?_
  refine x_region ?_
  refine x_val (.bool (decide (((k : Nat) : Int) < (((List.length xs) : Nat) : Int)))) (by kernel_rfl) rfl (by kernel_rfl) ?_
  refine x_nil ?_
  refine x_then ?_
  refine x_seq ?_
  cases h1 : decide (((k : Nat) : Int) < (((List.length xs) : Nat) : Int))
  · skip
    have h1p := of_decide_eq_false h1
    refine x_f (by kernel_rfl) ?_
    refine x_exit ?_
    refine x_then_exit ?_
    refine x_then_exit ?_
    refine x_blk_exit ?_
    refine x_then ?_
    refine x_seq ?_
    refine x_region ?_
    refine x_val (.int .i64 (-1)) (by kernel_rfl) rfl (by kernel_rfl) ?_
    refine x_nil ?_
    refine x_then ?_
    refine x_retc ?_
    refine x_ret (.int .i64 (-1)) (by kernel_rfl) (by kernel_rfl) ?_
    exact ⟨rfl, H.below⟩
  · skip
    have h1p := of_decide_eq_true h1
    refine x_t (by kernel_rfl) ?_
    refine x_skipc ?_
    refine x_then ?_
    refine x_seq ?_
    refine x_block ?_
    refine x_seq ?_
    refine x_region ?_
    refine x_val (.int .i64 ((k : Nat) : Int)) (by kernel_rfl) rfl (by kernel_rfl) ?_
    refine x_val (.int .i64 ((k : Nat) : Int)) (by kernel_rfl) rfl (by kernel_rfl) ?_
    refine x_nil ?_
    refine x_then ?_
    refine x_seq ?_
    refine x_region ?_
    refine x_val (.func (.func 57) #[] #[.pointer (some ⟨q, 0, none⟩)]) (by kernel_rfl) rfl (by kernel_rfl) ?_
    refine x_val (.slice (some ⟨g, 0, none⟩) (List.length xs) cap) (by kernel_rfl) rfl (by kernel_rfl) ?_
    refine x_val (.int .i64 ((k : Nat) : Int)) (by kernel_rfl) rfl (by kernel_rfl) ?_
    refine x_ix (t := 88) g 0 k (List.length xs) cap 92 2 (k * 2) (by omega) (by omega) (by kernel_rfl) (by kernel_rfl) (by kernel_rfl) rfl (by kernel_rfl) ?_
    refine x_loadcn (t := 92) g (k * 2) [.int .i64 ((xs.getD k (0, 0)).1), .int .i64 ((xs.getD k (0, 0)).2)] ((H.ro R0).rowCells 0 rfl (k * 2) (flatAt pairLenI (0, 0) _ (by omega))) (by kernel_rfl) rfl (by kernel_rfl) (by kernel_rfl) ?_
    refine x_callB (.bool (eqkI ((xs.getD k (0, 0)).1) key)) H (by kernel_rfl) rfl (by kernel_rfl) (find1_I ((xs.getD k (0, 0)).1) key ((xs.getD k (0, 0)).2) q _ ((H.ro R0).pick [1] [.blk q #[.int .i64 key] 3] (by kernel_rfl))) ?_
    clear H
    intro v2 H
    refine x_nil ?_
    refine x_then ?_
    cases h2 : eqkI ((xs.getD k (0, 0)).1) key
    · skip
      refine x_f (by kernel_rfl) ?_
      refine x_skipc ?_
      refine x_blk ?_
      refine x_then ?_
      refine x_region ?_
      refine x_ar (((k : Nat) : Int) + 1) ⟨by omega, by omega⟩ (by kernel_rfl) rfl (by kernel_rfl) ?_
      refine x_val (.int .i64 (((k : Nat) : Int) + 1)) (by kernel_rfl) rfl (by kernel_rfl) ?_
      refine x_nil ?_
      refine x_then ?_
      exact ⟨(k + 1), (by omega), (nthV [(uf1 0), .int .i64 ((k : Nat) : Int), .bool true, .int .i64 ((k : Nat) : Int), .func (.func 57) #[] #[.pointer (some ⟨q, 0, none⟩)], .slice (some ⟨g, 0, none⟩) (List.length xs) cap, .int .i64 ((k : Nat) : Int), .pointer (some ⟨g, k * 2, none⟩), .agg #[.int .i64 ((xs.getD k (0, 0)).1), .int .i64 ((xs.getD k (0, 0)).2)], .bool false, (uf1 10), .int .i64 (((k : Nat) : Int) + 1)]), (by kernel_rfl), H, (by omega)⟩
    · skip
      exact absurd (hall k (by omega)) (by rw [h2]; decide)

set_option maxRecDepth 100000 in
set_option maxHeartbeats 2000000 in
theorem IxI_nil (f : Value) (w0 : World) :
    Calls Try.prog 56 #[.slice none 0 0, f] w0 fun e w' => e = .returned (.int .i64 (-1)) ∧ Below w0.heap.size w0 w' := by
  refine x_enter Try.func56 rfl #[.slice none 0 0, f, undef, undef, undef, undef, undef, undef, undef, undef, undef, undef, undef, undef, undef, undef, undef, undef, undef] (by kernel_rfl) ?_
  have H := Hs.nil w0
  refine x_seq ?_
  refine x_region ?_
  refine x_val (.int .i64 0) (by kernel_rfl) rfl (by kernel_rfl) ?_
  refine x_nil ?_
  refine x_then ?_
  refine x_seq ?_
  refine x_seq ?_
  refine x_region ?_
  refine x_val (.slice none 0 0) (by kernel_rfl) rfl (by kernel_rfl) ?_
  refine x_val (.int .i64 0) (by kernel_rfl) rfl (by kernel_rfl) ?_
  refine x_val (.int .i64 0) (by kernel_rfl) rfl (by kernel_rfl) ?_
  refine x_nil ?_
  refine x_then ?_
  refine x_block ?_
  refine x_loop (G := Unit) (fun (_ : Unit) a w' => ∃ uf1 : Nat → Value, a = { tmps := #[.slice none 0 0, f, undef, undef, (uf1 0), (uf1 1), .slice none 0 0, .int .i64 0, .int .i64 0, (uf1 2), (uf1 3), (uf1 4), (uf1 5), (uf1 6), (uf1 7), (uf1 8), (uf1 9), (uf1 10), (uf1 11)], defers := [] } ∧ Hs [] w0 w' []) (fun _ => 0) () ⟨(nthV [.int .i64 0, undef, undef, undef, undef, undef, undef, undef, undef, undef, undef, undef]), (by kernel_rfl), H⟩ ?_
  clear H
  rintro _ _ v1 ⟨uf1, rfl, H⟩
  refine x_seq ?_
  refine x_region ?_
  refine x_val (.bool false) (by kernel_rfl) rfl (by kernel_rfl) ?_
  refine x_nil ?_
  refine x_then ?_
  refine x_seq ?_
  refine x_f (by kernel_rfl) ?_
  refine x_exit ?_
  refine x_then_exit ?_
  refine x_then_exit ?_
  refine x_blk_exit ?_
  refine x_then ?_
  refine x_seq ?_
  refine x_region ?_
  refine x_val (.int .i64 (-1)) (by kernel_rfl) rfl (by kernel_rfl) ?_
  refine x_nil ?_
  refine x_then ?_
  refine x_retc ?_
  refine x_ret (.int .i64 (-1)) (by kernel_rfl) (by kernel_rfl) ?_
  exact ⟨rfl, H.below⟩

theorem IxI {sv : Value} (xs : List PairI) (key : Int) (q : Nat) (hn : xs.length ≤ 4096) (w0 : World) (hR : Ro w0 [.row (sv) 92 2 (List.length xs) (List.flatMap pairLI xs), .blk q #[.int .i64 key] 3]) : Calls Try.prog 56 #[sv, .func (.func 57) #[] #[.pointer (some ⟨q, 0, none⟩)]] w0 fun e w' => e = .returned (.int .i64 (findI xs key)) ∧ Below w0.heap.size w0 w' := by
  rcases rowForm (hR 0 _ rfl : w0.ownsRow 0 _ 2 sv _ _) with ⟨rfl, h0⟩ | ⟨g, cap, rfl, hc, _⟩
  · have e : findI xs key = -1 := by unfold findI; rw [if_neg (by omega)]
    rw [e]; exact IxI_nil _ w0
  · unfold findI
    by_cases hq : fkI xs key < xs.length
    · rw [if_pos hq]; exact IxI_yes xs key q hn _ hq (fk_allI xs key) (fk_atI xs key hq) w0 hR
    · rw [if_neg hq]; exact IxI_no xs key q hn (fun j hj => fk_allI xs key j (by omega)) w0 hR

set_option maxRecDepth 100000 in
set_option maxHeartbeats 2000000 in
theorem find_I {t : Nat} {sv : Value} {xs : List PairI} {room : Nat} (key : Int) (hn : xs.length ≤ 4096) (w0 : World) (hR : Ro w0 [.blk t #[sv, .int .i64 ((room : Nat) : Int), .func (.func 26) #[] #[]] 90, .row (sv) 92 2 (List.length xs) (List.flatMap pairLI xs)]) :
    Calls Try.prog 40 #[.pointer (some ⟨t, 0, none⟩), .int .i64 key] w0 fun e w' => e = .returned (.int .i64 (findI xs key)) ∧ Below w0.heap.size w0 w' := by
  refine x_enter Try.func40 rfl #[.pointer (some ⟨t, 0, none⟩), .int .i64 key, undef, undef, undef, undef, undef, undef, undef, undef, undef] (by kernel_rfl) ?_
  have H := Hs.nil w0
  have R0 := hR
  refine x_seq ?_
  refine x_region ?_
  refine x_box H #[.int .i64 key] 3 (by kernel_rfl) rfl (by kernel_rfl) ?_
  clear H
  intro v1 g1 H
  refine x_val (.int .i64 0) (by kernel_rfl) rfl (by kernel_rfl) ?_
  refine x_nil ?_
  refine x_then ?_
  refine x_seq ?_
  refine x_region ?_
  refine x_val (.pointer (some ⟨t, 0, none⟩)) (by kernel_rfl) rfl (by kernel_rfl) ?_
  refine x_val (.pointer (some ⟨t, 0, none⟩)) (by kernel_rfl) rfl (by kernel_rfl) ?_
  refine x_val (.pointer (some ⟨t, 0, none⟩)) (by kernel_rfl) rfl (by kernel_rfl) ?_
  refine x_loadc t 0 (sv) ((H.ro R0).cell 0 rfl 0 rfl) (by kernel_rfl) rfl (by kernel_rfl) ?_
  refine x_val (.func (.func 57) #[] #[.pointer (some ⟨g1, 0, none⟩)]) (by kernel_rfl) rfl (by kernel_rfl) ?_
  refine x_callB (.int .i64 (findI xs key)) H (by kernel_rfl) rfl (by kernel_rfl) (IxI xs key g1 hn _ (Ro.two ((H.ro R0).pick [1] [.row (sv) 92 2 (List.length xs) (List.flatMap pairLI xs)] (by kernel_rfl)) (H.roOf [0] [.blk g1 #[.int .i64 key] 3] (by kernel_rfl)))) ?_
  clear H
  intro v2 H
  refine x_val (.int .i64 (findI xs key)) (by kernel_rfl) rfl (by kernel_rfl) ?_
  refine x_nil ?_
  refine x_then ?_
  refine x_retc ?_
  refine x_ret (.int .i64 (findI xs key)) (by kernel_rfl) (by kernel_rfl) ?_
  exact ⟨rfl, H.below⟩

set_option maxRecDepth 100000 in
set_option maxHeartbeats 2000000 in
theorem lightest_I {t : Nat} {g cap : Nat} {xs : List PairI} {room : Nat} (hn : xs.length ≤ 4096) (w0 : World) (hR : Ro w0 [.blk t #[.slice (some ⟨g, 0, none⟩) (List.length xs) cap, .int .i64 ((room : Nat) : Int), .func (.func 26) #[] #[]] 90, .row (.slice (some ⟨g, 0, none⟩) (List.length xs) cap) 92 2 (List.length xs) (List.flatMap pairLI xs)]) :
    Calls Try.prog 42 #[.pointer (some ⟨t, 0, none⟩)] w0 fun e w' => e = .returned (.int .i64 (((ltI xs xs.length).1 : Nat) : Int)) ∧ Below w0.heap.size w0 w' := by
  refine x_enter Try.func42 rfl #[.pointer (some ⟨t, 0, none⟩), undef, undef, undef, undef, undef, undef, undef, undef, undef, undef, undef, undef, undef, undef, undef, undef, undef, undef, undef, undef, undef, undef, undef, undef, undef, undef, undef, undef, undef, undef, undef, undef, undef, undef, undef] (by kernel_rfl) ?_
  have H := Hs.nil w0
  have R0 := hR
  refine x_seq ?_
  refine x_region ?_
  refine x_val (.int .i64 0) (by kernel_rfl) rfl (by kernel_rfl) ?_
  refine x_nil ?_
  refine x_then ?_
  refine x_seq ?_
  refine x_region ?_
  refine x_val (.int .i64 0) (by kernel_rfl) rfl (by kernel_rfl) ?_
  refine x_val (.int .i64 0) (by kernel_rfl) rfl (by kernel_rfl) ?_
  refine x_nil ?_
  refine x_then ?_
  refine x_seq ?_
  refine x_seq ?_
  refine x_region ?_
  refine x_val (.pointer (some ⟨t, 0, none⟩)) (by kernel_rfl) rfl (by kernel_rfl) ?_
  refine x_val (.pointer (some ⟨t, 0, none⟩)) (by kernel_rfl) rfl (by kernel_rfl) ?_
  refine x_val (.pointer (some ⟨t, 0, none⟩)) (by kernel_rfl) rfl (by kernel_rfl) ?_
  refine x_loadc t 0 (.slice (some ⟨g, 0, none⟩) (List.length xs) cap) ((H.ro R0).cell 0 rfl 0 rfl) (by kernel_rfl) rfl (by kernel_rfl) ?_
  refine x_val (.int .i64 (((List.length xs) : Nat) : Int)) (by kernel_rfl) rfl (by kernel_rfl) ?_
  refine x_val (.int .i64 0) (by kernel_rfl) rfl (by kernel_rfl) ?_
  refine x_nil ?_
  refine x_then ?_
  refine x_block ?_
  refine x_loop (G := Nat × Nat × Int) (fun gh a w' => match gh with | (k, at0, ls) => ∃ uf1 : Nat → Value, a = { tmps := #[.pointer (some ⟨t, 0, none⟩), undef, .int .i64 0, .int .i64 ((at0 : Nat) : Int), .int .i64 ls, (uf1 0), (uf1 1), (uf1 2), .pointer (some ⟨t, 0, none⟩), .pointer (some ⟨t, 0, none⟩), .pointer (some ⟨t, 0, none⟩), .slice (some ⟨g, 0, none⟩) (List.length xs) cap, .int .i64 (((List.length xs) : Nat) : Int), .int .i64 ((k : Nat) : Int), (uf1 3), (uf1 4), (uf1 5), (uf1 6), (uf1 7), (uf1 8), (uf1 9), (uf1 10), (uf1 11), (uf1 12), (uf1 13), (uf1 14), (uf1 15), (uf1 16), (uf1 17), (uf1 18), (uf1 19), (uf1 20), (uf1 21), (uf1 22), (uf1 23), undef], defers := [] } ∧ Hs [] w0 w' [] ∧ (k ≤ xs.length) ∧ (at0 ≤ k) ∧ ((at0, ls) = ltI xs k)) (fun gh => match gh with | (k, at0, ls) => xs.length - k) (0, 0, 0) ⟨(nthV [undef, undef, undef, undef, undef, undef, undef, undef, undef, undef, undef, undef, undef, undef, undef, undef, undef, undef, undef, undef, undef, undef, undef, undef]), (by kernel_rfl), H, (Nat.zero_le _), (Nat.le_refl _), rfl⟩ ?_
  clear H
  rintro ⟨k, at0, ls⟩ _ v1 ⟨uf1, rfl, H, r1, r2, r3⟩
  have r2 := r3
  refine x_seq ?_
  refine x_region ?_
  refine x_val (.bool (decide (((k : Nat) : Int) < (((List.length xs) : Nat) : Int)))) (by kernel_rfl) rfl (by kernel_rfl) ?_
  refine x_nil ?_
  refine x_then ?_
  refine x_seq ?_
  cases h1 : decide (((k : Nat) : Int) < (((List.length xs) : Nat) : Int))
  · skip
    have h1p := of_decide_eq_false h1
    refine x_f (by kernel_rfl) ?_
    refine x_exit ?_
    refine x_then_exit ?_
    refine x_then_exit ?_
    refine x_blk_exit ?_
    refine x_then ?_
    refine x_seq ?_
    refine x_region ?_
    refine x_val (.int .i64 ((at0 : Nat) : Int)) (by kernel_rfl) rfl (by kernel_rfl) ?_
    refine x_val (.int .i64 ((at0 : Nat) : Int)) (by kernel_rfl) rfl (by kernel_rfl) ?_
    refine x_nil ?_
    refine x_then ?_
    refine x_retc ?_
    refine x_ret (.int .i64 ((at0 : Nat) : Int)) (by kernel_rfl) (by kernel_rfl) ?_
    have hk : k = xs.length := by omega
    rw [hk] at r2
    rw [← r2]
    exact ⟨rfl, H.below⟩
  · skip
    have h1p := of_decide_eq_true h1
    refine x_t (by kernel_rfl) ?_
    refine x_skipc ?_
    refine x_then ?_
    refine x_seq ?_
    refine x_block ?_
    refine x_seq ?_
    refine x_region ?_
    refine x_val (.int .i64 ((k : Nat) : Int)) (by kernel_rfl) rfl (by kernel_rfl) ?_
    refine x_ix (t := 88) g 0 k (List.length xs) cap 92 2 (k * 2) (by omega) (by omega) (by kernel_rfl) (by kernel_rfl) (by kernel_rfl) rfl (by kernel_rfl) ?_
    refine x_loadcn (t := 92) g (k * 2) [.int .i64 ((xs.getD k (0, 0)).1), .int .i64 ((xs.getD k (0, 0)).2)] ((H.ro R0).rowCells 1 rfl (k * 2) (flatAt pairLenI (0, 0) _ (by omega))) (by kernel_rfl) rfl (by kernel_rfl) (by kernel_rfl) ?_
    refine x_box H #[.int .i64 0, .int .i64 0] 92 (by kernel_rfl) rfl (by kernel_rfl) ?_
    clear H
    intro v2 g1 H
    refine x_val (.int .i64 ((k : Nat) : Int)) (by kernel_rfl) rfl (by kernel_rfl) ?_
    refine x_store (t := 92) (v := .agg #[.int .i64 ((xs.getD k (0, 0)).1), .int .i64 ((xs.getD k (0, 0)).2)]) H 0 g1 0 #[.int .i64 0, .int .i64 0] #[.int .i64 ((xs.getD k (0, 0)).1), .int .i64 ((xs.getD k (0, 0)).2)] 92 [.int .i64 ((xs.getD k (0, 0)).1), .int .i64 ((xs.getD k (0, 0)).2)] [.blk g1 #[.int .i64 ((xs.getD k (0, 0)).1), .int .i64 ((xs.getD k (0, 0)).2)] 92] (by kernel_rfl) rfl (by kernel_rfl) (by kernel_rfl) (by kernel_rfl) (by kernel_rfl) (by kernel_rfl) (by kernel_rfl) (by kernel_rfl) (by kernel_rfl) ?_
    clear H
    intro v3 H
    refine x_nil ?_
    refine x_then ?_
    refine x_seq ?_
    refine x_region_whole (fun w' => Hs [] w0 w' [.blk g1 #[.int .i64 ((xs.getD k (0, 0)).1), .int .i64 ((xs.getD k (0, 0)).2)] 92]) (by kernel_rfl) (by kernel_rfl) (by kernel_rfl) H.drew ?_
    refine q_val (.pointer (some ⟨t, 0, none⟩)) (by kernel_rfl) (fun _ => by kernel_rfl) ?_
    refine q_val (.pointer (some ⟨t, 0, none⟩)) (by kernel_rfl) (fun _ => by kernel_rfl) ?_
    refine q_val (.pointer (some ⟨t, 2, none⟩)) (by kernel_rfl) (fun _ => by kernel_rfl) ?_
    refine q_loadc t 2 (.func (.func 26) #[] #[]) (fun _ H => (H.ro R0).cell 0 rfl 2 rfl) (by kernel_rfl) (fun _ => by kernel_rfl) ?_
    refine q_val (.pointer (some ⟨g1, 1, none⟩)) (by kernel_rfl) (fun _ => by kernel_rfl) ?_
    refine q_load1 0 g1 1 #[.int .i64 ((xs.getD k (0, 0)).1), .int .i64 ((xs.getD k (0, 0)).2)] 92 (.int .i64 ((xs.getD k (0, 0)).2)) (by kernel_rfl) (by kernel_rfl) (by kernel_rfl) (fun _ => by kernel_rfl) ?_
    refine q_callB (.int .i64 ((xs.getD k (0, 0)).2)) (by kernel_rfl) (fun _ => by kernel_rfl) (fun _ => (weigh_any ((xs.getD k (0, 0)).2) _)) ?_
    refine q_val (.int .i64 ((xs.getD k (0, 0)).2)) (by kernel_rfl) (fun _ => by kernel_rfl) ?_
    refine q_nil ?_
    clear H
    intro v4 H
    refine x_then ?_
    refine x_seq ?_
    refine x_region ?_
    refine x_val (.int .i64 ((k : Nat) : Int)) (by kernel_rfl) rfl (by kernel_rfl) ?_
    refine x_val (.bool (decide (((k : Nat) : Int) = 0))) (by kernel_rfl) rfl (by kernel_rfl) ?_
    refine x_val (.bool (decide (((k : Nat) : Int) = 0))) (by kernel_rfl) rfl (by kernel_rfl) ?_
    cases h2 : decide (((k : Nat) : Int) = 0)
    · skip
      have h2p := of_decide_eq_false h2
      refine x_val (.int .i64 ((xs.getD k (0, 0)).2)) (by kernel_rfl) rfl (by kernel_rfl) ?_
      refine x_val (.int .i64 ls) (by kernel_rfl) rfl (by kernel_rfl) ?_
      refine x_val (.bool (decide (((xs.getD k (0, 0)).2) < ls))) (by kernel_rfl) rfl (by kernel_rfl) ?_
      refine x_val (.bool (decide (((xs.getD k (0, 0)).2) < ls))) (by kernel_rfl) rfl (by kernel_rfl) ?_
      refine x_nil ?_
      refine x_then ?_
      cases h3 : decide (((xs.getD k (0, 0)).2) < ls)
      · skip
        have h3p := of_decide_eq_false h3
        refine x_f (by kernel_rfl) ?_
        refine x_skipc ?_
        refine x_blk ?_
        refine x_then ?_
        refine x_region ?_
        refine x_ar (((k : Nat) : Int) + 1) ⟨by omega, by omega⟩ (by kernel_rfl) rfl (by kernel_rfl) ?_
        refine x_val (.int .i64 (((k : Nat) : Int) + 1)) (by kernel_rfl) rfl (by kernel_rfl) ?_
        refine x_nil ?_
        refine x_then ?_
        replace H := H.pick [] [] (by decide) (by kernel_rfl)
        exact ⟨(k + 1, at0, ls), (by dsimp only; omega), (nthV [.int .i64 ((k : Nat) : Int), .pointer (some ⟨g1, 0, none⟩), .int .i64 ((xs.getD k (0, 0)).2), .bool true, .int .i64 ((k : Nat) : Int), .pointer (some ⟨g, k * 2, none⟩), .agg #[.int .i64 ((xs.getD k (0, 0)).1), .int .i64 ((xs.getD k (0, 0)).2)], .pointer (some ⟨t, 0, none⟩), .pointer (some ⟨t, 0, none⟩), .pointer (some ⟨t, 2, none⟩), .func (.func 26) #[] #[], .pointer (some ⟨g1, 1, none⟩), .int .i64 ((xs.getD k (0, 0)).2), .int .i64 ((xs.getD k (0, 0)).2), .int .i64 ((k : Nat) : Int), .bool false, .bool false, .int .i64 ((xs.getD k (0, 0)).2), .int .i64 ls, .bool false, .bool false, (uf1 21), (uf1 22), .int .i64 (((k : Nat) : Int) + 1)]), (by kernel_rfl), H, (by omega), (by omega), (by rw [ltI, ← r2, if_neg (by rintro (q | q); omega; exact h3p q)])⟩
      · skip
        have h3p := of_decide_eq_true h3
        refine x_t (by kernel_rfl) ?_
        refine x_region ?_
        refine x_val (.int .i64 ((k : Nat) : Int)) (by kernel_rfl) rfl (by kernel_rfl) ?_
        refine x_val (.int .i64 ((xs.getD k (0, 0)).2)) (by kernel_rfl) rfl (by kernel_rfl) ?_
        refine x_val (.int .i64 ((k : Nat) : Int)) (by kernel_rfl) rfl (by kernel_rfl) ?_
        refine x_val (.int .i64 ((xs.getD k (0, 0)).2)) (by kernel_rfl) rfl (by kernel_rfl) ?_
        refine x_nil ?_
        refine x_blk ?_
        refine x_then ?_
        refine x_region ?_
        refine x_ar (((k : Nat) : Int) + 1) ⟨by omega, by omega⟩ (by kernel_rfl) rfl (by kernel_rfl) ?_
        refine x_val (.int .i64 (((k : Nat) : Int) + 1)) (by kernel_rfl) rfl (by kernel_rfl) ?_
        refine x_nil ?_
        refine x_then ?_
        replace H := H.pick [] [] (by decide) (by kernel_rfl)
        exact ⟨(k + 1, k, ((xs.getD k (0, 0)).2)), (by dsimp only; omega), (nthV [.int .i64 ((k : Nat) : Int), .pointer (some ⟨g1, 0, none⟩), .int .i64 ((xs.getD k (0, 0)).2), .bool true, .int .i64 ((k : Nat) : Int), .pointer (some ⟨g, k * 2, none⟩), .agg #[.int .i64 ((xs.getD k (0, 0)).1), .int .i64 ((xs.getD k (0, 0)).2)], .pointer (some ⟨t, 0, none⟩), .pointer (some ⟨t, 0, none⟩), .pointer (some ⟨t, 2, none⟩), .func (.func 26) #[] #[], .pointer (some ⟨g1, 1, none⟩), .int .i64 ((xs.getD k (0, 0)).2), .int .i64 ((xs.getD k (0, 0)).2), .int .i64 ((k : Nat) : Int), .bool false, .bool false, .int .i64 ((xs.getD k (0, 0)).2), .int .i64 ls, .bool true, .bool true, .int .i64 ((k : Nat) : Int), .int .i64 ((xs.getD k (0, 0)).2), .int .i64 (((k : Nat) : Int) + 1)]), (by kernel_rfl), H, (by omega), (by omega), (by rw [ltI, ← r2, if_pos (Or.inr h3p)])⟩
    · skip
      have h2p := of_decide_eq_true h2
      refine x_skip (by kernel_rfl) ?_
      refine x_skip (by kernel_rfl) ?_
      refine x_skip (by kernel_rfl) ?_
      refine x_val (.bool true) (by kernel_rfl) rfl (by kernel_rfl) ?_
      refine x_nil ?_
      refine x_then ?_
      refine x_t (by kernel_rfl) ?_
      refine x_region ?_
      refine x_val (.int .i64 ((k : Nat) : Int)) (by kernel_rfl) rfl (by kernel_rfl) ?_
      refine x_val (.int .i64 ((xs.getD k (0, 0)).2)) (by kernel_rfl) rfl (by kernel_rfl) ?_
      refine x_val (.int .i64 ((k : Nat) : Int)) (by kernel_rfl) rfl (by kernel_rfl) ?_
      refine x_val (.int .i64 ((xs.getD k (0, 0)).2)) (by kernel_rfl) rfl (by kernel_rfl) ?_
      refine x_nil ?_
      refine x_blk ?_
      refine x_then ?_
      refine x_region ?_
      refine x_ar (((k : Nat) : Int) + 1) ⟨by omega, by omega⟩ (by kernel_rfl) rfl (by kernel_rfl) ?_
      refine x_val (.int .i64 (((k : Nat) : Int) + 1)) (by kernel_rfl) rfl (by kernel_rfl) ?_
      refine x_nil ?_
      refine x_then ?_
      replace H := H.pick [] [] (by decide) (by kernel_rfl)
      exact ⟨(k + 1, k, ((xs.getD k (0, 0)).2)), (by dsimp only; omega), (nthV [.int .i64 ((k : Nat) : Int), .pointer (some ⟨g1, 0, none⟩), .int .i64 ((xs.getD k (0, 0)).2), .bool true, .int .i64 ((k : Nat) : Int), .pointer (some ⟨g, k * 2, none⟩), .agg #[.int .i64 ((xs.getD k (0, 0)).1), .int .i64 ((xs.getD k (0, 0)).2)], .pointer (some ⟨t, 0, none⟩), .pointer (some ⟨t, 0, none⟩), .pointer (some ⟨t, 2, none⟩), .func (.func 26) #[] #[], .pointer (some ⟨g1, 1, none⟩), .int .i64 ((xs.getD k (0, 0)).2), .int .i64 ((xs.getD k (0, 0)).2), .int .i64 ((k : Nat) : Int), .bool true, .bool true, undef, undef, undef, .bool true, .int .i64 ((k : Nat) : Int), .int .i64 ((xs.getD k (0, 0)).2), .int .i64 (((k : Nat) : Int) + 1)]), (by kernel_rfl), H, (by omega), (by omega), (by rw [ltI, ← r2, if_pos (Or.inl (by omega))])⟩

set_option maxRecDepth 100000 in
set_option maxHeartbeats 2000000 in
theorem Del_I {g cap : Nat} (xs : List PairI) (q : Nat) (hq : q < xs.length) (hn : xs.length ≤ 4096) (i j : Int) (hi : i = ((q : Nat) : Int)) (hj : j = ((q : Nat) : Int) + 1) (w0 : World) (H0 : Hs (fps [.row (.slice (some ⟨g, 0, none⟩) (List.length xs) cap) 92 2 (List.length xs) (List.flatMap pairLI xs)]) w0 w0 [.row (.slice (some ⟨g, 0, none⟩) (List.length xs) cap) 92 2 (List.length xs) (List.flatMap pairLI xs)]) :
    Calls Try.prog 58 #[.slice (some ⟨g, 0, none⟩) (List.length xs) cap, .int .i64 i, .int .i64 j] w0 fun e w' => e = .returned (.slice (some ⟨g, 0, none⟩) (List.length (xs.eraseIdx q)) cap) ∧ Hs (fps [.row (.slice (some ⟨g, 0, none⟩) (List.length xs) cap) 92 2 (List.length xs) (List.flatMap pairLI xs)]) w0 w' [.row (.slice (some ⟨g, 0, none⟩) (List.length (xs.eraseIdx q)) cap) 92 2 (List.length (xs.eraseIdx q)) (List.flatMap pairLI (xs.eraseIdx q))] := by
  obtain rfl : j = ((q + 1 : Nat) : Int) := by omega
  subst hi
  refine x_enter Try.func58 rfl #[.slice (some ⟨g, 0, none⟩) (List.length xs) cap, .int .i64 ((q : Nat) : Int), .int .i64 (((q + 1) : Nat) : Int), undef, undef, undef, undef, undef, undef, undef, undef, undef, undef, undef, undef, undef, undef, undef, undef, undef, undef, undef, undef, undef, undef, undef, undef, undef, undef, undef, undef, undef, undef] (by kernel_rfl) ?_
  have H := H0
  have hncap : xs.length ≤ cap := by rcases H0.rowForm 0 rfl with ⟨h, _⟩ | ⟨g', c', h, h2, _⟩ <;> simp at h <;> omega
  have hqq : decide (((q : Nat) : Int) = (((q + 1) : Nat) : Int)) = false := by simp; omega
  refine x_seq ?_
  refine x_region ?_
  refine x_val (.slice none 0 0) (by kernel_rfl) rfl (by kernel_rfl) ?_
  refine x_nil ?_
  refine x_then ?_
  refine x_seq ?_
  refine x_region ?_
  refine x_val (.slice (some ⟨g, 0, none⟩) (List.length xs) cap) (by kernel_rfl) rfl (by kernel_rfl) ?_
  refine x_val (.int .i64 ((q : Nat) : Int)) (by kernel_rfl) rfl (by kernel_rfl) ?_
  refine x_val (.int .i64 (((q + 1) : Nat) : Int)) (by kernel_rfl) rfl (by kernel_rfl) ?_
  refine x_val (.slice (some ⟨g, 0, none⟩) (List.length xs) cap) (by kernel_rfl) rfl (by kernel_rfl) ?_
  refine x_val (.int .i64 (((List.length xs) : Nat) : Int)) (by kernel_rfl) rfl (by kernel_rfl) ?_
  refine x_val ((sliced (some ⟨g, 0, none⟩) q (q + 1) (List.length xs) 2)) (by kernel_rfl) rfl (Eq.trans (by kernel_rfl) (slcLHM (P := Try.prog) (t := 88) (b := some ⟨g, 0, none⟩) (n := (List.length xs)) (c := cap) (l := q) (h := (q + 1)) (m := (List.length xs)) (sz := 2) (by kernel_rfl) (by kernel_rfl) (by omega) (by omega) (by omega))) ?_
  refine x_nil ?_
  refine x_then ?_
  refine x_seq ?_
  refine x_seq ?_
  refine x_region ?_
  refine x_val (.int .i64 ((q : Nat) : Int)) (by kernel_rfl) rfl (by kernel_rfl) ?_
  refine x_val (.int .i64 (((q + 1) : Nat) : Int)) (by kernel_rfl) rfl (by kernel_rfl) ?_
  refine x_val (.bool (decide (((q : Nat) : Int) = (((q + 1) : Nat) : Int)))) (by kernel_rfl) rfl (by kernel_rfl) ?_
  refine x_nil ?_
  refine x_then ?_
  rw [hqq]
  refine x_f (by kernel_rfl) ?_
  refine x_skipc ?_
  refine x_then ?_
  refine x_seq ?_
  refine x_region ?_
  refine x_val (.slice (some ⟨g, 0, none⟩) (List.length xs) cap) (by kernel_rfl) rfl (by kernel_rfl) ?_
  refine x_val (.int .i64 (((List.length xs) : Nat) : Int)) (by kernel_rfl) rfl (by kernel_rfl) ?_
  refine x_val (.int .i64 (((List.length xs) : Nat) : Int)) (by kernel_rfl) rfl (by kernel_rfl) ?_
  refine x_nil ?_
  refine x_then ?_
  refine x_seq ?_
  refine x_region_head 6 (fun w' => Hs (fps [.row (.slice (some ⟨g, 0, none⟩) (List.length xs) cap) 92 2 (List.length xs) (List.flatMap pairLI xs)]) w0 w' [.row (.slice (some ⟨g, 0, none⟩) (List.length xs) cap) 92 2 (List.length xs) (List.flatMap pairLI xs)]) (by kernel_rfl) (by kernel_rfl) (by kernel_rfl) H.drew ?_
  simp only [List.take_succ_cons, List.take_zero, List.drop_succ_cons, List.drop_zero]
  refine q_val (.slice (some ⟨g, 0, none⟩) (List.length xs) cap) (by kernel_rfl) (fun _ => by kernel_rfl) ?_
  refine q_val (.int .i64 ((q : Nat) : Int)) (by kernel_rfl) (fun _ => by kernel_rfl) ?_
  refine q_val (.slice (some ⟨g, 0, none⟩) q cap) (by kernel_rfl) (fun _ => (Eq.trans (by kernel_rfl) (slcH (P := Try.prog) (t := 88) (g := g) (n := (List.length xs)) (c := cap) (h := q) (sz := 2) (by kernel_rfl) (by kernel_rfl) (by omega)))) ?_
  refine q_val (.slice (some ⟨g, 0, none⟩) (List.length xs) cap) (by kernel_rfl) (fun _ => by kernel_rfl) ?_
  refine q_val (.int .i64 (((q + 1) : Nat) : Int)) (by kernel_rfl) (fun _ => by kernel_rfl) ?_
  refine q_val ((sliced (some ⟨g, 0, none⟩) (q + 1) (List.length xs) cap 2)) (by kernel_rfl) (fun _ => (Eq.trans (by kernel_rfl) (slcL (P := Try.prog) (t := 88) (b := some ⟨g, 0, none⟩) (n := (List.length xs)) (c := cap) (l := (q + 1)) (sz := 2) (by kernel_rfl) (by kernel_rfl) (by omega)))) ?_
  refine q_nil ?_
  clear H
  intro v1 H
  refine x_appendIn H 0 88 92 2 g (List.length xs) q (q + 1) cap (List.flatMap pairLI xs) rfl (by kernel_rfl) (by kernel_rfl) (oneCellFlat pairOneI xs) (by omega) (by omega) (by kernel_rfl) rfl (by kernel_rfl) ?_
  clear H
  intro v2 H
  rw [show (List.take (q * 2) (List.flatMap pairLI xs) ++ List.drop ((q + 1) * 2) (List.flatMap pairLI xs)) = (List.flatMap pairLI (xs.eraseIdx q)) from (flatErase pairLenI xs q)] at H
  replace H : Hs (fps [.row (.slice (some ⟨g, 0, none⟩) (List.length xs) cap) 92 2 (List.length xs) (List.flatMap pairLI xs)]) w0 v2 [.row (.slice (some ⟨g, 0, none⟩) (q + ((List.length xs) - (q + 1))) cap) 92 2 (q + ((List.length xs) - (q + 1))) (List.flatMap pairLI (xs.eraseIdx q))] := H
  refine x_val (.slice (some ⟨g, 0, none⟩) (q + ((List.length xs) - (q + 1))) cap) (by kernel_rfl) rfl (by kernel_rfl) ?_
  refine x_nil ?_
  refine x_then ?_
  refine x_seq ?_
  refine x_region ?_
  refine x_val (.slice (some ⟨g, 0, none⟩) (q + ((List.length xs) - (q + 1))) cap) (by kernel_rfl) rfl (by kernel_rfl) ?_
  refine x_val (.slice (some ⟨g, 0, none⟩) (q + ((List.length xs) - (q + 1))) cap) (by kernel_rfl) rfl (by kernel_rfl) ?_
  refine x_val (.int .i64 (((q + ((List.length xs) - (q + 1))) : Nat) : Int)) (by kernel_rfl) rfl (by kernel_rfl) ?_
  refine x_val (.int .i64 (((List.length xs) : Nat) : Int)) (by kernel_rfl) rfl (by kernel_rfl) ?_
  refine x_val (.slice (some ⟨g, (q + ((List.length xs) - (q + 1))) * 2, none⟩) ((List.length xs) - (q + ((List.length xs) - (q + 1)))) (cap - (q + ((List.length xs) - (q + 1))))) (by kernel_rfl) rfl (Eq.trans (by kernel_rfl) (slcLH (P := Try.prog) (t := 88) (g := g) (n := (q + ((List.length xs) - (q + 1)))) (c := cap) (l := (q + ((List.length xs) - (q + 1)))) (h := (List.length xs)) (sz := 2) (by kernel_rfl) (by kernel_rfl) (by omega) (by omega) (by omega))) ?_
  refine x_clear H 0 88 92 2 g (q + ((List.length xs) - (q + 1))) cap (cap - (q + ((List.length xs) - (q + 1)))) (.agg #[.int .i64 0, .int .i64 0]) (List.flatMap pairLI (xs.eraseIdx q)) rfl (by kernel_rfl) (fun _ => run_zero (by kernel_rfl)) rfl (by decide) (by kernel_rfl) (by omega) (by kernel_rfl) rfl rfl (by rw [show List.length xs - (q + (List.length xs - (q + 1))) = 1 by omega]; kernel_rfl) ?_
  clear H
  intro v3 H
  refine x_nil ?_
  refine x_then ?_
  refine x_seq ?_
  refine x_region ?_
  refine x_val (.slice (some ⟨g, 0, none⟩) (q + ((List.length xs) - (q + 1))) cap) (by kernel_rfl) rfl (by kernel_rfl) ?_
  refine x_val (.slice (some ⟨g, 0, none⟩) (q + ((List.length xs) - (q + 1))) cap) (by kernel_rfl) rfl (by kernel_rfl) ?_
  refine x_nil ?_
  refine x_then ?_
  refine x_retc ?_
  refine x_ret (.slice (some ⟨g, 0, none⟩) (q + ((List.length xs) - (q + 1))) cap) (by kernel_rfl) (by kernel_rfl) ?_
  have hm : q + (List.length xs - (q + 1)) = (xs.eraseIdx q).length := by rw [List.length_eraseIdx, if_pos hq]; omega
  rw [hm] at H ⊢
  exact ⟨rfl, H⟩

set_option maxRecDepth 100000 in
set_option maxHeartbeats 2000000 in
theorem remove_I {t g cap : Nat} {xs : List PairI} {room : Nat} (q : Nat) (hq : q < xs.length) (hn : xs.length ≤ 4096) (w0 : World) (H0 : Hs (fps [.blk t #[.slice (some ⟨g, 0, none⟩) (List.length xs) cap, .int .i64 ((room : Nat) : Int), .func (.func 26) #[] #[]] 90, .row (.slice (some ⟨g, 0, none⟩) (List.length xs) cap) 92 2 (List.length xs) (List.flatMap pairLI xs)]) w0 w0 [.blk t #[.slice (some ⟨g, 0, none⟩) (List.length xs) cap, .int .i64 ((room : Nat) : Int), .func (.func 26) #[] #[]] 90, .row (.slice (some ⟨g, 0, none⟩) (List.length xs) cap) 92 2 (List.length xs) (List.flatMap pairLI xs)]) :
    Calls Try.prog 41 #[.pointer (some ⟨t, 0, none⟩), .int .i64 ((q : Nat) : Int)] w0 fun e w' => e = .returned (.int .i64 ((xs.getD q (0, 0)).1)) ∧ Hs (fps [.blk t #[.slice (some ⟨g, 0, none⟩) (List.length xs) cap, .int .i64 ((room : Nat) : Int), .func (.func 26) #[] #[]] 90, .row (.slice (some ⟨g, 0, none⟩) (List.length xs) cap) 92 2 (List.length xs) (List.flatMap pairLI xs)]) w0 w' [.blk t #[.slice (some ⟨g, 0, none⟩) (List.length (xs.eraseIdx q)) cap, .int .i64 ((room : Nat) : Int), .func (.func 26) #[] #[]] 90, .row (.slice (some ⟨g, 0, none⟩) (List.length (xs.eraseIdx q)) cap) 92 2 (List.length (xs.eraseIdx q)) (List.flatMap pairLI (xs.eraseIdx q))] := by
  refine x_enter Try.func41 rfl #[.pointer (some ⟨t, 0, none⟩), .int .i64 ((q : Nat) : Int), undef, undef, undef, undef, undef, undef, undef, undef, undef, undef, undef, undef, undef, undef, undef, undef, undef, undef, undef, undef, undef, undef, undef, undef] (by kernel_rfl) ?_
  have H := H0
  have hi : ((q : Nat) : Int) = ((q : Nat) : Int) := rfl
  refine x_seq ?_
  refine x_region ?_
  refine x_val (.int .i64 0) (by kernel_rfl) rfl (by kernel_rfl) ?_
  refine x_nil ?_
  refine x_then ?_
  refine x_seq ?_
  refine x_region ?_
  refine x_val (.pointer (some ⟨t, 0, none⟩)) (by kernel_rfl) rfl (by kernel_rfl) ?_
  refine x_val (.pointer (some ⟨t, 0, none⟩)) (by kernel_rfl) rfl (by kernel_rfl) ?_
  refine x_val (.pointer (some ⟨t, 0, none⟩)) (by kernel_rfl) rfl (by kernel_rfl) ?_
  refine x_load1 H 0 t 0 #[.slice (some ⟨g, 0, none⟩) (List.length xs) cap, .int .i64 ((room : Nat) : Int), .func (.func 26) #[] #[]] 90 (.slice (some ⟨g, 0, none⟩) (List.length xs) cap) (by kernel_rfl) (by kernel_rfl) (by kernel_rfl) rfl (by kernel_rfl) ?_
  refine x_val (.int .i64 ((q : Nat) : Int)) (by kernel_rfl) rfl (by kernel_rfl) ?_
  refine x_ix (t := 88) g 0 q (List.length xs) cap 92 2 (q * 2) (by omega) (by omega) (by kernel_rfl) (by kernel_rfl) (by kernel_rfl) rfl (by kernel_rfl) ?_
  refine x_val (.pointer (some ⟨g, q * 2, none⟩)) (by kernel_rfl) rfl (by kernel_rfl) ?_
  refine x_loadc g (q * 2) (.int .i64 ((xs.getD q (0, 0)).1)) ((H.rowCells 1 rfl (q * 2) (flatAt pairLenI (0, 0) _ (by omega))) 0 _ rfl) (by kernel_rfl) rfl (by kernel_rfl) ?_
  refine x_val (.int .i64 ((xs.getD q (0, 0)).1)) (by kernel_rfl) rfl (by kernel_rfl) ?_
  refine x_nil ?_
  refine x_then ?_
  refine x_seq ?_
  refine x_region ?_
  refine x_val (.pointer (some ⟨t, 0, none⟩)) (by kernel_rfl) rfl (by kernel_rfl) ?_
  refine x_val (.pointer (some ⟨t, 0, none⟩)) (by kernel_rfl) rfl (by kernel_rfl) ?_
  refine x_val (.pointer (some ⟨t, 0, none⟩)) (by kernel_rfl) rfl (by kernel_rfl) ?_
  refine x_val (.pointer (some ⟨t, 0, none⟩)) (by kernel_rfl) rfl (by kernel_rfl) ?_
  refine x_load1 H 0 t 0 #[.slice (some ⟨g, 0, none⟩) (List.length xs) cap, .int .i64 ((room : Nat) : Int), .func (.func 26) #[] #[]] 90 (.slice (some ⟨g, 0, none⟩) (List.length xs) cap) (by kernel_rfl) (by kernel_rfl) (by kernel_rfl) rfl (by kernel_rfl) ?_
  refine x_val (.int .i64 ((q : Nat) : Int)) (by kernel_rfl) rfl (by kernel_rfl) ?_
  refine x_val (.int .i64 ((q : Nat) : Int)) (by kernel_rfl) rfl (by kernel_rfl) ?_
  refine x_ar (((q : Nat) : Int) + 1) ⟨by omega, by omega⟩ (by kernel_rfl) rfl (by kernel_rfl) ?_
  refine x_callH (.slice (some ⟨g, 0, none⟩) (List.length (xs.eraseIdx q)) cap) [.row (.slice (some ⟨g, 0, none⟩) (List.length (xs.eraseIdx q)) cap) 92 2 (List.length (xs.eraseIdx q)) (List.flatMap pairLI (xs.eraseIdx q)), .blk t #[.slice (some ⟨g, 0, none⟩) (List.length xs) cap, .int .i64 ((room : Nat) : Int), .func (.func 26) #[] #[]] 90] (by kernel_rfl) rfl (by kernel_rfl) (Hs.use (A := [.row (.slice (some ⟨g, 0, none⟩) (List.length xs) cap) 92 2 (List.length xs) (List.flatMap pairLI xs)]) (R := [.blk t #[.slice (some ⟨g, 0, none⟩) (List.length xs) cap, .int .i64 ((room : Nat) : Int), .func (.func 26) #[] #[]] 90]) (H.pick [1, 0] _ (by decide) (by kernel_rfl)) (fun h => Del_I xs q hq hn ((q : Nat) : Int) (((q : Nat) : Int) + 1) hi (by rw [hi]) _ h)) ?_
  clear H
  intro v1 H
  refine x_val (.pointer (some ⟨t, 0, none⟩)) (by kernel_rfl) rfl (by kernel_rfl) ?_
  refine x_val (.pointer (some ⟨t, 0, none⟩)) (by kernel_rfl) rfl (by kernel_rfl) ?_
  refine x_store (t := 88) (v := .slice (some ⟨g, 0, none⟩) (List.length (xs.eraseIdx q)) cap) H 1 t 0 #[.slice (some ⟨g, 0, none⟩) (List.length xs) cap, .int .i64 ((room : Nat) : Int), .func (.func 26) #[] #[]] #[.slice (some ⟨g, 0, none⟩) (List.length (xs.eraseIdx q)) cap, .int .i64 ((room : Nat) : Int), .func (.func 26) #[] #[]] 90 [.slice (some ⟨g, 0, none⟩) (List.length (xs.eraseIdx q)) cap] [.row (.slice (some ⟨g, 0, none⟩) (List.length (xs.eraseIdx q)) cap) 92 2 (List.length (xs.eraseIdx q)) (List.flatMap pairLI (xs.eraseIdx q)), .blk t #[.slice (some ⟨g, 0, none⟩) (List.length (xs.eraseIdx q)) cap, .int .i64 ((room : Nat) : Int), .func (.func 26) #[] #[]] 90] (by kernel_rfl) rfl (by kernel_rfl) (by kernel_rfl) (by kernel_rfl) (by kernel_rfl) (by kernel_rfl) (by kernel_rfl) (by kernel_rfl) (by kernel_rfl) ?_
  clear H
  intro v2 H
  refine x_nil ?_
  refine x_then ?_
  refine x_seq ?_
  refine x_region ?_
  refine x_val (.int .i64 ((xs.getD q (0, 0)).1)) (by kernel_rfl) rfl (by kernel_rfl) ?_
  refine x_val (.int .i64 ((xs.getD q (0, 0)).1)) (by kernel_rfl) rfl (by kernel_rfl) ?_
  refine x_nil ?_
  refine x_then ?_
  refine x_retc ?_
  refine x_ret (.int .i64 ((xs.getD q (0, 0)).1)) (by kernel_rfl) (by kernel_rfl) ?_
  replace H := H.pick [1, 0] [.blk t #[.slice (some ⟨g, 0, none⟩) (List.length (xs.eraseIdx q)) cap, .int .i64 ((room : Nat) : Int), .func (.func 26) #[] #[]] 90, .row (.slice (some ⟨g, 0, none⟩) (List.length (xs.eraseIdx q)) cap) 92 2 (List.length (xs.eraseIdx q)) (List.flatMap pairLI (xs.eraseIdx q))] (by decide) (by kernel_rfl)
  exact ⟨rfl, H⟩

abbrev PairS := ByteArray × Int
def pairLS (x : PairS) : List Value := [.string x.1, .int .i64 x.2]
theorem pairLenS (x : PairS) : (pairLS x).length = 2 := rfl
theorem pairOneS (x : PairS) : ∀ v ∈ pairLS x, v.oneCell' = true := fun v hv => by
  simp only [pairLS, List.mem_cons, List.not_mem_nil, or_false] at hv
  rcases hv with rfl | rfl <;> rfl
/-- The place of a key. -/
def fkS (xs : List PairS) (k : ByteArray) : Nat := xs.findIdx fun x => eqkS x.1 k
def findS (xs : List PairS) (k : ByteArray) : Int := if fkS xs k < xs.length then ((fkS xs k : Nat) : Int) else -1
theorem fk_allS (xs : List PairS) (k : ByteArray) : ∀ j, j < fkS xs k → eqkS (xs.getD j (ByteArray.empty, 0)).1 k = false := fun j hj => by
  have hl : j < xs.length := Nat.lt_of_lt_of_le hj List.findIdx_le_length
  have this : eqkS (xs[j]).1 k = false := by have q := List.not_of_lt_findIdx hj; simpa using q
  simp only [List.getD, List.getElem?_eq_getElem hl, Option.getD_some]
  exact this
theorem fk_atS (xs : List PairS) (k : ByteArray) (h : fkS xs k < xs.length) : eqkS (xs.getD (fkS xs k) (ByteArray.empty, 0)).1 k = true := by
  have := List.findIdx_getElem (w := h)
  simp only [List.getD, List.getElem?_eq_getElem h, Option.getD_some]
  exact this
/-- The place of the first of the lightest, and its weight. -/
def ltS (xs : List PairS) : Nat → Nat × Int
  | 0 => (0, 0)
  | k + 1 => if k = 0 ∨ (xs.getD k (ByteArray.empty, 0)).2 < (ltS xs k).2 then (k, (xs.getD k (ByteArray.empty, 0)).2) else ltS xs k

set_option maxRecDepth 100000 in
set_option maxHeartbeats 2000000 in
theorem find1_S (a key : ByteArray) (v : Int) (q : Nat) (w0 : World) (hR : Ro w0 [.blk q #[.string key] 9]) :
    Calls Try.prog 60 #[.agg #[.string a, .int .i64 v], .pointer (some ⟨q, 0, none⟩)] w0 fun e w' => e = .returned (.bool (eqkS a key)) ∧ Below w0.heap.size w0 w' := by
  refine x_enter Try.func60 rfl #[.agg #[.string a, .int .i64 v], .pointer (some ⟨q, 0, none⟩), undef, undef, undef, undef, undef, undef] (by kernel_rfl) ?_
  have H := Hs.nil w0
  have R0 := hR
  refine x_seq ?_
  refine x_region ?_
  refine x_box H #[.string a, .int .i64 v] 107 (by kernel_rfl) rfl (by kernel_rfl) ?_
  clear H
  intro v1 g1 H
  refine x_val (.bool false) (by kernel_rfl) rfl (by kernel_rfl) ?_
  refine x_nil ?_
  refine x_then ?_
  refine x_seq ?_
  refine x_region ?_
  refine x_val (.pointer (some ⟨g1, 0, none⟩)) (by kernel_rfl) rfl (by kernel_rfl) ?_
  refine x_load1 H 0 g1 0 #[.string a, .int .i64 v] 107 (.string a) (by kernel_rfl) (by kernel_rfl) (by kernel_rfl) rfl (by kernel_rfl) ?_
  refine x_loadc q 0 (.string key) ((H.ro R0).cell 0 rfl 0 rfl) (by kernel_rfl) rfl (by kernel_rfl) ?_
  refine x_val (.bool ((a).toList == (key).toList)) (by kernel_rfl) rfl (by kernel_rfl) ?_
  refine x_val (.bool ((a).toList == (key).toList)) (by kernel_rfl) rfl (by kernel_rfl) ?_
  refine x_nil ?_
  refine x_then ?_
  refine x_retc ?_
  refine x_ret (.bool ((a).toList == (key).toList)) (by kernel_rfl) (by kernel_rfl) ?_
  exact ⟨rfl, H.below⟩

set_option maxRecDepth 100000 in
set_option maxHeartbeats 2000000 in
theorem IxS_yes {g cap : Nat} (xs : List PairS) (key : ByteArray) (q : Nat) (hn : xs.length ≤ 4096) (n : Nat) (hq : n < xs.length) (hall : ∀ j, j < n → eqkS (xs.getD j (ByteArray.empty, 0)).1 key = false) (hq2 : eqkS (xs.getD n (ByteArray.empty, 0)).1 key = true) (w0 : World) (hR : Ro w0 [.row (.slice (some ⟨g, 0, none⟩) (List.length xs) cap) 107 2 (List.length xs) (List.flatMap pairLS xs), .blk q #[.string key] 9]) :
    Calls Try.prog 59 #[.slice (some ⟨g, 0, none⟩) (List.length xs) cap, .func (.func 60) #[] #[.pointer (some ⟨q, 0, none⟩)]] w0 fun e w' => e = .returned (.int .i64 ((n : Nat) : Int)) ∧ Below w0.heap.size w0 w' := by
  refine x_enter Try.func59 rfl #[.slice (some ⟨g, 0, none⟩) (List.length xs) cap, .func (.func 60) #[] #[.pointer (some ⟨q, 0, none⟩)], undef, undef, undef, undef, undef, undef, undef, undef, undef, undef, undef, undef, undef, undef, undef, undef, undef] (by kernel_rfl) ?_
  have H := Hs.nil w0
  have R0 := hR
  refine x_seq ?_
  refine x_region ?_
  refine x_val (.int .i64 0) (by kernel_rfl) rfl (by kernel_rfl) ?_
  refine x_nil ?_
  refine x_then ?_
  refine x_seq ?_
  refine x_seq ?_
  refine x_region ?_
  refine x_val (.slice (some ⟨g, 0, none⟩) (List.length xs) cap) (by kernel_rfl) rfl (by kernel_rfl) ?_
  refine x_val (.int .i64 (((List.length xs) : Nat) : Int)) (by kernel_rfl) rfl (by kernel_rfl) ?_
  refine x_val (.int .i64 0) (by kernel_rfl) rfl (by kernel_rfl) ?_
  refine x_nil ?_
  refine x_then ?_
  refine x_block ?_
  refine x_loop (G := Nat) (fun (k : Nat) a w' => ∃ uf1 : Nat → Value, a = { tmps := #[.slice (some ⟨g, 0, none⟩) (List.length xs) cap, .func (.func 60) #[] #[.pointer (some ⟨q, 0, none⟩)], undef, undef, (uf1 0), (uf1 1), .slice (some ⟨g, 0, none⟩) (List.length xs) cap, .int .i64 (((List.length xs) : Nat) : Int), .int .i64 ((k : Nat) : Int), (uf1 2), (uf1 3), (uf1 4), (uf1 5), (uf1 6), (uf1 7), (uf1 8), (uf1 9), (uf1 10), (uf1 11)], defers := [] } ∧ Hs [] w0 w' [] ∧ (k ≤ n)) (fun (k : Nat) => xs.length - k) 0 ⟨(nthV [.int .i64 0, undef, undef, undef, undef, undef, undef, undef, undef, undef, undef, undef]), (by kernel_rfl), H, (Nat.zero_le _)⟩ ?_
  clear H
  rintro k _ v1 ⟨uf1, rfl, H, r1⟩
  refine x_seq ?_
  refine x_region ?_
  refine x_val (.bool (decide (((k : Nat) : Int) < (((List.length xs) : Nat) : Int)))) (by kernel_rfl) rfl (by kernel_rfl) ?_
  refine x_nil ?_
  refine x_then ?_
  refine x_seq ?_
  cases h1 : decide (((k : Nat) : Int) < (((List.length xs) : Nat) : Int))
  · skip
    have h1p := of_decide_eq_false h1
    refine x_f (by kernel_rfl) ?_
    refine x_exit ?_
    refine x_then_exit ?_
    refine x_then_exit ?_
    refine x_blk_exit ?_
    refine x_then ?_
    refine x_seq ?_
    refine x_region ?_
    refine x_val (.int .i64 (-1)) (by kernel_rfl) rfl (by kernel_rfl) ?_
    refine x_nil ?_
    refine x_then ?_
    refine x_retc ?_
    refine x_ret (.int .i64 (-1)) (by kernel_rfl) (by kernel_rfl) ?_
    exfalso; omega
  · skip
    have h1p := of_decide_eq_true h1
    refine x_t (by kernel_rfl) ?_
    refine x_skipc ?_
    refine x_then ?_
    refine x_seq ?_
    refine x_block ?_
    refine x_seq ?_
    refine x_region ?_
    refine x_val (.int .i64 ((k : Nat) : Int)) (by kernel_rfl) rfl (by kernel_rfl) ?_
    refine x_val (.int .i64 ((k : Nat) : Int)) (by kernel_rfl) rfl (by kernel_rfl) ?_
    refine x_nil ?_
    refine x_then ?_
    refine x_seq ?_
    refine x_region ?_
    refine x_val (.func (.func 60) #[] #[.pointer (some ⟨q, 0, none⟩)]) (by kernel_rfl) rfl (by kernel_rfl) ?_
    refine x_val (.slice (some ⟨g, 0, none⟩) (List.length xs) cap) (by kernel_rfl) rfl (by kernel_rfl) ?_
    refine x_val (.int .i64 ((k : Nat) : Int)) (by kernel_rfl) rfl (by kernel_rfl) ?_
    refine x_ix (t := 102) g 0 k (List.length xs) cap 107 2 (k * 2) (by omega) (by omega) (by kernel_rfl) (by kernel_rfl) (by kernel_rfl) rfl (by kernel_rfl) ?_
    refine x_loadcn (t := 107) g (k * 2) [.string ((xs.getD k (ByteArray.empty, 0)).1), .int .i64 ((xs.getD k (ByteArray.empty, 0)).2)] ((H.ro R0).rowCells 0 rfl (k * 2) (flatAt pairLenS (ByteArray.empty, 0) _ (by omega))) (by kernel_rfl) rfl (by kernel_rfl) (by kernel_rfl) ?_
    refine x_callB (.bool (eqkS ((xs.getD k (ByteArray.empty, 0)).1) key)) H (by kernel_rfl) rfl (by kernel_rfl) (find1_S ((xs.getD k (ByteArray.empty, 0)).1) key ((xs.getD k (ByteArray.empty, 0)).2) q _ ((H.ro R0).pick [1] [.blk q #[.string key] 9] (by kernel_rfl))) ?_
    clear H
    intro v2 H
    refine x_nil ?_
    refine x_then ?_
    cases h2 : eqkS ((xs.getD k (ByteArray.empty, 0)).1) key
    · skip
      have hkq : k + 1 ≤ n := by
        rcases Nat.lt_or_ge k n with h | h
        · omega
        · rw [show k = n by omega, hq2] at h2; cases h2
      refine x_f (by kernel_rfl) ?_
      refine x_skipc ?_
      refine x_blk ?_
      refine x_then ?_
      refine x_region ?_
      refine x_ar (((k : Nat) : Int) + 1) ⟨by omega, by omega⟩ (by kernel_rfl) rfl (by kernel_rfl) ?_
      refine x_val (.int .i64 (((k : Nat) : Int) + 1)) (by kernel_rfl) rfl (by kernel_rfl) ?_
      refine x_nil ?_
      refine x_then ?_
      exact ⟨(k + 1), (by omega), (nthV [(uf1 0), .int .i64 ((k : Nat) : Int), .bool true, .int .i64 ((k : Nat) : Int), .func (.func 60) #[] #[.pointer (some ⟨q, 0, none⟩)], .slice (some ⟨g, 0, none⟩) (List.length xs) cap, .int .i64 ((k : Nat) : Int), .pointer (some ⟨g, k * 2, none⟩), .agg #[.string ((xs.getD k (ByteArray.empty, 0)).1), .int .i64 ((xs.getD k (ByteArray.empty, 0)).2)], .bool false, (uf1 10), .int .i64 (((k : Nat) : Int) + 1)]), (by kernel_rfl), H, (by omega)⟩
    · skip
      refine x_t (by kernel_rfl) ?_
      refine x_seq ?_
      refine x_region ?_
      refine x_val (.int .i64 ((k : Nat) : Int)) (by kernel_rfl) rfl (by kernel_rfl) ?_
      refine x_val (.int .i64 ((k : Nat) : Int)) (by kernel_rfl) rfl (by kernel_rfl) ?_
      refine x_nil ?_
      refine x_then ?_
      refine x_retc ?_
      refine x_blk_ret ?_
      refine x_then_ret ?_
      refine x_then_ret ?_
      refine x_blk_ret ?_
      refine x_then_ret ?_
      refine x_ret (.int .i64 ((k : Nat) : Int)) (by kernel_rfl) (by kernel_rfl) ?_
      have hkq : k = n := by
        rcases Nat.lt_or_ge k n with h | h
        · have q := hall k h; rw [h2] at q; cases q
        · omega
      subst hkq
      exact ⟨rfl, H.below⟩

set_option maxRecDepth 100000 in
set_option maxHeartbeats 2000000 in
theorem IxS_no {g cap : Nat} (xs : List PairS) (key : ByteArray) (q : Nat) (hn : xs.length ≤ 4096) (hall : ∀ j, j < xs.length → eqkS (xs.getD j (ByteArray.empty, 0)).1 key = false) (w0 : World) (hR : Ro w0 [.row (.slice (some ⟨g, 0, none⟩) (List.length xs) cap) 107 2 (List.length xs) (List.flatMap pairLS xs), .blk q #[.string key] 9]) :
    Calls Try.prog 59 #[.slice (some ⟨g, 0, none⟩) (List.length xs) cap, .func (.func 60) #[] #[.pointer (some ⟨q, 0, none⟩)]] w0 fun e w' => e = .returned (.int .i64 (-1)) ∧ Below w0.heap.size w0 w' := by
  refine x_enter Try.func59 rfl #[.slice (some ⟨g, 0, none⟩) (List.length xs) cap, .func (.func 60) #[] #[.pointer (some ⟨q, 0, none⟩)], undef, undef, undef, undef, undef, undef, undef, undef, undef, undef, undef, undef, undef, undef, undef, undef, undef] (by kernel_rfl) ?_
  have H := Hs.nil w0
  have R0 := hR
  refine x_seq ?_
  refine x_region ?_
  refine x_val (.int .i64 0) (by kernel_rfl) rfl (by kernel_rfl) ?_
  refine x_nil ?_
  refine x_then ?_
  refine x_seq ?_
  refine x_seq ?_
  refine x_region ?_
  refine x_val (.slice (some ⟨g, 0, none⟩) (List.length xs) cap) (by kernel_rfl) rfl (by kernel_rfl) ?_
  refine x_val (.int .i64 (((List.length xs) : Nat) : Int)) (by kernel_rfl) rfl (by kernel_rfl) ?_
  refine x_val (.int .i64 0) (by kernel_rfl) rfl (by kernel_rfl) ?_
  refine x_nil ?_
  refine x_then ?_
  refine x_block ?_
  refine x_loop (G := Nat) (fun (k : Nat) a w' => ∃ uf1 : Nat → Value, a = { tmps := #[.slice (some ⟨g, 0, none⟩) (List.length xs) cap, .func (.func 60) #[] #[.pointer (some ⟨q, 0, none⟩)], undef, undef, (uf1 0), (uf1 1), .slice (some ⟨g, 0, none⟩) (List.length xs) cap, .int .i64 (((List.length xs) : Nat) : Int), .int .i64 ((k : Nat) : Int), (uf1 2), (uf1 3), (uf1 4), (uf1 5), (uf1 6), (uf1 7), (uf1 8), (uf1 9), (uf1 10), (uf1 11)], defers := [] } ∧ Hs [] w0 w' [] ∧ (k ≤ xs.length)) (fun (k : Nat) => xs.length - k) 0 ⟨(nthV [.int .i64 0, undef, undef, undef, undef, undef, undef, undef, undef, undef, undef, undef]), (by kernel_rfl), H, (Nat.zero_le _)⟩ ?_
  clear H
  rintro k _ v1 ⟨uf1, rfl, H, r1⟩
  refine x_seq ?_
  refine x_region ?_
  refine x_val (.bool (decide (((k : Nat) : Int) < (((List.length xs) : Nat) : Int)))) (by kernel_rfl) rfl (by kernel_rfl) ?_
  refine x_nil ?_
  refine x_then ?_
  refine x_seq ?_
  cases h1 : decide (((k : Nat) : Int) < (((List.length xs) : Nat) : Int))
  · skip
    have h1p := of_decide_eq_false h1
    refine x_f (by kernel_rfl) ?_
    refine x_exit ?_
    refine x_then_exit ?_
    refine x_then_exit ?_
    refine x_blk_exit ?_
    refine x_then ?_
    refine x_seq ?_
    refine x_region ?_
    refine x_val (.int .i64 (-1)) (by kernel_rfl) rfl (by kernel_rfl) ?_
    refine x_nil ?_
    refine x_then ?_
    refine x_retc ?_
    refine x_ret (.int .i64 (-1)) (by kernel_rfl) (by kernel_rfl) ?_
    exact ⟨rfl, H.below⟩
  · skip
    have h1p := of_decide_eq_true h1
    refine x_t (by kernel_rfl) ?_
    refine x_skipc ?_
    refine x_then ?_
    refine x_seq ?_
    refine x_block ?_
    refine x_seq ?_
    refine x_region ?_
    refine x_val (.int .i64 ((k : Nat) : Int)) (by kernel_rfl) rfl (by kernel_rfl) ?_
    refine x_val (.int .i64 ((k : Nat) : Int)) (by kernel_rfl) rfl (by kernel_rfl) ?_
    refine x_nil ?_
    refine x_then ?_
    refine x_seq ?_
    refine x_region ?_
    refine x_val (.func (.func 60) #[] #[.pointer (some ⟨q, 0, none⟩)]) (by kernel_rfl) rfl (by kernel_rfl) ?_
    refine x_val (.slice (some ⟨g, 0, none⟩) (List.length xs) cap) (by kernel_rfl) rfl (by kernel_rfl) ?_
    refine x_val (.int .i64 ((k : Nat) : Int)) (by kernel_rfl) rfl (by kernel_rfl) ?_
    refine x_ix (t := 102) g 0 k (List.length xs) cap 107 2 (k * 2) (by omega) (by omega) (by kernel_rfl) (by kernel_rfl) (by kernel_rfl) rfl (by kernel_rfl) ?_
    refine x_loadcn (t := 107) g (k * 2) [.string ((xs.getD k (ByteArray.empty, 0)).1), .int .i64 ((xs.getD k (ByteArray.empty, 0)).2)] ((H.ro R0).rowCells 0 rfl (k * 2) (flatAt pairLenS (ByteArray.empty, 0) _ (by omega))) (by kernel_rfl) rfl (by kernel_rfl) (by kernel_rfl) ?_
    refine x_callB (.bool (eqkS ((xs.getD k (ByteArray.empty, 0)).1) key)) H (by kernel_rfl) rfl (by kernel_rfl) (find1_S ((xs.getD k (ByteArray.empty, 0)).1) key ((xs.getD k (ByteArray.empty, 0)).2) q _ ((H.ro R0).pick [1] [.blk q #[.string key] 9] (by kernel_rfl))) ?_
    clear H
    intro v2 H
    refine x_nil ?_
    refine x_then ?_
    cases h2 : eqkS ((xs.getD k (ByteArray.empty, 0)).1) key
    · skip
      refine x_f (by kernel_rfl) ?_
      refine x_skipc ?_
      refine x_blk ?_
      refine x_then ?_
      refine x_region ?_
      refine x_ar (((k : Nat) : Int) + 1) ⟨by omega, by omega⟩ (by kernel_rfl) rfl (by kernel_rfl) ?_
      refine x_val (.int .i64 (((k : Nat) : Int) + 1)) (by kernel_rfl) rfl (by kernel_rfl) ?_
      refine x_nil ?_
      refine x_then ?_
      exact ⟨(k + 1), (by omega), (nthV [(uf1 0), .int .i64 ((k : Nat) : Int), .bool true, .int .i64 ((k : Nat) : Int), .func (.func 60) #[] #[.pointer (some ⟨q, 0, none⟩)], .slice (some ⟨g, 0, none⟩) (List.length xs) cap, .int .i64 ((k : Nat) : Int), .pointer (some ⟨g, k * 2, none⟩), .agg #[.string ((xs.getD k (ByteArray.empty, 0)).1), .int .i64 ((xs.getD k (ByteArray.empty, 0)).2)], .bool false, (uf1 10), .int .i64 (((k : Nat) : Int) + 1)]), (by kernel_rfl), H, (by omega)⟩
    · skip
      exact absurd (hall k (by omega)) (by rw [h2]; decide)

set_option maxRecDepth 100000 in
set_option maxHeartbeats 2000000 in
theorem IxS_nil (f : Value) (w0 : World) :
    Calls Try.prog 59 #[.slice none 0 0, f] w0 fun e w' => e = .returned (.int .i64 (-1)) ∧ Below w0.heap.size w0 w' := by
  refine x_enter Try.func59 rfl #[.slice none 0 0, f, undef, undef, undef, undef, undef, undef, undef, undef, undef, undef, undef, undef, undef, undef, undef, undef, undef] (by kernel_rfl) ?_
  have H := Hs.nil w0
  refine x_seq ?_
  refine x_region ?_
  refine x_val (.int .i64 0) (by kernel_rfl) rfl (by kernel_rfl) ?_
  refine x_nil ?_
  refine x_then ?_
  refine x_seq ?_
  refine x_seq ?_
  refine x_region ?_
  refine x_val (.slice none 0 0) (by kernel_rfl) rfl (by kernel_rfl) ?_
  refine x_val (.int .i64 0) (by kernel_rfl) rfl (by kernel_rfl) ?_
  refine x_val (.int .i64 0) (by kernel_rfl) rfl (by kernel_rfl) ?_
  refine x_nil ?_
  refine x_then ?_
  refine x_block ?_
  refine x_loop (G := Unit) (fun (_ : Unit) a w' => ∃ uf1 : Nat → Value, a = { tmps := #[.slice none 0 0, f, undef, undef, (uf1 0), (uf1 1), .slice none 0 0, .int .i64 0, .int .i64 0, (uf1 2), (uf1 3), (uf1 4), (uf1 5), (uf1 6), (uf1 7), (uf1 8), (uf1 9), (uf1 10), (uf1 11)], defers := [] } ∧ Hs [] w0 w' []) (fun _ => 0) () ⟨(nthV [.int .i64 0, undef, undef, undef, undef, undef, undef, undef, undef, undef, undef, undef]), (by kernel_rfl), H⟩ ?_
  clear H
  rintro _ _ v1 ⟨uf1, rfl, H⟩
  refine x_seq ?_
  refine x_region ?_
  refine x_val (.bool false) (by kernel_rfl) rfl (by kernel_rfl) ?_
  refine x_nil ?_
  refine x_then ?_
  refine x_seq ?_
  refine x_f (by kernel_rfl) ?_
  refine x_exit ?_
  refine x_then_exit ?_
  refine x_then_exit ?_
  refine x_blk_exit ?_
  refine x_then ?_
  refine x_seq ?_
  refine x_region ?_
  refine x_val (.int .i64 (-1)) (by kernel_rfl) rfl (by kernel_rfl) ?_
  refine x_nil ?_
  refine x_then ?_
  refine x_retc ?_
  refine x_ret (.int .i64 (-1)) (by kernel_rfl) (by kernel_rfl) ?_
  exact ⟨rfl, H.below⟩

theorem IxS {sv : Value} (xs : List PairS) (key : ByteArray) (q : Nat) (hn : xs.length ≤ 4096) (w0 : World) (hR : Ro w0 [.row (sv) 107 2 (List.length xs) (List.flatMap pairLS xs), .blk q #[.string key] 9]) : Calls Try.prog 59 #[sv, .func (.func 60) #[] #[.pointer (some ⟨q, 0, none⟩)]] w0 fun e w' => e = .returned (.int .i64 (findS xs key)) ∧ Below w0.heap.size w0 w' := by
  rcases rowForm (hR 0 _ rfl : w0.ownsRow 0 _ 2 sv _ _) with ⟨rfl, h0⟩ | ⟨g, cap, rfl, hc, _⟩
  · have e : findS xs key = -1 := by unfold findS; rw [if_neg (by omega)]
    rw [e]; exact IxS_nil _ w0
  · unfold findS
    by_cases hq : fkS xs key < xs.length
    · rw [if_pos hq]; exact IxS_yes xs key q hn _ hq (fk_allS xs key) (fk_atS xs key hq) w0 hR
    · rw [if_neg hq]; exact IxS_no xs key q hn (fun j hj => fk_allS xs key j (by omega)) w0 hR

set_option maxRecDepth 100000 in
set_option maxHeartbeats 2000000 in
theorem find_S {t : Nat} {sv : Value} {xs : List PairS} {room : Nat} (key : ByteArray) (hn : xs.length ≤ 4096) (w0 : World) (hR : Ro w0 [.blk t #[sv, .int .i64 ((room : Nat) : Int), .func (.func 26) #[] #[]] 104, .row (sv) 107 2 (List.length xs) (List.flatMap pairLS xs)]) :
    Calls Try.prog 53 #[.pointer (some ⟨t, 0, none⟩), .string key] w0 fun e w' => e = .returned (.int .i64 (findS xs key)) ∧ Below w0.heap.size w0 w' := by
  refine x_enter Try.func53 rfl #[.pointer (some ⟨t, 0, none⟩), .string key, undef, undef, undef, undef, undef, undef, undef, undef, undef] (by kernel_rfl) ?_
  have H := Hs.nil w0
  have R0 := hR
  refine x_seq ?_
  refine x_region ?_
  refine x_box H #[.string key] 9 (by kernel_rfl) rfl (by kernel_rfl) ?_
  clear H
  intro v1 g1 H
  refine x_val (.int .i64 0) (by kernel_rfl) rfl (by kernel_rfl) ?_
  refine x_nil ?_
  refine x_then ?_
  refine x_seq ?_
  refine x_region ?_
  refine x_val (.pointer (some ⟨t, 0, none⟩)) (by kernel_rfl) rfl (by kernel_rfl) ?_
  refine x_val (.pointer (some ⟨t, 0, none⟩)) (by kernel_rfl) rfl (by kernel_rfl) ?_
  refine x_val (.pointer (some ⟨t, 0, none⟩)) (by kernel_rfl) rfl (by kernel_rfl) ?_
  refine x_loadc t 0 (sv) ((H.ro R0).cell 0 rfl 0 rfl) (by kernel_rfl) rfl (by kernel_rfl) ?_
  refine x_val (.func (.func 60) #[] #[.pointer (some ⟨g1, 0, none⟩)]) (by kernel_rfl) rfl (by kernel_rfl) ?_
  refine x_callB (.int .i64 (findS xs key)) H (by kernel_rfl) rfl (by kernel_rfl) (IxS xs key g1 hn _ (Ro.two ((H.ro R0).pick [1] [.row (sv) 107 2 (List.length xs) (List.flatMap pairLS xs)] (by kernel_rfl)) (H.roOf [0] [.blk g1 #[.string key] 9] (by kernel_rfl)))) ?_
  clear H
  intro v2 H
  refine x_val (.int .i64 (findS xs key)) (by kernel_rfl) rfl (by kernel_rfl) ?_
  refine x_nil ?_
  refine x_then ?_
  refine x_retc ?_
  refine x_ret (.int .i64 (findS xs key)) (by kernel_rfl) (by kernel_rfl) ?_
  exact ⟨rfl, H.below⟩

set_option maxRecDepth 100000 in
set_option maxHeartbeats 2000000 in
theorem lightest_S {t : Nat} {g cap : Nat} {xs : List PairS} {room : Nat} (hn : xs.length ≤ 4096) (w0 : World) (hR : Ro w0 [.blk t #[.slice (some ⟨g, 0, none⟩) (List.length xs) cap, .int .i64 ((room : Nat) : Int), .func (.func 26) #[] #[]] 104, .row (.slice (some ⟨g, 0, none⟩) (List.length xs) cap) 107 2 (List.length xs) (List.flatMap pairLS xs)]) :
    Calls Try.prog 55 #[.pointer (some ⟨t, 0, none⟩)] w0 fun e w' => e = .returned (.int .i64 (((ltS xs xs.length).1 : Nat) : Int)) ∧ Below w0.heap.size w0 w' := by
  refine x_enter Try.func55 rfl #[.pointer (some ⟨t, 0, none⟩), undef, undef, undef, undef, undef, undef, undef, undef, undef, undef, undef, undef, undef, undef, undef, undef, undef, undef, undef, undef, undef, undef, undef, undef, undef, undef, undef, undef, undef, undef, undef, undef, undef, undef, undef] (by kernel_rfl) ?_
  have H := Hs.nil w0
  have R0 := hR
  refine x_seq ?_
  refine x_region ?_
  refine x_val (.int .i64 0) (by kernel_rfl) rfl (by kernel_rfl) ?_
  refine x_nil ?_
  refine x_then ?_
  refine x_seq ?_
  refine x_region ?_
  refine x_val (.int .i64 0) (by kernel_rfl) rfl (by kernel_rfl) ?_
  refine x_val (.int .i64 0) (by kernel_rfl) rfl (by kernel_rfl) ?_
  refine x_nil ?_
  refine x_then ?_
  refine x_seq ?_
  refine x_seq ?_
  refine x_region ?_
  refine x_val (.pointer (some ⟨t, 0, none⟩)) (by kernel_rfl) rfl (by kernel_rfl) ?_
  refine x_val (.pointer (some ⟨t, 0, none⟩)) (by kernel_rfl) rfl (by kernel_rfl) ?_
  refine x_val (.pointer (some ⟨t, 0, none⟩)) (by kernel_rfl) rfl (by kernel_rfl) ?_
  refine x_loadc t 0 (.slice (some ⟨g, 0, none⟩) (List.length xs) cap) ((H.ro R0).cell 0 rfl 0 rfl) (by kernel_rfl) rfl (by kernel_rfl) ?_
  refine x_val (.int .i64 (((List.length xs) : Nat) : Int)) (by kernel_rfl) rfl (by kernel_rfl) ?_
  refine x_val (.int .i64 0) (by kernel_rfl) rfl (by kernel_rfl) ?_
  refine x_nil ?_
  refine x_then ?_
  refine x_block ?_
  refine x_loop (G := Nat × Nat × Int) (fun gh a w' => match gh with | (k, at0, ls) => ∃ uf1 : Nat → Value, a = { tmps := #[.pointer (some ⟨t, 0, none⟩), undef, .int .i64 0, .int .i64 ((at0 : Nat) : Int), .int .i64 ls, (uf1 0), (uf1 1), (uf1 2), .pointer (some ⟨t, 0, none⟩), .pointer (some ⟨t, 0, none⟩), .pointer (some ⟨t, 0, none⟩), .slice (some ⟨g, 0, none⟩) (List.length xs) cap, .int .i64 (((List.length xs) : Nat) : Int), .int .i64 ((k : Nat) : Int), (uf1 3), (uf1 4), (uf1 5), (uf1 6), (uf1 7), (uf1 8), (uf1 9), (uf1 10), (uf1 11), (uf1 12), (uf1 13), (uf1 14), (uf1 15), (uf1 16), (uf1 17), (uf1 18), (uf1 19), (uf1 20), (uf1 21), (uf1 22), (uf1 23), undef], defers := [] } ∧ Hs [] w0 w' [] ∧ (k ≤ xs.length) ∧ (at0 ≤ k) ∧ ((at0, ls) = ltS xs k)) (fun gh => match gh with | (k, at0, ls) => xs.length - k) (0, 0, 0) ⟨(nthV [undef, undef, undef, undef, undef, undef, undef, undef, undef, undef, undef, undef, undef, undef, undef, undef, undef, undef, undef, undef, undef, undef, undef, undef]), (by kernel_rfl), H, (Nat.zero_le _), (Nat.le_refl _), rfl⟩ ?_
  clear H
  rintro ⟨k, at0, ls⟩ _ v1 ⟨uf1, rfl, H, r1, r2, r3⟩
  have r2 := r3
  refine x_seq ?_
  refine x_region ?_
  refine x_val (.bool (decide (((k : Nat) : Int) < (((List.length xs) : Nat) : Int)))) (by kernel_rfl) rfl (by kernel_rfl) ?_
  refine x_nil ?_
  refine x_then ?_
  refine x_seq ?_
  cases h1 : decide (((k : Nat) : Int) < (((List.length xs) : Nat) : Int))
  · skip
    have h1p := of_decide_eq_false h1
    refine x_f (by kernel_rfl) ?_
    refine x_exit ?_
    refine x_then_exit ?_
    refine x_then_exit ?_
    refine x_blk_exit ?_
    refine x_then ?_
    refine x_seq ?_
    refine x_region ?_
    refine x_val (.int .i64 ((at0 : Nat) : Int)) (by kernel_rfl) rfl (by kernel_rfl) ?_
    refine x_val (.int .i64 ((at0 : Nat) : Int)) (by kernel_rfl) rfl (by kernel_rfl) ?_
    refine x_nil ?_
    refine x_then ?_
    refine x_retc ?_
    refine x_ret (.int .i64 ((at0 : Nat) : Int)) (by kernel_rfl) (by kernel_rfl) ?_
    have hk : k = xs.length := by omega
    rw [hk] at r2
    rw [← r2]
    exact ⟨rfl, H.below⟩
  · skip
    have h1p := of_decide_eq_true h1
    refine x_t (by kernel_rfl) ?_
    refine x_skipc ?_
    refine x_then ?_
    refine x_seq ?_
    refine x_block ?_
    refine x_seq ?_
    refine x_region ?_
    refine x_val (.int .i64 ((k : Nat) : Int)) (by kernel_rfl) rfl (by kernel_rfl) ?_
    refine x_ix (t := 102) g 0 k (List.length xs) cap 107 2 (k * 2) (by omega) (by omega) (by kernel_rfl) (by kernel_rfl) (by kernel_rfl) rfl (by kernel_rfl) ?_
    refine x_loadcn (t := 107) g (k * 2) [.string ((xs.getD k (ByteArray.empty, 0)).1), .int .i64 ((xs.getD k (ByteArray.empty, 0)).2)] ((H.ro R0).rowCells 1 rfl (k * 2) (flatAt pairLenS (ByteArray.empty, 0) _ (by omega))) (by kernel_rfl) rfl (by kernel_rfl) (by kernel_rfl) ?_
    refine x_box H #[.string ByteArray.empty, .int .i64 0] 107 (by kernel_rfl) rfl (by kernel_rfl) ?_
    clear H
    intro v2 g1 H
    refine x_val (.int .i64 ((k : Nat) : Int)) (by kernel_rfl) rfl (by kernel_rfl) ?_
    refine x_store (t := 107) (v := .agg #[.string ((xs.getD k (ByteArray.empty, 0)).1), .int .i64 ((xs.getD k (ByteArray.empty, 0)).2)]) H 0 g1 0 #[.string ByteArray.empty, .int .i64 0] #[.string ((xs.getD k (ByteArray.empty, 0)).1), .int .i64 ((xs.getD k (ByteArray.empty, 0)).2)] 107 [.string ((xs.getD k (ByteArray.empty, 0)).1), .int .i64 ((xs.getD k (ByteArray.empty, 0)).2)] [.blk g1 #[.string ((xs.getD k (ByteArray.empty, 0)).1), .int .i64 ((xs.getD k (ByteArray.empty, 0)).2)] 107] (by kernel_rfl) rfl (by kernel_rfl) (by kernel_rfl) (by kernel_rfl) (by kernel_rfl) (by kernel_rfl) (by kernel_rfl) (by kernel_rfl) (by kernel_rfl) ?_
    clear H
    intro v3 H
    refine x_nil ?_
    refine x_then ?_
    refine x_seq ?_
    refine x_region_whole (fun w' => Hs [] w0 w' [.blk g1 #[.string ((xs.getD k (ByteArray.empty, 0)).1), .int .i64 ((xs.getD k (ByteArray.empty, 0)).2)] 107]) (by kernel_rfl) (by kernel_rfl) (by kernel_rfl) H.drew ?_
    refine q_val (.pointer (some ⟨t, 0, none⟩)) (by kernel_rfl) (fun _ => by kernel_rfl) ?_
    refine q_val (.pointer (some ⟨t, 0, none⟩)) (by kernel_rfl) (fun _ => by kernel_rfl) ?_
    refine q_val (.pointer (some ⟨t, 2, none⟩)) (by kernel_rfl) (fun _ => by kernel_rfl) ?_
    refine q_loadc t 2 (.func (.func 26) #[] #[]) (fun _ H => (H.ro R0).cell 0 rfl 2 rfl) (by kernel_rfl) (fun _ => by kernel_rfl) ?_
    refine q_val (.pointer (some ⟨g1, 1, none⟩)) (by kernel_rfl) (fun _ => by kernel_rfl) ?_
    refine q_load1 0 g1 1 #[.string ((xs.getD k (ByteArray.empty, 0)).1), .int .i64 ((xs.getD k (ByteArray.empty, 0)).2)] 107 (.int .i64 ((xs.getD k (ByteArray.empty, 0)).2)) (by kernel_rfl) (by kernel_rfl) (by kernel_rfl) (fun _ => by kernel_rfl) ?_
    refine q_callB (.int .i64 ((xs.getD k (ByteArray.empty, 0)).2)) (by kernel_rfl) (fun _ => by kernel_rfl) (fun _ => (weigh_any ((xs.getD k (ByteArray.empty, 0)).2) _)) ?_
    refine q_val (.int .i64 ((xs.getD k (ByteArray.empty, 0)).2)) (by kernel_rfl) (fun _ => by kernel_rfl) ?_
    refine q_nil ?_
    clear H
    intro v4 H
    refine x_then ?_
    refine x_seq ?_
    refine x_region ?_
    refine x_val (.int .i64 ((k : Nat) : Int)) (by kernel_rfl) rfl (by kernel_rfl) ?_
    refine x_val (.bool (decide (((k : Nat) : Int) = 0))) (by kernel_rfl) rfl (by kernel_rfl) ?_
    refine x_val (.bool (decide (((k : Nat) : Int) = 0))) (by kernel_rfl) rfl (by kernel_rfl) ?_
    cases h2 : decide (((k : Nat) : Int) = 0)
    · skip
      have h2p := of_decide_eq_false h2
      refine x_val (.int .i64 ((xs.getD k (ByteArray.empty, 0)).2)) (by kernel_rfl) rfl (by kernel_rfl) ?_
      refine x_val (.int .i64 ls) (by kernel_rfl) rfl (by kernel_rfl) ?_
      refine x_val (.bool (decide (((xs.getD k (ByteArray.empty, 0)).2) < ls))) (by kernel_rfl) rfl (by kernel_rfl) ?_
      refine x_val (.bool (decide (((xs.getD k (ByteArray.empty, 0)).2) < ls))) (by kernel_rfl) rfl (by kernel_rfl) ?_
      refine x_nil ?_
      refine x_then ?_
      cases h3 : decide (((xs.getD k (ByteArray.empty, 0)).2) < ls)
      · skip
        have h3p := of_decide_eq_false h3
        refine x_f (by kernel_rfl) ?_
        refine x_skipc ?_
        refine x_blk ?_
        refine x_then ?_
        refine x_region ?_
        refine x_ar (((k : Nat) : Int) + 1) ⟨by omega, by omega⟩ (by kernel_rfl) rfl (by kernel_rfl) ?_
        refine x_val (.int .i64 (((k : Nat) : Int) + 1)) (by kernel_rfl) rfl (by kernel_rfl) ?_
        refine x_nil ?_
        refine x_then ?_
        replace H := H.pick [] [] (by decide) (by kernel_rfl)
        exact ⟨(k + 1, at0, ls), (by dsimp only; omega), (nthV [.int .i64 ((k : Nat) : Int), .pointer (some ⟨g1, 0, none⟩), .int .i64 ((xs.getD k (ByteArray.empty, 0)).2), .bool true, .int .i64 ((k : Nat) : Int), .pointer (some ⟨g, k * 2, none⟩), .agg #[.string ((xs.getD k (ByteArray.empty, 0)).1), .int .i64 ((xs.getD k (ByteArray.empty, 0)).2)], .pointer (some ⟨t, 0, none⟩), .pointer (some ⟨t, 0, none⟩), .pointer (some ⟨t, 2, none⟩), .func (.func 26) #[] #[], .pointer (some ⟨g1, 1, none⟩), .int .i64 ((xs.getD k (ByteArray.empty, 0)).2), .int .i64 ((xs.getD k (ByteArray.empty, 0)).2), .int .i64 ((k : Nat) : Int), .bool false, .bool false, .int .i64 ((xs.getD k (ByteArray.empty, 0)).2), .int .i64 ls, .bool false, .bool false, (uf1 21), (uf1 22), .int .i64 (((k : Nat) : Int) + 1)]), (by kernel_rfl), H, (by omega), (by omega), (by rw [ltS, ← r2, if_neg (by rintro (q | q); omega; exact h3p q)])⟩
      · skip
        have h3p := of_decide_eq_true h3
        refine x_t (by kernel_rfl) ?_
        refine x_region ?_
        refine x_val (.int .i64 ((k : Nat) : Int)) (by kernel_rfl) rfl (by kernel_rfl) ?_
        refine x_val (.int .i64 ((xs.getD k (ByteArray.empty, 0)).2)) (by kernel_rfl) rfl (by kernel_rfl) ?_
        refine x_val (.int .i64 ((k : Nat) : Int)) (by kernel_rfl) rfl (by kernel_rfl) ?_
        refine x_val (.int .i64 ((xs.getD k (ByteArray.empty, 0)).2)) (by kernel_rfl) rfl (by kernel_rfl) ?_
        refine x_nil ?_
        refine x_blk ?_
        refine x_then ?_
        refine x_region ?_
        refine x_ar (((k : Nat) : Int) + 1) ⟨by omega, by omega⟩ (by kernel_rfl) rfl (by kernel_rfl) ?_
        refine x_val (.int .i64 (((k : Nat) : Int) + 1)) (by kernel_rfl) rfl (by kernel_rfl) ?_
        refine x_nil ?_
        refine x_then ?_
        replace H := H.pick [] [] (by decide) (by kernel_rfl)
        exact ⟨(k + 1, k, ((xs.getD k (ByteArray.empty, 0)).2)), (by dsimp only; omega), (nthV [.int .i64 ((k : Nat) : Int), .pointer (some ⟨g1, 0, none⟩), .int .i64 ((xs.getD k (ByteArray.empty, 0)).2), .bool true, .int .i64 ((k : Nat) : Int), .pointer (some ⟨g, k * 2, none⟩), .agg #[.string ((xs.getD k (ByteArray.empty, 0)).1), .int .i64 ((xs.getD k (ByteArray.empty, 0)).2)], .pointer (some ⟨t, 0, none⟩), .pointer (some ⟨t, 0, none⟩), .pointer (some ⟨t, 2, none⟩), .func (.func 26) #[] #[], .pointer (some ⟨g1, 1, none⟩), .int .i64 ((xs.getD k (ByteArray.empty, 0)).2), .int .i64 ((xs.getD k (ByteArray.empty, 0)).2), .int .i64 ((k : Nat) : Int), .bool false, .bool false, .int .i64 ((xs.getD k (ByteArray.empty, 0)).2), .int .i64 ls, .bool true, .bool true, .int .i64 ((k : Nat) : Int), .int .i64 ((xs.getD k (ByteArray.empty, 0)).2), .int .i64 (((k : Nat) : Int) + 1)]), (by kernel_rfl), H, (by omega), (by omega), (by rw [ltS, ← r2, if_pos (Or.inr h3p)])⟩
    · skip
      have h2p := of_decide_eq_true h2
      refine x_skip (by kernel_rfl) ?_
      refine x_skip (by kernel_rfl) ?_
      refine x_skip (by kernel_rfl) ?_
      refine x_val (.bool true) (by kernel_rfl) rfl (by kernel_rfl) ?_
      refine x_nil ?_
      refine x_then ?_
      refine x_t (by kernel_rfl) ?_
      refine x_region ?_
      refine x_val (.int .i64 ((k : Nat) : Int)) (by kernel_rfl) rfl (by kernel_rfl) ?_
      refine x_val (.int .i64 ((xs.getD k (ByteArray.empty, 0)).2)) (by kernel_rfl) rfl (by kernel_rfl) ?_
      refine x_val (.int .i64 ((k : Nat) : Int)) (by kernel_rfl) rfl (by kernel_rfl) ?_
      refine x_val (.int .i64 ((xs.getD k (ByteArray.empty, 0)).2)) (by kernel_rfl) rfl (by kernel_rfl) ?_
      refine x_nil ?_
      refine x_blk ?_
      refine x_then ?_
      refine x_region ?_
      refine x_ar (((k : Nat) : Int) + 1) ⟨by omega, by omega⟩ (by kernel_rfl) rfl (by kernel_rfl) ?_
      refine x_val (.int .i64 (((k : Nat) : Int) + 1)) (by kernel_rfl) rfl (by kernel_rfl) ?_
      refine x_nil ?_
      refine x_then ?_
      replace H := H.pick [] [] (by decide) (by kernel_rfl)
      exact ⟨(k + 1, k, ((xs.getD k (ByteArray.empty, 0)).2)), (by dsimp only; omega), (nthV [.int .i64 ((k : Nat) : Int), .pointer (some ⟨g1, 0, none⟩), .int .i64 ((xs.getD k (ByteArray.empty, 0)).2), .bool true, .int .i64 ((k : Nat) : Int), .pointer (some ⟨g, k * 2, none⟩), .agg #[.string ((xs.getD k (ByteArray.empty, 0)).1), .int .i64 ((xs.getD k (ByteArray.empty, 0)).2)], .pointer (some ⟨t, 0, none⟩), .pointer (some ⟨t, 0, none⟩), .pointer (some ⟨t, 2, none⟩), .func (.func 26) #[] #[], .pointer (some ⟨g1, 1, none⟩), .int .i64 ((xs.getD k (ByteArray.empty, 0)).2), .int .i64 ((xs.getD k (ByteArray.empty, 0)).2), .int .i64 ((k : Nat) : Int), .bool true, .bool true, undef, undef, undef, .bool true, .int .i64 ((k : Nat) : Int), .int .i64 ((xs.getD k (ByteArray.empty, 0)).2), .int .i64 (((k : Nat) : Int) + 1)]), (by kernel_rfl), H, (by omega), (by omega), (by rw [ltS, ← r2, if_pos (Or.inl (by omega))])⟩

set_option maxRecDepth 100000 in
set_option maxHeartbeats 2000000 in
theorem Del_S {g cap : Nat} (xs : List PairS) (q : Nat) (hq : q < xs.length) (hn : xs.length ≤ 4096) (i j : Int) (hi : i = ((q : Nat) : Int)) (hj : j = ((q : Nat) : Int) + 1) (w0 : World) (H0 : Hs (fps [.row (.slice (some ⟨g, 0, none⟩) (List.length xs) cap) 107 2 (List.length xs) (List.flatMap pairLS xs)]) w0 w0 [.row (.slice (some ⟨g, 0, none⟩) (List.length xs) cap) 107 2 (List.length xs) (List.flatMap pairLS xs)]) :
    Calls Try.prog 61 #[.slice (some ⟨g, 0, none⟩) (List.length xs) cap, .int .i64 i, .int .i64 j] w0 fun e w' => e = .returned (.slice (some ⟨g, 0, none⟩) (List.length (xs.eraseIdx q)) cap) ∧ Hs (fps [.row (.slice (some ⟨g, 0, none⟩) (List.length xs) cap) 107 2 (List.length xs) (List.flatMap pairLS xs)]) w0 w' [.row (.slice (some ⟨g, 0, none⟩) (List.length (xs.eraseIdx q)) cap) 107 2 (List.length (xs.eraseIdx q)) (List.flatMap pairLS (xs.eraseIdx q))] := by
  obtain rfl : j = ((q + 1 : Nat) : Int) := by omega
  subst hi
  refine x_enter Try.func61 rfl #[.slice (some ⟨g, 0, none⟩) (List.length xs) cap, .int .i64 ((q : Nat) : Int), .int .i64 (((q + 1) : Nat) : Int), undef, undef, undef, undef, undef, undef, undef, undef, undef, undef, undef, undef, undef, undef, undef, undef, undef, undef, undef, undef, undef, undef, undef, undef, undef, undef, undef, undef, undef, undef] (by kernel_rfl) ?_
  have H := H0
  have hncap : xs.length ≤ cap := by rcases H0.rowForm 0 rfl with ⟨h, _⟩ | ⟨g', c', h, h2, _⟩ <;> simp at h <;> omega
  have hqq : decide (((q : Nat) : Int) = (((q + 1) : Nat) : Int)) = false := by simp; omega
  refine x_seq ?_
  refine x_region ?_
  refine x_val (.slice none 0 0) (by kernel_rfl) rfl (by kernel_rfl) ?_
  refine x_nil ?_
  refine x_then ?_
  refine x_seq ?_
  refine x_region ?_
  refine x_val (.slice (some ⟨g, 0, none⟩) (List.length xs) cap) (by kernel_rfl) rfl (by kernel_rfl) ?_
  refine x_val (.int .i64 ((q : Nat) : Int)) (by kernel_rfl) rfl (by kernel_rfl) ?_
  refine x_val (.int .i64 (((q + 1) : Nat) : Int)) (by kernel_rfl) rfl (by kernel_rfl) ?_
  refine x_val (.slice (some ⟨g, 0, none⟩) (List.length xs) cap) (by kernel_rfl) rfl (by kernel_rfl) ?_
  refine x_val (.int .i64 (((List.length xs) : Nat) : Int)) (by kernel_rfl) rfl (by kernel_rfl) ?_
  refine x_val ((sliced (some ⟨g, 0, none⟩) q (q + 1) (List.length xs) 2)) (by kernel_rfl) rfl (Eq.trans (by kernel_rfl) (slcLHM (P := Try.prog) (t := 102) (b := some ⟨g, 0, none⟩) (n := (List.length xs)) (c := cap) (l := q) (h := (q + 1)) (m := (List.length xs)) (sz := 2) (by kernel_rfl) (by kernel_rfl) (by omega) (by omega) (by omega))) ?_
  refine x_nil ?_
  refine x_then ?_
  refine x_seq ?_
  refine x_seq ?_
  refine x_region ?_
  refine x_val (.int .i64 ((q : Nat) : Int)) (by kernel_rfl) rfl (by kernel_rfl) ?_
  refine x_val (.int .i64 (((q + 1) : Nat) : Int)) (by kernel_rfl) rfl (by kernel_rfl) ?_
  refine x_val (.bool (decide (((q : Nat) : Int) = (((q + 1) : Nat) : Int)))) (by kernel_rfl) rfl (by kernel_rfl) ?_
  refine x_nil ?_
  refine x_then ?_
  rw [hqq]
  refine x_f (by kernel_rfl) ?_
  refine x_skipc ?_
  refine x_then ?_
  refine x_seq ?_
  refine x_region ?_
  refine x_val (.slice (some ⟨g, 0, none⟩) (List.length xs) cap) (by kernel_rfl) rfl (by kernel_rfl) ?_
  refine x_val (.int .i64 (((List.length xs) : Nat) : Int)) (by kernel_rfl) rfl (by kernel_rfl) ?_
  refine x_val (.int .i64 (((List.length xs) : Nat) : Int)) (by kernel_rfl) rfl (by kernel_rfl) ?_
  refine x_nil ?_
  refine x_then ?_
  refine x_seq ?_
  refine x_region_head 6 (fun w' => Hs (fps [.row (.slice (some ⟨g, 0, none⟩) (List.length xs) cap) 107 2 (List.length xs) (List.flatMap pairLS xs)]) w0 w' [.row (.slice (some ⟨g, 0, none⟩) (List.length xs) cap) 107 2 (List.length xs) (List.flatMap pairLS xs)]) (by kernel_rfl) (by kernel_rfl) (by kernel_rfl) H.drew ?_
  simp only [List.take_succ_cons, List.take_zero, List.drop_succ_cons, List.drop_zero]
  refine q_val (.slice (some ⟨g, 0, none⟩) (List.length xs) cap) (by kernel_rfl) (fun _ => by kernel_rfl) ?_
  refine q_val (.int .i64 ((q : Nat) : Int)) (by kernel_rfl) (fun _ => by kernel_rfl) ?_
  refine q_val (.slice (some ⟨g, 0, none⟩) q cap) (by kernel_rfl) (fun _ => (Eq.trans (by kernel_rfl) (slcH (P := Try.prog) (t := 102) (g := g) (n := (List.length xs)) (c := cap) (h := q) (sz := 2) (by kernel_rfl) (by kernel_rfl) (by omega)))) ?_
  refine q_val (.slice (some ⟨g, 0, none⟩) (List.length xs) cap) (by kernel_rfl) (fun _ => by kernel_rfl) ?_
  refine q_val (.int .i64 (((q + 1) : Nat) : Int)) (by kernel_rfl) (fun _ => by kernel_rfl) ?_
  refine q_val ((sliced (some ⟨g, 0, none⟩) (q + 1) (List.length xs) cap 2)) (by kernel_rfl) (fun _ => (Eq.trans (by kernel_rfl) (slcL (P := Try.prog) (t := 102) (b := some ⟨g, 0, none⟩) (n := (List.length xs)) (c := cap) (l := (q + 1)) (sz := 2) (by kernel_rfl) (by kernel_rfl) (by omega)))) ?_
  refine q_nil ?_
  clear H
  intro v1 H
  refine x_appendIn H 0 102 107 2 g (List.length xs) q (q + 1) cap (List.flatMap pairLS xs) rfl (by kernel_rfl) (by kernel_rfl) (oneCellFlat pairOneS xs) (by omega) (by omega) (by kernel_rfl) rfl (by kernel_rfl) ?_
  clear H
  intro v2 H
  rw [show (List.take (q * 2) (List.flatMap pairLS xs) ++ List.drop ((q + 1) * 2) (List.flatMap pairLS xs)) = (List.flatMap pairLS (xs.eraseIdx q)) from (flatErase pairLenS xs q)] at H
  replace H : Hs (fps [.row (.slice (some ⟨g, 0, none⟩) (List.length xs) cap) 107 2 (List.length xs) (List.flatMap pairLS xs)]) w0 v2 [.row (.slice (some ⟨g, 0, none⟩) (q + ((List.length xs) - (q + 1))) cap) 107 2 (q + ((List.length xs) - (q + 1))) (List.flatMap pairLS (xs.eraseIdx q))] := H
  refine x_val (.slice (some ⟨g, 0, none⟩) (q + ((List.length xs) - (q + 1))) cap) (by kernel_rfl) rfl (by kernel_rfl) ?_
  refine x_nil ?_
  refine x_then ?_
  refine x_seq ?_
  refine x_region ?_
  refine x_val (.slice (some ⟨g, 0, none⟩) (q + ((List.length xs) - (q + 1))) cap) (by kernel_rfl) rfl (by kernel_rfl) ?_
  refine x_val (.slice (some ⟨g, 0, none⟩) (q + ((List.length xs) - (q + 1))) cap) (by kernel_rfl) rfl (by kernel_rfl) ?_
  refine x_val (.int .i64 (((q + ((List.length xs) - (q + 1))) : Nat) : Int)) (by kernel_rfl) rfl (by kernel_rfl) ?_
  refine x_val (.int .i64 (((List.length xs) : Nat) : Int)) (by kernel_rfl) rfl (by kernel_rfl) ?_
  refine x_val (.slice (some ⟨g, (q + ((List.length xs) - (q + 1))) * 2, none⟩) ((List.length xs) - (q + ((List.length xs) - (q + 1)))) (cap - (q + ((List.length xs) - (q + 1))))) (by kernel_rfl) rfl (Eq.trans (by kernel_rfl) (slcLH (P := Try.prog) (t := 102) (g := g) (n := (q + ((List.length xs) - (q + 1)))) (c := cap) (l := (q + ((List.length xs) - (q + 1)))) (h := (List.length xs)) (sz := 2) (by kernel_rfl) (by kernel_rfl) (by omega) (by omega) (by omega))) ?_
  refine x_clear H 0 102 107 2 g (q + ((List.length xs) - (q + 1))) cap (cap - (q + ((List.length xs) - (q + 1)))) (.agg #[.string ByteArray.empty, .int .i64 0]) (List.flatMap pairLS (xs.eraseIdx q)) rfl (by kernel_rfl) (fun _ => run_zero (by kernel_rfl)) rfl (by decide) (by kernel_rfl) (by omega) (by kernel_rfl) rfl rfl (by rw [show List.length xs - (q + (List.length xs - (q + 1))) = 1 by omega]; kernel_rfl) ?_
  clear H
  intro v3 H
  refine x_nil ?_
  refine x_then ?_
  refine x_seq ?_
  refine x_region ?_
  refine x_val (.slice (some ⟨g, 0, none⟩) (q + ((List.length xs) - (q + 1))) cap) (by kernel_rfl) rfl (by kernel_rfl) ?_
  refine x_val (.slice (some ⟨g, 0, none⟩) (q + ((List.length xs) - (q + 1))) cap) (by kernel_rfl) rfl (by kernel_rfl) ?_
  refine x_nil ?_
  refine x_then ?_
  refine x_retc ?_
  refine x_ret (.slice (some ⟨g, 0, none⟩) (q + ((List.length xs) - (q + 1))) cap) (by kernel_rfl) (by kernel_rfl) ?_
  have hm : q + (List.length xs - (q + 1)) = (xs.eraseIdx q).length := by rw [List.length_eraseIdx, if_pos hq]; omega
  rw [hm] at H ⊢
  exact ⟨rfl, H⟩

set_option maxRecDepth 100000 in
set_option maxHeartbeats 2000000 in
theorem remove_S {t g cap : Nat} {xs : List PairS} {room : Nat} (q : Nat) (hq : q < xs.length) (hn : xs.length ≤ 4096) (w0 : World) (H0 : Hs (fps [.blk t #[.slice (some ⟨g, 0, none⟩) (List.length xs) cap, .int .i64 ((room : Nat) : Int), .func (.func 26) #[] #[]] 104, .row (.slice (some ⟨g, 0, none⟩) (List.length xs) cap) 107 2 (List.length xs) (List.flatMap pairLS xs)]) w0 w0 [.blk t #[.slice (some ⟨g, 0, none⟩) (List.length xs) cap, .int .i64 ((room : Nat) : Int), .func (.func 26) #[] #[]] 104, .row (.slice (some ⟨g, 0, none⟩) (List.length xs) cap) 107 2 (List.length xs) (List.flatMap pairLS xs)]) :
    Calls Try.prog 54 #[.pointer (some ⟨t, 0, none⟩), .int .i64 ((q : Nat) : Int)] w0 fun e w' => e = .returned (.string ((xs.getD q (ByteArray.empty, 0)).1)) ∧ Hs (fps [.blk t #[.slice (some ⟨g, 0, none⟩) (List.length xs) cap, .int .i64 ((room : Nat) : Int), .func (.func 26) #[] #[]] 104, .row (.slice (some ⟨g, 0, none⟩) (List.length xs) cap) 107 2 (List.length xs) (List.flatMap pairLS xs)]) w0 w' [.blk t #[.slice (some ⟨g, 0, none⟩) (List.length (xs.eraseIdx q)) cap, .int .i64 ((room : Nat) : Int), .func (.func 26) #[] #[]] 104, .row (.slice (some ⟨g, 0, none⟩) (List.length (xs.eraseIdx q)) cap) 107 2 (List.length (xs.eraseIdx q)) (List.flatMap pairLS (xs.eraseIdx q))] := by
  refine x_enter Try.func54 rfl #[.pointer (some ⟨t, 0, none⟩), .int .i64 ((q : Nat) : Int), undef, undef, undef, undef, undef, undef, undef, undef, undef, undef, undef, undef, undef, undef, undef, undef, undef, undef, undef, undef, undef, undef, undef, undef] (by kernel_rfl) ?_
  have H := H0
  have hi : ((q : Nat) : Int) = ((q : Nat) : Int) := rfl
  refine x_seq ?_
  refine x_region ?_
  refine x_val (.string ({data := #[]})) (by kernel_rfl) rfl (by kernel_rfl) ?_
  refine x_nil ?_
  refine x_then ?_
  refine x_seq ?_
  refine x_region ?_
  refine x_val (.pointer (some ⟨t, 0, none⟩)) (by kernel_rfl) rfl (by kernel_rfl) ?_
  refine x_val (.pointer (some ⟨t, 0, none⟩)) (by kernel_rfl) rfl (by kernel_rfl) ?_
  refine x_val (.pointer (some ⟨t, 0, none⟩)) (by kernel_rfl) rfl (by kernel_rfl) ?_
  refine x_load1 H 0 t 0 #[.slice (some ⟨g, 0, none⟩) (List.length xs) cap, .int .i64 ((room : Nat) : Int), .func (.func 26) #[] #[]] 104 (.slice (some ⟨g, 0, none⟩) (List.length xs) cap) (by kernel_rfl) (by kernel_rfl) (by kernel_rfl) rfl (by kernel_rfl) ?_
  refine x_val (.int .i64 ((q : Nat) : Int)) (by kernel_rfl) rfl (by kernel_rfl) ?_
  refine x_ix (t := 102) g 0 q (List.length xs) cap 107 2 (q * 2) (by omega) (by omega) (by kernel_rfl) (by kernel_rfl) (by kernel_rfl) rfl (by kernel_rfl) ?_
  refine x_val (.pointer (some ⟨g, q * 2, none⟩)) (by kernel_rfl) rfl (by kernel_rfl) ?_
  refine x_loadc g (q * 2) (.string ((xs.getD q (ByteArray.empty, 0)).1)) ((H.rowCells 1 rfl (q * 2) (flatAt pairLenS (ByteArray.empty, 0) _ (by omega))) 0 _ rfl) (by kernel_rfl) rfl (by kernel_rfl) ?_
  refine x_val (.string ((xs.getD q (ByteArray.empty, 0)).1)) (by kernel_rfl) rfl (by kernel_rfl) ?_
  refine x_nil ?_
  refine x_then ?_
  refine x_seq ?_
  refine x_region ?_
  refine x_val (.pointer (some ⟨t, 0, none⟩)) (by kernel_rfl) rfl (by kernel_rfl) ?_
  refine x_val (.pointer (some ⟨t, 0, none⟩)) (by kernel_rfl) rfl (by kernel_rfl) ?_
  refine x_val (.pointer (some ⟨t, 0, none⟩)) (by kernel_rfl) rfl (by kernel_rfl) ?_
  refine x_val (.pointer (some ⟨t, 0, none⟩)) (by kernel_rfl) rfl (by kernel_rfl) ?_
  refine x_load1 H 0 t 0 #[.slice (some ⟨g, 0, none⟩) (List.length xs) cap, .int .i64 ((room : Nat) : Int), .func (.func 26) #[] #[]] 104 (.slice (some ⟨g, 0, none⟩) (List.length xs) cap) (by kernel_rfl) (by kernel_rfl) (by kernel_rfl) rfl (by kernel_rfl) ?_
  refine x_val (.int .i64 ((q : Nat) : Int)) (by kernel_rfl) rfl (by kernel_rfl) ?_
  refine x_val (.int .i64 ((q : Nat) : Int)) (by kernel_rfl) rfl (by kernel_rfl) ?_
  refine x_ar (((q : Nat) : Int) + 1) ⟨by omega, by omega⟩ (by kernel_rfl) rfl (by kernel_rfl) ?_
  refine x_callH (.slice (some ⟨g, 0, none⟩) (List.length (xs.eraseIdx q)) cap) [.row (.slice (some ⟨g, 0, none⟩) (List.length (xs.eraseIdx q)) cap) 107 2 (List.length (xs.eraseIdx q)) (List.flatMap pairLS (xs.eraseIdx q)), .blk t #[.slice (some ⟨g, 0, none⟩) (List.length xs) cap, .int .i64 ((room : Nat) : Int), .func (.func 26) #[] #[]] 104] (by kernel_rfl) rfl (by kernel_rfl) (Hs.use (A := [.row (.slice (some ⟨g, 0, none⟩) (List.length xs) cap) 107 2 (List.length xs) (List.flatMap pairLS xs)]) (R := [.blk t #[.slice (some ⟨g, 0, none⟩) (List.length xs) cap, .int .i64 ((room : Nat) : Int), .func (.func 26) #[] #[]] 104]) (H.pick [1, 0] _ (by decide) (by kernel_rfl)) (fun h => Del_S xs q hq hn ((q : Nat) : Int) (((q : Nat) : Int) + 1) hi (by rw [hi]) _ h)) ?_
  clear H
  intro v1 H
  refine x_val (.pointer (some ⟨t, 0, none⟩)) (by kernel_rfl) rfl (by kernel_rfl) ?_
  refine x_val (.pointer (some ⟨t, 0, none⟩)) (by kernel_rfl) rfl (by kernel_rfl) ?_
  refine x_store (t := 102) (v := .slice (some ⟨g, 0, none⟩) (List.length (xs.eraseIdx q)) cap) H 1 t 0 #[.slice (some ⟨g, 0, none⟩) (List.length xs) cap, .int .i64 ((room : Nat) : Int), .func (.func 26) #[] #[]] #[.slice (some ⟨g, 0, none⟩) (List.length (xs.eraseIdx q)) cap, .int .i64 ((room : Nat) : Int), .func (.func 26) #[] #[]] 104 [.slice (some ⟨g, 0, none⟩) (List.length (xs.eraseIdx q)) cap] [.row (.slice (some ⟨g, 0, none⟩) (List.length (xs.eraseIdx q)) cap) 107 2 (List.length (xs.eraseIdx q)) (List.flatMap pairLS (xs.eraseIdx q)), .blk t #[.slice (some ⟨g, 0, none⟩) (List.length (xs.eraseIdx q)) cap, .int .i64 ((room : Nat) : Int), .func (.func 26) #[] #[]] 104] (by kernel_rfl) rfl (by kernel_rfl) (by kernel_rfl) (by kernel_rfl) (by kernel_rfl) (by kernel_rfl) (by kernel_rfl) (by kernel_rfl) (by kernel_rfl) ?_
  clear H
  intro v2 H
  refine x_nil ?_
  refine x_then ?_
  refine x_seq ?_
  refine x_region ?_
  refine x_val (.string ((xs.getD q (ByteArray.empty, 0)).1)) (by kernel_rfl) rfl (by kernel_rfl) ?_
  refine x_val (.string ((xs.getD q (ByteArray.empty, 0)).1)) (by kernel_rfl) rfl (by kernel_rfl) ?_
  refine x_nil ?_
  refine x_then ?_
  refine x_retc ?_
  refine x_ret (.string ((xs.getD q (ByteArray.empty, 0)).1)) (by kernel_rfl) (by kernel_rfl) ?_
  replace H := H.pick [1, 0] [.blk t #[.slice (some ⟨g, 0, none⟩) (List.length (xs.eraseIdx q)) cap, .int .i64 ((room : Nat) : Int), .func (.func 26) #[] #[]] 104, .row (.slice (some ⟨g, 0, none⟩) (List.length (xs.eraseIdx q)) cap) 107 2 (List.length (xs.eraseIdx q)) (List.flatMap pairLS (xs.eraseIdx q))] (by decide) (by kernel_rfl)
  exact ⟨rfl, H⟩

end Go.Proofs.Ytpeefnbcgilihaa
