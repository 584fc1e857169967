/- Contracts of record.Log. -/
import Derived.Test.YtjbaabffilejeaaDoorPxD
import Derived.Test.YtjbaabffilejeaaDoorPxR
import Derived.Test.YtjbaabffilejeaaDoorOpenMix
namespace Go.Proofs.YtjbaabffilejeaaDoor
open Go Go.RowKit
set_option linter.unusedVariables false
set_option linter.unusedSimpArgs false

abbrev Rec := Int × Int × Int × Int × Int
def recL (x : Rec) : List Value := [.int .i64 x.1, .int .i64 x.2.1, .int .i64 x.2.2.1, .int .i64 x.2.2.2.1, .int .i64 x.2.2.2.2]
theorem recLen (x : Rec) : (recL x).length = 5 := rfl
theorem recOne (x : Rec) : ∀ v ∈ recL x, v.oneCell' = true := fun v hv => by
  simp only [recL, List.mem_cons, List.not_mem_nil, or_false] at hv
  rcases hv with rfl | rfl | rfl | rfl | rfl <;> rfl
abbrev kd (xs : List Rec) (j : Nat) : Int := (xs.getD j (0, 0, 0, 0, 0)).2.2.1

set_option maxRecDepth 100000 in
set_option maxHeartbeats 1000000 in
theorem Grave_any (s t k i f : Int) (w0 : World) :
    Calls Tryd.prog 12 #[.agg #[.int .i64 s, .int .i64 t, .int .i64 k, .int .i64 i, .int .i64 f]] w0 fun e w' => e = .returned (.bool (decide (k = 2))) ∧ Below w0.heap.size w0 w' := by
  refine x_enter Tryd.func12 rfl #[.agg #[.int .i64 s, .int .i64 t, .int .i64 k, .int .i64 i, .int .i64 f], undef, undef, undef, undef, undef] (by kernel_rfl) ?_
  have H := Hs.nil w0
  refine x_seq ?_
  refine x_region ?_
  refine x_box H #[.int .i64 s, .int .i64 t, .int .i64 k, .int .i64 i, .int .i64 f] 23 (by kernel_rfl) rfl (by kernel_rfl) ?_
  clear H
  intro v1 g1 H
  refine x_val (.bool false) (by kernel_rfl) rfl (by kernel_rfl) ?_
  refine x_nil ?_
  refine x_then ?_
  refine x_seq ?_
  refine x_region ?_
  refine x_val (.pointer (some ⟨g1, 2, none⟩)) (by kernel_rfl) rfl (by kernel_rfl) ?_
  refine x_load1 H 0 g1 2 _ _ (.int .i64 k) rfl (by kernel_rfl) (by kernel_rfl) rfl (by kernel_rfl) ?_
  refine x_val (.bool (decide (k = 2))) (by kernel_rfl) rfl (by kernel_rfl) ?_
  refine x_val (.bool (decide (k = 2))) (by kernel_rfl) rfl (by kernel_rfl) ?_
  refine x_nil ?_
  refine x_then ?_
  refine x_retc ?_
  refine x_ret (.bool (decide (k = 2))) (by kernel_rfl) (by kernel_rfl) ?_
  exact ⟨rfl, H.below⟩

set_option maxRecDepth 100000 in
set_option maxHeartbeats 1000000 in
theorem light1_any (s t k i f : Int) (w0 : World) :
    Calls Tryd.prog 68 #[.agg #[.int .i64 s, .int .i64 t, .int .i64 k, .int .i64 i, .int .i64 f]] w0 fun e w' => e = .returned (.bool (!(decide (k = 2)))) ∧ Below w0.heap.size w0 w' := by
  refine x_enter Tryd.func68 rfl #[.agg #[.int .i64 s, .int .i64 t, .int .i64 k, .int .i64 i, .int .i64 f], undef, undef, undef, undef, undef] (by kernel_rfl) ?_
  have H := Hs.nil w0
  refine x_seq ?_
  refine x_region ?_
  refine x_box H #[.int .i64 s, .int .i64 t, .int .i64 k, .int .i64 i, .int .i64 f] 23 (by kernel_rfl) rfl (by kernel_rfl) ?_
  clear H
  intro v1 g1 H
  refine x_val (.bool false) (by kernel_rfl) rfl (by kernel_rfl) ?_
  refine x_nil ?_
  refine x_then ?_
  refine x_seq ?_
  refine x_region ?_
  refine x_loadn (t := 23) H 0 g1 0 _ _ [.int .i64 s, .int .i64 t, .int .i64 k, .int .i64 i, .int .i64 f] rfl (by kernel_rfl) (by kernel_rfl) rfl (by kernel_rfl) (by kernel_rfl) ?_
  refine x_callB (.bool (decide (k = 2))) H (by kernel_rfl) rfl (by kernel_rfl) (Grave_any s t k i f _) ?_
  clear H
  intro v2 H
  refine x_val (.bool (!(decide (k = 2)))) (by kernel_rfl) rfl (by kernel_rfl) ?_
  refine x_val (.bool (!(decide (k = 2)))) (by kernel_rfl) rfl (by kernel_rfl) ?_
  refine x_nil ?_
  refine x_then ?_
  refine x_retc ?_
  refine x_ret (.bool (!(decide (k = 2)))) (by kernel_rfl) (by kernel_rfl) ?_
  exact ⟨rfl, H.below⟩

set_option maxRecDepth 100000 in
set_option maxHeartbeats 2000000 in
theorem Index_yes {g n cap : Nat} (xs : List Rec) (hn : n ≤ 4096) (q : Nat) (hq : q < n) (hall : ∀ j, j < q → kd xs j = 2) (hq2 : ¬ kd xs q = 2) (w0 : World) (hR : Ro w0 [.row (.slice (some ⟨g, 0, none⟩) n cap) 23 5 n (List.flatMap recL xs)]) :
    Calls Tryd.prog 67 #[.slice (some ⟨g, 0, none⟩) n cap, .func (.func 68) #[] #[]] w0 fun e w' => e = .returned (.int .i64 ((q : Nat) : Int)) ∧ Below w0.heap.size w0 w' := by
  refine x_enter Tryd.func67 rfl #[.slice (some ⟨g, 0, none⟩) n cap, .func (.func 68) #[] #[], undef, undef, undef, undef, undef, undef, undef, undef, undef, undef, undef, undef, undef, undef, undef, undef, undef] (by kernel_rfl) ?_
  have H := Hs.nil w0
  have R0 := hR
  have hxl : xs.length = n := by have h := (hR 0 _ rfl : w0.ownsRow 0 _ 5 _ n _).1; rw [flatLen recLen] at h; omega
  refine x_seq ?_
  refine x_region ?_
  refine x_val (.int .i64 0) (by kernel_rfl) rfl (by kernel_rfl) ?_
  refine x_nil ?_
  refine x_then ?_
  refine x_seq ?_
  refine x_seq ?_
  refine x_region ?_
  refine x_val (.slice (some ⟨g, 0, none⟩) n cap) (by kernel_rfl) rfl (by kernel_rfl) ?_
  refine x_val (.int .i64 ((n : Nat) : Int)) (by kernel_rfl) rfl (by kernel_rfl) ?_
  refine x_val (.int .i64 0) (by kernel_rfl) rfl (by kernel_rfl) ?_
  refine x_nil ?_
  refine x_then ?_
  refine x_block ?_
  refine x_loop (G := Nat) (fun (k : Nat) a w' => ∃ uf1 : Nat → Value, a = { tmps := #[.slice (some ⟨g, 0, none⟩) n cap, .func (.func 68) #[] #[], undef, undef, (uf1 0), (uf1 1), .slice (some ⟨g, 0, none⟩) n cap, .int .i64 ((n : Nat) : Int), .int .i64 ((k : Nat) : Int), (uf1 2), (uf1 3), (uf1 4), (uf1 5), (uf1 6), (uf1 7), (uf1 8), (uf1 9), (uf1 10), (uf1 11)], defers := [] } ∧ Hs [] w0 w' [] ∧ (k ≤ q)) (fun (k : Nat) => n - k) 0 ⟨(nthV [.int .i64 0, undef, undef, undef, undef, undef, undef, undef, undef, undef, undef, undef]), (by kernel_rfl), H, (Nat.zero_le _)⟩ ?_
  clear H
  rintro k _ v1 ⟨uf1, rfl, H, r1⟩
  refine x_seq ?_
  refine x_region ?_
  refine x_val (.bool (decide (((k : Nat) : Int) < ((n : Nat) : Int)))) (by kernel_rfl) rfl (by kernel_rfl) ?_
  refine x_nil ?_
  refine x_then ?_
  refine x_seq ?_
  cases h1 : decide (((k : Nat) : Int) < ((n : Nat) : Int))
  · skip
    have h1p := of_decide_eq_false h1
    refine x_f (by kernel_rfl) ?_
    refine x_exit ?_
    refine x_then_exit ?_
    refine x_then_exit ?_
    refine x_blk_exit ?_
    refine x_then ?_
    refine x_seq ?_
    refine x_region ?_
    refine x_val (.int .i64 (-1)) (by kernel_rfl) rfl (by kernel_rfl) ?_
    refine x_nil ?_
    refine x_then ?_
    refine x_retc ?_
    refine x_ret (.int .i64 (-1)) (by kernel_rfl) (by kernel_rfl) ?_
    exfalso; omega
  · skip
    have h1p := of_decide_eq_true h1
    refine x_t (by kernel_rfl) ?_
    refine x_skipc ?_
    refine x_then ?_
    refine x_seq ?_
    refine x_block ?_
    refine x_seq ?_
    refine x_region ?_
    refine x_val (.int .i64 ((k : Nat) : Int)) (by kernel_rfl) rfl (by kernel_rfl) ?_
    refine x_val (.int .i64 ((k : Nat) : Int)) (by kernel_rfl) rfl (by kernel_rfl) ?_
    refine x_nil ?_
    refine x_then ?_
    refine x_seq ?_
    refine x_region ?_
    refine x_val (.func (.func 68) #[] #[]) (by kernel_rfl) rfl (by kernel_rfl) ?_
    refine x_val (.slice (some ⟨g, 0, none⟩) n cap) (by kernel_rfl) rfl (by kernel_rfl) ?_
    refine x_val (.int .i64 ((k : Nat) : Int)) (by kernel_rfl) rfl (by kernel_rfl) ?_
    refine x_ix (t := 96) g 0 k n cap 23 5 (k * 5) (by omega) (by omega) (by kernel_rfl) (by kernel_rfl) (by kernel_rfl) rfl (by kernel_rfl) ?_
    refine x_loadcn (t := 23) g (k * 5) [.int .i64 ((xs.getD k (0, 0, 0, 0, 0)).1), .int .i64 ((xs.getD k (0, 0, 0, 0, 0)).2.1), .int .i64 ((xs.getD k (0, 0, 0, 0, 0)).2.2.1), .int .i64 ((xs.getD k (0, 0, 0, 0, 0)).2.2.2.1), .int .i64 ((xs.getD k (0, 0, 0, 0, 0)).2.2.2.2)] ((H.ro R0).rowCells 0 rfl (k * 5) (flatAt recLen (0, 0, 0, 0, 0) _ (by omega))) (by kernel_rfl) rfl (by kernel_rfl) (by kernel_rfl) ?_
    refine x_callB (.bool (!(decide (((xs.getD k (0, 0, 0, 0, 0)).2.2.1) = 2)))) H (by kernel_rfl) rfl (by kernel_rfl) (light1_any ((xs.getD k (0, 0, 0, 0, 0)).1) ((xs.getD k (0, 0, 0, 0, 0)).2.1) ((xs.getD k (0, 0, 0, 0, 0)).2.2.1) ((xs.getD k (0, 0, 0, 0, 0)).2.2.2.1) ((xs.getD k (0, 0, 0, 0, 0)).2.2.2.2) _) ?_
    clear H
    intro v2 H
    refine x_nil ?_
    refine x_then ?_
    cases h2 : decide (((xs.getD k (0, 0, 0, 0, 0)).2.2.1) = 2)
    · skip
      have h2p := of_decide_eq_false h2
      refine x_t (by kernel_rfl) ?_
      refine x_seq ?_
      refine x_region ?_
      refine x_val (.int .i64 ((k : Nat) : Int)) (by kernel_rfl) rfl (by kernel_rfl) ?_
      refine x_val (.int .i64 ((k : Nat) : Int)) (by kernel_rfl) rfl (by kernel_rfl) ?_
      refine x_nil ?_
      refine x_then ?_
      refine x_retc ?_
      refine x_blk_ret ?_
      refine x_then_ret ?_
      refine x_then_ret ?_
      refine x_blk_ret ?_
      refine x_then_ret ?_
      refine x_ret (.int .i64 ((k : Nat) : Int)) (by kernel_rfl) (by kernel_rfl) ?_
      have hkq : k = q := by
        rcases Nat.lt_or_ge k q with h | h
        · exact absurd (hall k h) (of_decide_eq_false h2)
        · omega
      subst hkq
      exact ⟨rfl, H.below⟩
    · skip
      have h2p := of_decide_eq_true h2
      have hkq : k + 1 ≤ q := by
        rcases Nat.lt_or_ge k q with h | h
        · omega
        · exact absurd (of_decide_eq_true h2) (by rw [show k = q by omega]; exact hq2)
      refine x_f (by kernel_rfl) ?_
      refine x_skipc ?_
      refine x_blk ?_
      refine x_then ?_
      refine x_region ?_
      refine x_ar (((k : Nat) : Int) + 1) ⟨by omega, by omega⟩ (by kernel_rfl) rfl (by kernel_rfl) ?_
      refine x_val (.int .i64 (((k : Nat) : Int) + 1)) (by kernel_rfl) rfl (by kernel_rfl) ?_
      refine x_nil ?_
      refine x_then ?_
      exact ⟨(k + 1), (by omega), (nthV [(uf1 0), .int .i64 ((k : Nat) : Int), .bool true, .int .i64 ((k : Nat) : Int), .func (.func 68) #[] #[], .slice (some ⟨g, 0, none⟩) n cap, .int .i64 ((k : Nat) : Int), .pointer (some ⟨g, k * 5, none⟩), .agg #[.int .i64 ((xs.getD k (0, 0, 0, 0, 0)).1), .int .i64 ((xs.getD k (0, 0, 0, 0, 0)).2.1), .int .i64 ((xs.getD k (0, 0, 0, 0, 0)).2.2.1), .int .i64 ((xs.getD k (0, 0, 0, 0, 0)).2.2.2.1), .int .i64 ((xs.getD k (0, 0, 0, 0, 0)).2.2.2.2)], .bool false, (uf1 10), .int .i64 (((k : Nat) : Int) + 1)]), (by kernel_rfl), H, (by omega)⟩

set_option maxRecDepth 100000 in
set_option maxHeartbeats 2000000 in
theorem Index_no {g n cap : Nat} (xs : List Rec) (hn : n ≤ 4096) (hall : ∀ j, j < n → kd xs j = 2) (w0 : World) (hR : Ro w0 [.row (.slice (some ⟨g, 0, none⟩) n cap) 23 5 n (List.flatMap recL xs)]) :
    Calls Tryd.prog 67 #[.slice (some ⟨g, 0, none⟩) n cap, .func (.func 68) #[] #[]] w0 fun e w' => e = .returned (.int .i64 (-1)) ∧ Below w0.heap.size w0 w' := by
  refine x_enter Tryd.func67 rfl #[.slice (some ⟨g, 0, none⟩) n cap, .func (.func 68) #[] #[], undef, undef, undef, undef, undef, undef, undef, undef, undef, undef, undef, undef, undef, undef, undef, undef, undef] (by kernel_rfl) ?_
  have H := Hs.nil w0
  have R0 := hR
  have hxl : xs.length = n := by have h := (hR 0 _ rfl : w0.ownsRow 0 _ 5 _ n _).1; rw [flatLen recLen] at h; omega
  refine x_seq ?_
  refine x_region ?_
  refine x_val (.int .i64 0) (by kernel_rfl) rfl (by kernel_rfl) ?_
  refine x_nil ?_
  refine x_then ?_
  refine x_seq ?_
  refine x_seq ?_
  refine x_region ?_
  refine x_val (.slice (some ⟨g, 0, none⟩) n cap) (by kernel_rfl) rfl (by kernel_rfl) ?_
  refine x_val (.int .i64 ((n : Nat) : Int)) (by kernel_rfl) rfl (by kernel_rfl) ?_
  refine x_val (.int .i64 0) (by kernel_rfl) rfl (by kernel_rfl) ?_
  refine x_nil ?_
  refine x_then ?_
  refine x_block ?_
  refine x_loop (G := Nat) (fun (k : Nat) a w' => ∃ uf1 : Nat → Value, a = { tmps := #[.slice (some ⟨g, 0, none⟩) n cap, .func (.func 68) #[] #[], undef, undef, (uf1 0), (uf1 1), .slice (some ⟨g, 0, none⟩) n cap, .int .i64 ((n : Nat) : Int), .int .i64 ((k : Nat) : Int), (uf1 2), (uf1 3), (uf1 4), (uf1 5), (uf1 6), (uf1 7), (uf1 8), (uf1 9), (uf1 10), (uf1 11)], defers := [] } ∧ Hs [] w0 w' [] ∧ (k ≤ n)) (fun (k : Nat) => n - k) 0 ⟨(nthV [.int .i64 0, undef, undef, undef, undef, undef, undef, undef, undef, undef, undef, undef]), (by kernel_rfl), H, (Nat.zero_le _)⟩ ?_
  clear H
  rintro k _ v1 ⟨uf1, rfl, H, r1⟩
  refine x_seq ?_
  refine x_region ?_
  refine x_val (.bool (decide (((k : Nat) : Int) < ((n : Nat) : Int)))) (by kernel_rfl) rfl (by kernel_rfl) ?_
  refine x_nil ?_
  refine x_then ?_
  refine x_seq ?_
  cases h1 : decide (((k : Nat) : Int) < ((n : Nat) : Int))
  · skip
    have h1p := of_decide_eq_false h1
    refine x_f (by kernel_rfl) ?_
    refine x_exit ?_
    refine x_then_exit ?_
    refine x_then_exit ?_
    refine x_blk_exit ?_
    refine x_then ?_
    refine x_seq ?_
    refine x_region ?_
    refine x_val (.int .i64 (-1)) (by kernel_rfl) rfl (by kernel_rfl) ?_
    refine x_nil ?_
    refine x_then ?_
    refine x_retc ?_
    refine x_ret (.int .i64 (-1)) (by kernel_rfl) (by kernel_rfl) ?_
    exact ⟨rfl, H.below⟩
  · skip
    have h1p := of_decide_eq_true h1
    refine x_t (by kernel_rfl) ?_
    refine x_skipc ?_
    refine x_then ?_
    refine x_seq ?_
    refine x_block ?_
    refine x_seq ?_
    refine x_region ?_
    refine x_val (.int .i64 ((k : Nat) : Int)) (by kernel_rfl) rfl (by kernel_rfl) ?_
    refine x_val (.int .i64 ((k : Nat) : Int)) (by kernel_rfl) rfl (by kernel_rfl) ?_
    refine x_nil ?_
    refine x_then ?_
    refine x_seq ?_
    refine x_region ?_
    refine x_val (.func (.func 68) #[] #[]) (by kernel_rfl) rfl (by kernel_rfl) ?_
    refine x_val (.slice (some ⟨g, 0, none⟩) n cap) (by kernel_rfl) rfl (by kernel_rfl) ?_
    refine x_val (.int .i64 ((k : Nat) : Int)) (by kernel_rfl) rfl (by kernel_rfl) ?_
    refine x_ix (t := 96) g 0 k n cap 23 5 (k * 5) (by omega) (by omega) (by kernel_rfl) (by kernel_rfl) (by kernel_rfl) rfl (by kernel_rfl) ?_
    refine x_loadcn (t := 23) g (k * 5) [.int .i64 ((xs.getD k (0, 0, 0, 0, 0)).1), .int .i64 ((xs.getD k (0, 0, 0, 0, 0)).2.1), .int .i64 ((xs.getD k (0, 0, 0, 0, 0)).2.2.1), .int .i64 ((xs.getD k (0, 0, 0, 0, 0)).2.2.2.1), .int .i64 ((xs.getD k (0, 0, 0, 0, 0)).2.2.2.2)] ((H.ro R0).rowCells 0 rfl (k * 5) (flatAt recLen (0, 0, 0, 0, 0) _ (by omega))) (by kernel_rfl) rfl (by kernel_rfl) (by kernel_rfl) ?_
    refine x_callB (.bool (!(decide (((xs.getD k (0, 0, 0, 0, 0)).2.2.1) = 2)))) H (by kernel_rfl) rfl (by kernel_rfl) (light1_any ((xs.getD k (0, 0, 0, 0, 0)).1) ((xs.getD k (0, 0, 0, 0, 0)).2.1) ((xs.getD k (0, 0, 0, 0, 0)).2.2.1) ((xs.getD k (0, 0, 0, 0, 0)).2.2.2.1) ((xs.getD k (0, 0, 0, 0, 0)).2.2.2.2) _) ?_
    clear H
    intro v2 H
    refine x_nil ?_
    refine x_then ?_
    cases h2 : decide (((xs.getD k (0, 0, 0, 0, 0)).2.2.1) = 2)
    · skip
      have h2p := of_decide_eq_false h2
      exact absurd (hall k (by omega)) (of_decide_eq_false h2)
    · skip
      have h2p := of_decide_eq_true h2
      refine x_f (by kernel_rfl) ?_
      refine x_skipc ?_
      refine x_blk ?_
      refine x_then ?_
      refine x_region ?_
      refine x_ar (((k : Nat) : Int) + 1) ⟨by omega, by omega⟩ (by kernel_rfl) rfl (by kernel_rfl) ?_
      refine x_val (.int .i64 (((k : Nat) : Int) + 1)) (by kernel_rfl) rfl (by kernel_rfl) ?_
      refine x_nil ?_
      refine x_then ?_
      exact ⟨(k + 1), (by omega), (nthV [(uf1 0), .int .i64 ((k : Nat) : Int), .bool true, .int .i64 ((k : Nat) : Int), .func (.func 68) #[] #[], .slice (some ⟨g, 0, none⟩) n cap, .int .i64 ((k : Nat) : Int), .pointer (some ⟨g, k * 5, none⟩), .agg #[.int .i64 ((xs.getD k (0, 0, 0, 0, 0)).1), .int .i64 ((xs.getD k (0, 0, 0, 0, 0)).2.1), .int .i64 ((xs.getD k (0, 0, 0, 0, 0)).2.2.1), .int .i64 ((xs.getD k (0, 0, 0, 0, 0)).2.2.2.1), .int .i64 ((xs.getD k (0, 0, 0, 0, 0)).2.2.2.2)], .bool false, (uf1 10), .int .i64 (((k : Nat) : Int) + 1)]), (by kernel_rfl), H, (by omega)⟩

set_option maxRecDepth 100000 in
set_option maxHeartbeats 2000000 in
theorem Delete_at {g n cap : Nat} (xs : List Rec) (q : Nat) (hq : q < n) (hn : n ≤ 4096) (i j : Int) (hi : i = ((q : Nat) : Int)) (hj : j = ((q : Nat) : Int) + 1) (w0 : World) (H0 : Hs (fps [.row (.slice (some ⟨g, 0, none⟩) n cap) 23 5 n (List.flatMap recL xs)]) w0 w0 [.row (.slice (some ⟨g, 0, none⟩) n cap) 23 5 n (List.flatMap recL xs)]) :
    Calls Tryd.prog 51 #[.slice (some ⟨g, 0, none⟩) n cap, .int .i64 i, .int .i64 j] w0 fun e w' => e = .returned (.slice (some ⟨g, 0, none⟩) (n - 1) cap) ∧ Hs (fps [.row (.slice (some ⟨g, 0, none⟩) n cap) 23 5 n (List.flatMap recL xs)]) w0 w' [.row (.slice (some ⟨g, 0, none⟩) (n - 1) cap) 23 5 (n - 1) (List.flatMap recL (xs.eraseIdx q))] := by
  obtain rfl : j = ((q + 1 : Nat) : Int) := by omega
  subst hi
  refine x_enter Tryd.func51 rfl #[.slice (some ⟨g, 0, none⟩) n cap, .int .i64 ((q : Nat) : Int), .int .i64 (((q + 1) : Nat) : Int), undef, undef, undef, undef, undef, undef, undef, undef, undef, undef, undef, undef, undef, undef, undef, undef, undef, undef, undef, undef, undef, undef, undef, undef, undef, undef, undef, undef, undef, undef] (by kernel_rfl) ?_
  have H := H0
  have hxl : xs.length = n := by have h := (H0.ok 0 _ rfl : w0.ownsRow 0 _ 5 _ n _).1; rw [flatLen recLen] at h; omega
  have hncap : n ≤ cap := by rcases rowForm (H0.ok 0 _ rfl : w0.ownsRow 0 _ 5 _ n _) with ⟨h, _⟩ | ⟨g', c', h, h2, _⟩ <;> simp at h <;> omega
  have hqq : decide (((q : Nat) : Int) = (((q + 1) : Nat) : Int)) = false := by simp; omega
  refine x_seq ?_
  refine x_region ?_
  refine x_val (.slice none 0 0) (by kernel_rfl) rfl (by kernel_rfl) ?_
  refine x_nil ?_
  refine x_then ?_
  refine x_seq ?_
  refine x_region ?_
  refine x_val (.slice (some ⟨g, 0, none⟩) n cap) (by kernel_rfl) rfl (by kernel_rfl) ?_
  refine x_val (.int .i64 ((q : Nat) : Int)) (by kernel_rfl) rfl (by kernel_rfl) ?_
  refine x_val (.int .i64 (((q + 1) : Nat) : Int)) (by kernel_rfl) rfl (by kernel_rfl) ?_
  refine x_val (.slice (some ⟨g, 0, none⟩) n cap) (by kernel_rfl) rfl (by kernel_rfl) ?_
  refine x_val (.int .i64 ((n : Nat) : Int)) (by kernel_rfl) rfl (by kernel_rfl) ?_
  refine x_val ((sliced (some ⟨g, 0, none⟩) q (q + 1) n 5)) (by kernel_rfl) rfl (Eq.trans (by kernel_rfl) (slcLHM (P := Tryd.prog) (t := 96) (b := some ⟨g, 0, none⟩) (n := n) (c := cap) (l := q) (h := (q + 1)) (m := n) (sz := 5) (by kernel_rfl) (by kernel_rfl) (by omega) (by omega) (by omega))) ?_
  refine x_nil ?_
  refine x_then ?_
  refine x_seq ?_
  refine x_seq ?_
  refine x_region ?_
  refine x_val (.int .i64 ((q : Nat) : Int)) (by kernel_rfl) rfl (by kernel_rfl) ?_
  refine x_val (.int .i64 (((q + 1) : Nat) : Int)) (by kernel_rfl) rfl (by kernel_rfl) ?_
  refine x_val (.bool (decide (((q : Nat) : Int) = (((q + 1) : Nat) : Int)))) (by kernel_rfl) rfl (by kernel_rfl) ?_
  refine x_nil ?_
  refine x_then ?_
  rw [hqq]
  refine x_f (by kernel_rfl) ?_
  refine x_skipc ?_
  refine x_then ?_
  refine x_seq ?_
  refine x_region ?_
  refine x_val (.slice (some ⟨g, 0, none⟩) n cap) (by kernel_rfl) rfl (by kernel_rfl) ?_
  refine x_val (.int .i64 ((n : Nat) : Int)) (by kernel_rfl) rfl (by kernel_rfl) ?_
  refine x_val (.int .i64 ((n : Nat) : Int)) (by kernel_rfl) rfl (by kernel_rfl) ?_
  refine x_nil ?_
  refine x_frame' { tmps := #[.slice (some ⟨g, 0, none⟩) n cap, .int .i64 ((q : Nat) : Int), .int .i64 (((q + 1) : Nat) : Int), undef, undef, undef, .slice none 0 0, .int .i64 ((n : Nat) : Int), .slice (some ⟨g, 0, none⟩) n cap, .int .i64 ((q : Nat) : Int), .int .i64 (((q + 1) : Nat) : Int), .slice (some ⟨g, 0, none⟩) n cap, .int .i64 ((n : Nat) : Int), (sliced (some ⟨g, 0, none⟩) q (q + 1) n 5), .int .i64 ((q : Nat) : Int), .int .i64 (((q + 1) : Nat) : Int), .bool false, undef, .slice (some ⟨g, 0, none⟩) n cap, .int .i64 ((n : Nat) : Int), undef, undef, undef, undef, undef, undef, undef, undef, undef, undef, undef, undef, undef], defers := [] } (by kernel_rfl) ?_
  refine x_then ?_
  refine x_seq ?_
  refine x_region_head 6 (fun w' => Hs (fps [.row (.slice (some ⟨g, 0, none⟩) n cap) 23 5 n (List.flatMap recL xs)]) w0 w' [.row (.slice (some ⟨g, 0, none⟩) n cap) 23 5 n (List.flatMap recL xs)]) (by kernel_rfl) (by kernel_rfl) (by kernel_rfl) H.drew ?_
  simp only [List.take_succ_cons, List.take_zero, List.drop_succ_cons, List.drop_zero]
  refine q_val (.slice (some ⟨g, 0, none⟩) n cap) (by kernel_rfl) (fun _ => by kernel_rfl) ?_
  refine q_val (.int .i64 ((q : Nat) : Int)) (by kernel_rfl) (fun _ => by kernel_rfl) ?_
  refine q_val (.slice (some ⟨g, 0, none⟩) q cap) (by kernel_rfl) (fun _ => (Eq.trans (by kernel_rfl) (slcH (P := Tryd.prog) (t := 96) (g := g) (n := n) (c := cap) (h := q) (sz := 5) (by kernel_rfl) (by kernel_rfl) (by omega)))) ?_
  refine q_val (.slice (some ⟨g, 0, none⟩) n cap) (by kernel_rfl) (fun _ => by kernel_rfl) ?_
  refine q_val (.int .i64 (((q + 1) : Nat) : Int)) (by kernel_rfl) (fun _ => by kernel_rfl) ?_
  refine q_val ((sliced (some ⟨g, 0, none⟩) (q + 1) n cap 5)) (by kernel_rfl) (fun _ => (Eq.trans (by kernel_rfl) (slcL (P := Tryd.prog) (t := 96) (b := some ⟨g, 0, none⟩) (n := n) (c := cap) (l := (q + 1)) (sz := 5) (by kernel_rfl) (by kernel_rfl) (by omega)))) ?_
  refine q_nil ?_
  clear H
  intro v1 H
  refine x_appendIn H 0 96 23 5 g n q (q + 1) cap (List.flatMap recL xs) rfl (by kernel_rfl) (by kernel_rfl) (oneCellFlat recOne xs) (by omega) (by omega) (by kernel_rfl) rfl (by kernel_rfl) ?_
  clear H
  intro v2 H
  rw [show (List.take (q * 5) (List.flatMap recL xs) ++ List.drop ((q + 1) * 5) (List.flatMap recL xs)) = (List.flatMap recL (xs.eraseIdx q)) from (flatErase recLen xs q)] at H
  replace H : Hs (fps [.row (.slice (some ⟨g, 0, none⟩) n cap) 23 5 n (List.flatMap recL xs)]) w0 v2 [.row (.slice (some ⟨g, 0, none⟩) (q + (n - (q + 1))) cap) 23 5 (q + (n - (q + 1))) (List.flatMap recL (xs.eraseIdx q))] := H
  refine x_val (.slice (some ⟨g, 0, none⟩) (q + (n - (q + 1))) cap) (by kernel_rfl) rfl (by kernel_rfl) ?_
  refine x_nil ?_
  refine x_then ?_
  refine x_seq ?_
  refine x_region ?_
  refine x_val (.slice (some ⟨g, 0, none⟩) (q + (n - (q + 1))) cap) (by kernel_rfl) rfl (by kernel_rfl) ?_
  refine x_val (.slice (some ⟨g, 0, none⟩) (q + (n - (q + 1))) cap) (by kernel_rfl) rfl (by kernel_rfl) ?_
  refine x_val (.int .i64 (((q + (n - (q + 1))) : Nat) : Int)) (by kernel_rfl) rfl (by kernel_rfl) ?_
  refine x_val (.int .i64 ((n : Nat) : Int)) (by kernel_rfl) rfl (by kernel_rfl) ?_
  refine x_val (.slice (some ⟨g, (q + (n - (q + 1))) * 5, none⟩) (n - (q + (n - (q + 1)))) (cap - (q + (n - (q + 1))))) (by kernel_rfl) rfl (Eq.trans (by kernel_rfl) (slcLH (P := Tryd.prog) (t := 96) (g := g) (n := (q + (n - (q + 1)))) (c := cap) (l := (q + (n - (q + 1)))) (h := n) (sz := 5) (by kernel_rfl) (by kernel_rfl) (by omega) (by omega) (by omega))) ?_
  refine x_clear H 0 96 23 5 g (q + (n - (q + 1))) cap (cap - (q + (n - (q + 1)))) (.agg #[.int .i64 0, .int .i64 0, .int .i64 0, .int .i64 0, .int .i64 0]) (List.flatMap recL (xs.eraseIdx q)) rfl (by kernel_rfl) (fun _ => run_zero (by kernel_rfl)) rfl (by decide) (by kernel_rfl) (by omega) (by kernel_rfl) rfl rfl (by rw [show n - (q + (n - (q + 1))) = 1 by omega]; kernel_rfl) ?_
  clear H
  intro v3 H
  refine x_nil ?_
  refine x_frame' { tmps := #[.slice (some ⟨g, 0, none⟩) (q + (n - (q + 1))) cap, .int .i64 ((q : Nat) : Int), .int .i64 (((q + 1) : Nat) : Int), undef, undef, undef, .slice none 0 0, .int .i64 ((n : Nat) : Int), .slice (some ⟨g, 0, none⟩) n cap, .int .i64 ((q : Nat) : Int), .int .i64 (((q + 1) : Nat) : Int), .slice (some ⟨g, 0, none⟩) n cap, .int .i64 ((n : Nat) : Int), (sliced (some ⟨g, 0, none⟩) q (q + 1) n 5), .int .i64 ((q : Nat) : Int), .int .i64 (((q + 1) : Nat) : Int), .bool false, undef, .slice (some ⟨g, 0, none⟩) n cap, .int .i64 ((n : Nat) : Int), .slice (some ⟨g, 0, none⟩) n cap, .int .i64 ((q : Nat) : Int), .slice (some ⟨g, 0, none⟩) q cap, .slice (some ⟨g, 0, none⟩) n cap, .int .i64 (((q + 1) : Nat) : Int), (sliced (some ⟨g, 0, none⟩) (q + 1) n cap 5), .slice (some ⟨g, 0, none⟩) (q + (n - (q + 1))) cap, .slice (some ⟨g, 0, none⟩) (q + (n - (q + 1))) cap, .slice (some ⟨g, 0, none⟩) (q + (n - (q + 1))) cap, .int .i64 (((q + (n - (q + 1))) : Nat) : Int), .int .i64 ((n : Nat) : Int), .slice (some ⟨g, (q + (n - (q + 1))) * 5, none⟩) (n - (q + (n - (q + 1)))) (cap - (q + (n - (q + 1)))), undef], defers := [] } (by kernel_rfl) ?_
  refine x_then ?_
  refine x_seq ?_
  refine x_region ?_
  refine x_val (.slice (some ⟨g, 0, none⟩) (q + (n - (q + 1))) cap) (by kernel_rfl) rfl (by kernel_rfl) ?_
  refine x_val (.slice (some ⟨g, 0, none⟩) (q + (n - (q + 1))) cap) (by kernel_rfl) rfl (by kernel_rfl) ?_
  refine x_nil ?_
  refine x_then ?_
  refine x_retc ?_
  refine x_ret (.slice (some ⟨g, 0, none⟩) (q + (n - (q + 1))) cap) (by kernel_rfl) (by kernel_rfl) ?_
  have hm : q + (n - (q + 1)) = n - 1 := by omega
  rw [hm] at H ⊢
  exact ⟨rfl, H⟩

end Go.Proofs.YtjbaabffilejeaaDoor
