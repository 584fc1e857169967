/- The document's log: what is added. -/
import Derived.Test.YtpeefnbcgilihaaRecE
namespace Go.Proofs.Ytpeefnbcgilihaa
open Go Go.RowKit
set_option linter.unusedVariables false
set_option linter.unusedSimpArgs false

/-- The place of the first one that isn't grave, from a place on. -/
def ltL : List Rec → Nat → Int
  | [], _ => -1
  | x :: r, j => if x.2.2.1 = 2 then ltL r (j + 1) else (j : Int)
def ltF (xs : List Rec) (j : Nat) : Int := ltL (xs.drop j) j
theorem ltF_end (xs : List Rec) : ltF xs xs.length = -1 := by unfold ltF; rw [List.drop_length]; rfl
theorem ltF_step (xs : List Rec) (j : Nat) (h : j < xs.length) : ltF xs j = if kd xs j = 2 then ltF xs (j + 1) else (j : Int) := by
  have e : kd xs j = (xs[j]).2.2.1 := by simp [kd, List.getD, h]
  unfold ltF
  rw [List.drop_eq_getElem_cons h, e]
  rfl
theorem ltL_find (xs : List Rec) : ∀ j, ltL xs j = if lq xs < xs.length then ((j + lq xs : Nat) : Int) else -1 := by
  induction xs with
  | nil => intro j; rfl
  | cons x r ih =>
    intro j
    have hc : lq (x :: r) = if x.2.2.1 = 2 then lq r + 1 else 0 := by
      unfold lq
      rw [List.findIdx_cons]
      by_cases h : x.2.2.1 = 2 <;> simp [h]
    rw [hc]
    by_cases h : x.2.2.1 = 2
    · simp only [ltL, if_pos h, ih, List.length_cons]
      by_cases h2 : lq r < r.length
      · rw [if_pos h2, if_pos (by omega)]; congr 1; omega
      · rw [if_neg h2, if_neg (by omega)]
    · simp only [ltL, if_neg h, List.length_cons]
      rw [if_pos (by omega)]; rfl
theorem ltF_zero (xs : List Rec) : ltF xs 0 = lightI xs := by
  unfold ltF lightI
  rw [List.drop_zero, ltL_find]
  simp

set_option maxRecDepth 100000 in
set_option maxHeartbeats 2000000 in
theorem Ref_room_n  {xs : List Rec} {room : Nat} {nx : Int} {lo : Bool} (s t k i f : Int) (hn : xs.length < room) (hr : room ≤ 4096) (hx : -1000 ≤ nx ∧ nx ≤ 9223372036854770000) (w0 : World) (H0 : Hs (fps [.row (.slice none 0 0) 46 5 (List.length xs) (List.flatMap recL xs)]) w0 w0 [.row (.slice none 0 0) 46 5 (List.length xs) (List.flatMap recL xs)]) :
    Calls Try.prog 19 #[.agg #[.slice none 0 0, .int .i64 ((room : Nat) : Int), .int .i64 nx, .bool lo], .agg #[.int .i64 s, .int .i64 t, .int .i64 k, .int .i64 i, .int .i64 f]] w0 fun e w' => ∃ xv', e = .returned (.tuple #[.agg #[xv', .int .i64 ((room : Nat) : Int), .int .i64 (nx + 1), .bool lo], .bool true]) ∧ Hs (fps [.row (.slice none 0 0) 46 5 (List.length xs) (List.flatMap recL xs)]) w0 w' [.row (xv') 46 5 (List.length (xs ++ [(nx, t, k, i, f)])) (List.flatMap recL (xs ++ [(nx, t, k, i, f)]))] := by
  refine x_enter Try.func19 rfl #[.agg #[.slice none 0 0, .int .i64 ((room : Nat) : Int), .int .i64 nx, .bool lo], .agg #[.int .i64 s, .int .i64 t, .int .i64 k, .int .i64 i, .int .i64 f], undef, undef, undef, undef, undef, undef, undef, undef, undef, undef, undef, undef, undef, undef, undef, undef, undef, undef, undef, undef, undef, undef, undef, undef, undef, undef, undef, undef, undef, undef, undef, undef, undef, undef, undef, undef, undef, undef, undef, undef, undef, undef, undef, undef, undef, undef, undef, undef, undef, undef, undef, undef, undef, undef, undef, undef, undef, undef, undef, undef, undef, undef, undef, undef, undef, undef, undef, undef, undef, undef, undef, undef, undef, undef] (by kernel_rfl) ?_
  have H := H0
  have q1 : decide (0 < ((room : Nat) : Int)) = true := by simp; omega
  refine x_seq ?_
  refine x_region ?_
  refine x_box H #[.slice none 0 0, .int .i64 ((room : Nat) : Int), .int .i64 nx, .bool lo] 41 (by kernel_rfl) rfl (by kernel_rfl) ?_
  clear H
  intro v1 g1 H
  refine x_box H #[.int .i64 s, .int .i64 t, .int .i64 k, .int .i64 i, .int .i64 f] 46 (by kernel_rfl) rfl (by kernel_rfl) ?_
  clear H
  intro v2 g2 H
  refine x_box H #[.slice none 0 0, .int .i64 0, .int .i64 0, .bool false] 41 (by kernel_rfl) rfl (by kernel_rfl) ?_
  clear H
  intro v3 g3 H
  refine x_val (.bool false) (by kernel_rfl) rfl (by kernel_rfl) ?_
  refine x_nil ?_
  refine x_then ?_
  refine x_seq ?_
  refine x_region ?_
  refine x_val (.pointer (some ⟨g1, 2, none⟩)) (by kernel_rfl) rfl (by kernel_rfl) ?_
  refine x_load1 H 2 g1 2 #[.slice none 0 0, .int .i64 ((room : Nat) : Int), .int .i64 nx, .bool lo] 41 (.int .i64 nx) (by kernel_rfl) (by kernel_rfl) (by kernel_rfl) rfl (by kernel_rfl) ?_
  refine x_val (.pointer (some ⟨g2, 0, none⟩)) (by kernel_rfl) rfl (by kernel_rfl) ?_
  refine x_store (t := 3) (v := .int .i64 nx) H 1 g2 0 #[.int .i64 s, .int .i64 t, .int .i64 k, .int .i64 i, .int .i64 f] #[.int .i64 nx, .int .i64 t, .int .i64 k, .int .i64 i, .int .i64 f] 46 [.int .i64 nx] [.blk g3 #[.slice none 0 0, .int .i64 0, .int .i64 0, .bool false] 41, .blk g2 #[.int .i64 nx, .int .i64 t, .int .i64 k, .int .i64 i, .int .i64 f] 46, .blk g1 #[.slice none 0 0, .int .i64 ((room : Nat) : Int), .int .i64 nx, .bool lo] 41, .row (.slice none 0 0) 46 5 (List.length xs) (List.flatMap recL xs)] (by kernel_rfl) rfl (by kernel_rfl) (by kernel_rfl) (by kernel_rfl) (by kernel_rfl) (by kernel_rfl) (by kernel_rfl) (by kernel_rfl) (by kernel_rfl) ?_
  clear H
  intro v4 H
  refine x_nil ?_
  refine x_then ?_
  refine x_seq ?_
  refine x_region ?_
  refine x_val (.pointer (some ⟨g1, 2, none⟩)) (by kernel_rfl) rfl (by kernel_rfl) ?_
  refine x_load1 H 2 g1 2 #[.slice none 0 0, .int .i64 ((room : Nat) : Int), .int .i64 nx, .bool lo] 41 (.int .i64 nx) (by kernel_rfl) (by kernel_rfl) (by kernel_rfl) rfl (by kernel_rfl) ?_
  refine x_ar (nx + 1) ⟨by omega, by omega⟩ (by kernel_rfl) rfl (by kernel_rfl) ?_
  refine x_val (.pointer (some ⟨g1, 2, none⟩)) (by kernel_rfl) rfl (by kernel_rfl) ?_
  refine x_store (t := 3) (v := .int .i64 (nx + 1)) H 2 g1 2 #[.slice none 0 0, .int .i64 ((room : Nat) : Int), .int .i64 nx, .bool lo] #[.slice none 0 0, .int .i64 ((room : Nat) : Int), .int .i64 (nx + 1), .bool lo] 41 [.int .i64 (nx + 1)] [.blk g3 #[.slice none 0 0, .int .i64 0, .int .i64 0, .bool false] 41, .blk g2 #[.int .i64 nx, .int .i64 t, .int .i64 k, .int .i64 i, .int .i64 f] 46, .blk g1 #[.slice none 0 0, .int .i64 ((room : Nat) : Int), .int .i64 (nx + 1), .bool lo] 41, .row (.slice none 0 0) 46 5 (List.length xs) (List.flatMap recL xs)] (by kernel_rfl) rfl (by kernel_rfl) (by kernel_rfl) (by kernel_rfl) (by kernel_rfl) (by kernel_rfl) (by kernel_rfl) (by kernel_rfl) (by kernel_rfl) ?_
  clear H
  intro v5 H
  refine x_nil ?_
  refine x_then ?_
  refine x_seq ?_
  refine x_region ?_
  refine x_val (.int .i64 (-1)) (by kernel_rfl) rfl (by kernel_rfl) ?_
  refine x_nil ?_
  refine x_then ?_
  refine x_seq ?_
  refine x_seq ?_
  refine x_region ?_
  refine x_val (.pointer (some ⟨g1, 0, none⟩)) (by kernel_rfl) rfl (by kernel_rfl) ?_
  refine x_load1 H 2 g1 0 #[.slice none 0 0, .int .i64 ((room : Nat) : Int), .int .i64 (nx + 1), .bool lo] 41 (.slice none 0 0) (by kernel_rfl) (by kernel_rfl) (by kernel_rfl) rfl (by kernel_rfl) ?_
  refine x_val (.int .i64 0) (by kernel_rfl) rfl (by kernel_rfl) ?_
  refine x_val (.int .i64 (-1)) (by kernel_rfl) rfl (by kernel_rfl) ?_
  refine x_val (.int .i64 (-1)) (by kernel_rfl) rfl (by kernel_rfl) ?_
  refine x_nil ?_
  refine x_then ?_
  refine x_block ?_
  refine x_loop (G := Unit) (fun (_ : Unit) a w' => ∃ uf1 : Nat → Value, a = { tmps := #[.agg #[.slice none 0 0, .int .i64 ((room : Nat) : Int), .int .i64 nx, .bool lo], .agg #[.int .i64 s, .int .i64 t, .int .i64 k, .int .i64 i, .int .i64 f], .pointer (some ⟨g1, 0, none⟩), .pointer (some ⟨g2, 0, none⟩), .pointer (some ⟨g3, 0, none⟩), .bool false, .int .i64 (-1), .int .i64 (-1), undef, .pointer (some ⟨g1, 2, none⟩), .int .i64 nx, .pointer (some ⟨g2, 0, none⟩), .pointer (some ⟨g1, 2, none⟩), .int .i64 nx, .int .i64 (nx + 1), .pointer (some ⟨g1, 2, none⟩), .pointer (some ⟨g1, 0, none⟩), .slice none 0 0, .int .i64 0, .int .i64 (-1), (uf1 0), (uf1 1), (uf1 2), (uf1 3), (uf1 4), (uf1 5), (uf1 6), (uf1 7), (uf1 8), (uf1 9), (uf1 10), (uf1 11), undef, undef, undef, undef, undef, undef, undef, undef, undef, undef, undef, undef, undef, undef, undef, undef, undef, undef, undef, undef, undef, undef, undef, undef, undef, undef, undef, undef, undef, undef, undef, undef, undef, undef, undef, undef, undef, undef, undef, undef, undef, undef, undef, undef], defers := [] } ∧ Hs (fps [.row (.slice none 0 0) 46 5 (List.length xs) (List.flatMap recL xs)]) w0 w' [.blk g3 #[.slice none 0 0, .int .i64 0, .int .i64 0, .bool false] 41, .blk g2 #[.int .i64 nx, .int .i64 t, .int .i64 k, .int .i64 i, .int .i64 f] 46, .blk g1 #[.slice none 0 0, .int .i64 ((room : Nat) : Int), .int .i64 (nx + 1), .bool lo] 41, .row (.slice none 0 0) 46 5 (List.length xs) (List.flatMap recL xs)]) (fun _ => 0) () ⟨(nthV [undef, undef, undef, undef, undef, undef, undef, undef, undef, undef, undef, undef]), (by kernel_rfl), H⟩ ?_
  clear H
  rintro _ _ v6 ⟨uf1, rfl, H⟩
  refine x_seq ?_
  refine x_seq ?_
  refine x_region ?_
  refine x_val (.int .i64 (-1)) (by kernel_rfl) rfl (by kernel_rfl) ?_
  refine x_val (.bool false) (by kernel_rfl) rfl (by kernel_rfl) ?_
  refine x_nil ?_
  refine x_then ?_
  refine x_f (by kernel_rfl) ?_
  refine x_exit ?_
  refine x_then_exit ?_
  refine x_then_exit ?_
  refine x_blk_exit ?_
  refine x_then ?_
  refine x_seq ?_
  refine x_region ?_
  refine x_val (.slice none 0 0) (by kernel_rfl) rfl (by kernel_rfl) ?_
  refine x_nil ?_
  refine x_then ?_
  refine x_seq ?_
  refine x_seq ?_
  refine x_region ?_
  refine x_val (.pointer (some ⟨g1, 0, none⟩)) (by kernel_rfl) rfl (by kernel_rfl) ?_
  refine x_load1 H 2 g1 0 #[.slice none 0 0, .int .i64 ((room : Nat) : Int), .int .i64 (nx + 1), .bool lo] 41 (.slice none 0 0) (by kernel_rfl) (by kernel_rfl) (by kernel_rfl) rfl (by kernel_rfl) ?_
  refine x_val (.int .i64 0) (by kernel_rfl) rfl (by kernel_rfl) ?_
  refine x_val (.pointer (some ⟨g1, 1, none⟩)) (by kernel_rfl) rfl (by kernel_rfl) ?_
  refine x_load1 H 2 g1 1 #[.slice none 0 0, .int .i64 ((room : Nat) : Int), .int .i64 (nx + 1), .bool lo] 41 (.int .i64 ((room : Nat) : Int)) (by kernel_rfl) (by kernel_rfl) (by kernel_rfl) rfl (by kernel_rfl) ?_
  refine x_val (.bool (decide (0 < ((room : Nat) : Int)))) (by kernel_rfl) rfl (by kernel_rfl) ?_
  refine x_nil ?_
  refine x_then ?_
  rw [q1]
  refine x_t (by kernel_rfl) ?_
  refine x_seq ?_
  refine x_region ?_
  refine x_val (.slice none 0 0) (by kernel_rfl) rfl (by kernel_rfl) ?_
  refine x_val (.pointer (some ⟨g1, 0, none⟩)) (by kernel_rfl) rfl (by kernel_rfl) ?_
  refine x_load1 H 2 g1 0 #[.slice none 0 0, .int .i64 ((room : Nat) : Int), .int .i64 (nx + 1), .bool lo] 41 (.slice none 0 0) (by kernel_rfl) (by kernel_rfl) (by kernel_rfl) rfl (by kernel_rfl) ?_
  replace H := H.nilRow 46 5
  replace H : Hs (fps [.row (.slice none 0 0) 46 5 (List.length xs) (List.flatMap recL xs)]) w0 _ [.row (.slice none 0 0) 46 5 0 (List.flatMap recL ([] : List Rec)), .blk g3 #[.slice none 0 0, .int .i64 0, .int .i64 0, .bool false] 41, .blk g2 #[.int .i64 nx, .int .i64 t, .int .i64 k, .int .i64 i, .int .i64 f] 46, .blk g1 #[.slice none 0 0, .int .i64 ((room : Nat) : Int), .int .i64 (nx + 1), .bool lo] 41, .row (.slice none 0 0) 46 5 (List.length xs) (List.flatMap recL xs)] := H
  refine x_appendSrc H 0 (.slice none 0 0) 39 46 5 40 0 (.agg #[.int .i64 0, .int .i64 0, .int .i64 0, .int .i64 0, .int .i64 0]) (List.flatMap recL ([] : List Rec)) (.slice none 0 0) (List.length xs) (List.flatMap recL xs) rfl (src_row (H.ok 4 _ rfl)) (by kernel_rfl) (by kernel_rfl) (by kernel_rfl) (by decide) (oneCellFlat recOne _) (by unfold maxLen; omega) (by omega) (by kernel_rfl) rfl (by kernel_rfl) ?_
  clear H
  intro v7 vr41 H
  rw [show (List.flatMap recL ([] : List Rec)) ++ (List.flatMap recL xs) = (List.flatMap recL xs) from (by simp)] at H
  rw [show (0 + (List.length xs) : Nat) = (List.length xs) from (by simp)] at H
  replace H : Hs (fps [.row (.slice none 0 0) 46 5 (List.length xs) (List.flatMap recL xs)]) w0 v7 [.row (vr41) 46 5 (List.length xs) (List.flatMap recL xs), .blk g3 #[.slice none 0 0, .int .i64 0, .int .i64 0, .bool false] 41, .blk g2 #[.int .i64 nx, .int .i64 t, .int .i64 k, .int .i64 i, .int .i64 f] 46, .blk g1 #[.slice none 0 0, .int .i64 ((room : Nat) : Int), .int .i64 (nx + 1), .bool lo] 41, .row (.slice none 0 0) 46 5 (List.length xs) (List.flatMap recL xs)] := H
  refine x_val (vr41) (by kernel_rfl) rfl (by kernel_rfl) ?_
  refine x_nil ?_
  refine x_then ?_
  refine x_seq ?_
  refine x_region ?_
  refine x_val (vr41) (by kernel_rfl) rfl (by kernel_rfl) ?_
  refine x_loadn (t := 46) H 2 g2 0 #[.int .i64 nx, .int .i64 t, .int .i64 k, .int .i64 i, .int .i64 f] 46 [.int .i64 nx, .int .i64 t, .int .i64 k, .int .i64 i, .int .i64 f] (by kernel_rfl) (by kernel_rfl) (by kernel_rfl) rfl (by kernel_rfl) (by kernel_rfl) ?_
  refine x_box' H #[.int .i64 nx, .int .i64 t, .int .i64 k, .int .i64 i, .int .i64 f] 46 1 (by kernel_rfl) rfl (by kernel_rfl) ?_
  clear H
  intro v8 g4 H
  refine x_append H 1 (vr41) 39 46 5 40 (List.length xs) (.agg #[.int .i64 0, .int .i64 0, .int .i64 0, .int .i64 0, .int .i64 0]) (List.flatMap recL xs) ⟨g4, 0, none⟩ 1 1 [.int .i64 nx, .int .i64 t, .int .i64 k, .int .i64 i, .int .i64 f] rfl (by kernel_rfl) (by kernel_rfl) rfl (by decide) (by decide) rfl (fun j u hj => by rw [add_none]; exact cellOf (H.blk 0 rfl) (by simpa using hj)) (List.all_eq_true.1 (by kernel_rfl)) (by unfold maxLen; omega) (by omega) (by kernel_rfl) rfl (by kernel_rfl) ?_
  clear H
  intro v9 g5 c5 hc5 H
  rw [show (((List.length xs) + 1) : Nat) = (List.length (xs ++ [(nx, t, k, i, f)])) from (by simp)] at H ⊢
  rw [show (List.flatMap recL xs) ++ [.int .i64 nx, .int .i64 t, .int .i64 k, .int .i64 i, .int .i64 f] = (List.flatMap recL (xs ++ [(nx, t, k, i, f)])) from (by rw [List.flatMap_append]; rfl)] at H
  replace H : Hs (fps [.row (.slice none 0 0) 46 5 (List.length xs) (List.flatMap recL xs)]) w0 v9 [.blk g4 #[.int .i64 nx, .int .i64 t, .int .i64 k, .int .i64 i, .int .i64 f] 46, .row (.slice (some ⟨g5, 0, none⟩) (List.length (xs ++ [(nx, t, k, i, f)])) c5) 46 5 (List.length (xs ++ [(nx, t, k, i, f)])) (List.flatMap recL (xs ++ [(nx, t, k, i, f)])), .blk g3 #[.slice none 0 0, .int .i64 0, .int .i64 0, .bool false] 41, .blk g2 #[.int .i64 nx, .int .i64 t, .int .i64 k, .int .i64 i, .int .i64 f] 46, .blk g1 #[.slice none 0 0, .int .i64 ((room : Nat) : Int), .int .i64 (nx + 1), .bool lo] 41, .row (.slice none 0 0) 46 5 (List.length xs) (List.flatMap recL xs)] := H
  replace H := H.pick [1, 2, 3, 4, 5] [.row (.slice (some ⟨g5, 0, none⟩) (List.length (xs ++ [(nx, t, k, i, f)])) c5) 46 5 (List.length (xs ++ [(nx, t, k, i, f)])) (List.flatMap recL (xs ++ [(nx, t, k, i, f)])), .blk g3 #[.slice none 0 0, .int .i64 0, .int .i64 0, .bool false] 41, .blk g2 #[.int .i64 nx, .int .i64 t, .int .i64 k, .int .i64 i, .int .i64 f] 46, .blk g1 #[.slice none 0 0, .int .i64 ((room : Nat) : Int), .int .i64 (nx + 1), .bool lo] 41, .row (.slice none 0 0) 46 5 (List.length xs) (List.flatMap recL xs)] (by decide) (by kernel_rfl)
  refine x_val (.pointer (some ⟨g1, 0, none⟩)) (by kernel_rfl) rfl (by kernel_rfl) ?_
  refine x_store (t := 39) (v := .slice (some ⟨g5, 0, none⟩) (List.length (xs ++ [(nx, t, k, i, f)])) c5) H 3 g1 0 #[.slice none 0 0, .int .i64 ((room : Nat) : Int), .int .i64 (nx + 1), .bool lo] #[.slice (some ⟨g5, 0, none⟩) (List.length (xs ++ [(nx, t, k, i, f)])) c5, .int .i64 ((room : Nat) : Int), .int .i64 (nx + 1), .bool lo] 41 [.slice (some ⟨g5, 0, none⟩) (List.length (xs ++ [(nx, t, k, i, f)])) c5] [.row (.slice (some ⟨g5, 0, none⟩) (List.length (xs ++ [(nx, t, k, i, f)])) c5) 46 5 (List.length (xs ++ [(nx, t, k, i, f)])) (List.flatMap recL (xs ++ [(nx, t, k, i, f)])), .blk g3 #[.slice none 0 0, .int .i64 0, .int .i64 0, .bool false] 41, .blk g2 #[.int .i64 nx, .int .i64 t, .int .i64 k, .int .i64 i, .int .i64 f] 46, .blk g1 #[.slice (some ⟨g5, 0, none⟩) (List.length (xs ++ [(nx, t, k, i, f)])) c5, .int .i64 ((room : Nat) : Int), .int .i64 (nx + 1), .bool lo] 41, .row (.slice none 0 0) 46 5 (List.length xs) (List.flatMap recL xs)] (by kernel_rfl) rfl (by kernel_rfl) (by kernel_rfl) (by kernel_rfl) (by kernel_rfl) (by kernel_rfl) (by kernel_rfl) (by kernel_rfl) (by kernel_rfl) ?_
  clear H
  intro v10 H
  refine x_nil ?_
  refine x_then ?_
  refine x_seq ?_
  refine x_region ?_
  refine x_loadn (t := 41) H 3 g1 0 #[.slice (some ⟨g5, 0, none⟩) (List.length (xs ++ [(nx, t, k, i, f)])) c5, .int .i64 ((room : Nat) : Int), .int .i64 (nx + 1), .bool lo] 41 [.slice (some ⟨g5, 0, none⟩) (List.length (xs ++ [(nx, t, k, i, f)])) c5, .int .i64 ((room : Nat) : Int), .int .i64 (nx + 1), .bool lo] (by kernel_rfl) (by kernel_rfl) (by kernel_rfl) rfl (by kernel_rfl) (by kernel_rfl) ?_
  refine x_store (t := 41) (v := .agg #[.slice (some ⟨g5, 0, none⟩) (List.length (xs ++ [(nx, t, k, i, f)])) c5, .int .i64 ((room : Nat) : Int), .int .i64 (nx + 1), .bool lo]) H 1 g3 0 #[.slice none 0 0, .int .i64 0, .int .i64 0, .bool false] #[.slice (some ⟨g5, 0, none⟩) (List.length (xs ++ [(nx, t, k, i, f)])) c5, .int .i64 ((room : Nat) : Int), .int .i64 (nx + 1), .bool lo] 41 [.slice (some ⟨g5, 0, none⟩) (List.length (xs ++ [(nx, t, k, i, f)])) c5, .int .i64 ((room : Nat) : Int), .int .i64 (nx + 1), .bool lo] [.row (.slice (some ⟨g5, 0, none⟩) (List.length (xs ++ [(nx, t, k, i, f)])) c5) 46 5 (List.length (xs ++ [(nx, t, k, i, f)])) (List.flatMap recL (xs ++ [(nx, t, k, i, f)])), .blk g3 #[.slice (some ⟨g5, 0, none⟩) (List.length (xs ++ [(nx, t, k, i, f)])) c5, .int .i64 ((room : Nat) : Int), .int .i64 (nx + 1), .bool lo] 41, .blk g2 #[.int .i64 nx, .int .i64 t, .int .i64 k, .int .i64 i, .int .i64 f] 46, .blk g1 #[.slice (some ⟨g5, 0, none⟩) (List.length (xs ++ [(nx, t, k, i, f)])) c5, .int .i64 ((room : Nat) : Int), .int .i64 (nx + 1), .bool lo] 41, .row (.slice none 0 0) 46 5 (List.length xs) (List.flatMap recL xs)] (by kernel_rfl) rfl (by kernel_rfl) (by kernel_rfl) (by kernel_rfl) (by kernel_rfl) (by kernel_rfl) (by kernel_rfl) (by kernel_rfl) (by kernel_rfl) ?_
  clear H
  intro v11 H
  refine x_val (.bool true) (by kernel_rfl) rfl (by kernel_rfl) ?_
  refine x_nil ?_
  refine x_then ?_
  refine x_retc ?_
  refine x_then_ret ?_
  refine x_ret (.tuple #[.agg #[.slice (some ⟨g5, 0, none⟩) (List.length (xs ++ [(nx, t, k, i, f)])) c5, .int .i64 ((room : Nat) : Int), .int .i64 (nx + 1), .bool lo], .bool true]) (by kernel_rfl) (x_rescell H 1 g3 0 #[.slice (some ⟨g5, 0, none⟩) (List.length (xs ++ [(nx, t, k, i, f)])) c5, .int .i64 ((room : Nat) : Int), .int .i64 (nx + 1), .bool lo] 41 [.slice (some ⟨g5, 0, none⟩) (List.length (xs ++ [(nx, t, k, i, f)])) c5, .int .i64 ((room : Nat) : Int), .int .i64 (nx + 1), .bool lo] (fun x => .tuple #[x, .bool true]) (by kernel_rfl) (by kernel_rfl) (by kernel_rfl)) ?_
  exact ⟨_, rfl, H.pick [0] _ (by decide) (by kernel_rfl)⟩

set_option maxRecDepth 100000 in
set_option maxHeartbeats 2000000 in
theorem Ref_room_s {g cap : Nat}  {xs : List Rec} {room : Nat} {nx : Int} {lo : Bool} (s t k i f : Int) (hn : xs.length < room) (hr : room ≤ 4096) (hx : -1000 ≤ nx ∧ nx ≤ 9223372036854770000) (w0 : World) (H0 : Hs (fps [.row (.slice (some ⟨g, 0, none⟩) (List.length xs) cap) 46 5 (List.length xs) (List.flatMap recL xs)]) w0 w0 [.row (.slice (some ⟨g, 0, none⟩) (List.length xs) cap) 46 5 (List.length xs) (List.flatMap recL xs)]) :
    Calls Try.prog 19 #[.agg #[.slice (some ⟨g, 0, none⟩) (List.length xs) cap, .int .i64 ((room : Nat) : Int), .int .i64 nx, .bool lo], .agg #[.int .i64 s, .int .i64 t, .int .i64 k, .int .i64 i, .int .i64 f]] w0 fun e w' => ∃ xv', e = .returned (.tuple #[.agg #[xv', .int .i64 ((room : Nat) : Int), .int .i64 (nx + 1), .bool lo], .bool true]) ∧ Hs (fps [.row (.slice (some ⟨g, 0, none⟩) (List.length xs) cap) 46 5 (List.length xs) (List.flatMap recL xs)]) w0 w' [.row (xv') 46 5 (List.length (xs ++ [(nx, t, k, i, f)])) (List.flatMap recL (xs ++ [(nx, t, k, i, f)]))] := by
  refine x_enter Try.func19 rfl #[.agg #[.slice (some ⟨g, 0, none⟩) (List.length xs) cap, .int .i64 ((room : Nat) : Int), .int .i64 nx, .bool lo], .agg #[.int .i64 s, .int .i64 t, .int .i64 k, .int .i64 i, .int .i64 f], undef, undef, undef, undef, undef, undef, undef, undef, undef, undef, undef, undef, undef, undef, undef, undef, undef, undef, undef, undef, undef, undef, undef, undef, undef, undef, undef, undef, undef, undef, undef, undef, undef, undef, undef, undef, undef, undef, undef, undef, undef, undef, undef, undef, undef, undef, undef, undef, undef, undef, undef, undef, undef, undef, undef, undef, undef, undef, undef, undef, undef, undef, undef, undef, undef, undef, undef, undef, undef, undef, undef, undef, undef, undef] (by kernel_rfl) ?_
  have H := H0
  have q1 : decide ((((List.length xs) : Nat) : Int) < ((room : Nat) : Int)) = true := by simp; omega
  refine x_seq ?_
  refine x_region ?_
  refine x_box H #[.slice (some ⟨g, 0, none⟩) (List.length xs) cap, .int .i64 ((room : Nat) : Int), .int .i64 nx, .bool lo] 41 (by kernel_rfl) rfl (by kernel_rfl) ?_
  clear H
  intro v1 g1 H
  refine x_box H #[.int .i64 s, .int .i64 t, .int .i64 k, .int .i64 i, .int .i64 f] 46 (by kernel_rfl) rfl (by kernel_rfl) ?_
  clear H
  intro v2 g2 H
  refine x_box H #[.slice none 0 0, .int .i64 0, .int .i64 0, .bool false] 41 (by kernel_rfl) rfl (by kernel_rfl) ?_
  clear H
  intro v3 g3 H
  refine x_val (.bool false) (by kernel_rfl) rfl (by kernel_rfl) ?_
  refine x_nil ?_
  refine x_then ?_
  refine x_seq ?_
  refine x_region ?_
  refine x_val (.pointer (some ⟨g1, 2, none⟩)) (by kernel_rfl) rfl (by kernel_rfl) ?_
  refine x_load1 H 2 g1 2 #[.slice (some ⟨g, 0, none⟩) (List.length xs) cap, .int .i64 ((room : Nat) : Int), .int .i64 nx, .bool lo] 41 (.int .i64 nx) (by kernel_rfl) (by kernel_rfl) (by kernel_rfl) rfl (by kernel_rfl) ?_
  refine x_val (.pointer (some ⟨g2, 0, none⟩)) (by kernel_rfl) rfl (by kernel_rfl) ?_
  refine x_store (t := 3) (v := .int .i64 nx) H 1 g2 0 #[.int .i64 s, .int .i64 t, .int .i64 k, .int .i64 i, .int .i64 f] #[.int .i64 nx, .int .i64 t, .int .i64 k, .int .i64 i, .int .i64 f] 46 [.int .i64 nx] [.blk g3 #[.slice none 0 0, .int .i64 0, .int .i64 0, .bool false] 41, .blk g2 #[.int .i64 nx, .int .i64 t, .int .i64 k, .int .i64 i, .int .i64 f] 46, .blk g1 #[.slice (some ⟨g, 0, none⟩) (List.length xs) cap, .int .i64 ((room : Nat) : Int), .int .i64 nx, .bool lo] 41, .row (.slice (some ⟨g, 0, none⟩) (List.length xs) cap) 46 5 (List.length xs) (List.flatMap recL xs)] (by kernel_rfl) rfl (by kernel_rfl) (by kernel_rfl) (by kernel_rfl) (by kernel_rfl) (by kernel_rfl) (by kernel_rfl) (by kernel_rfl) (by kernel_rfl) ?_
  clear H
  intro v4 H
  refine x_nil ?_
  refine x_then ?_
  refine x_seq ?_
  refine x_region ?_
  refine x_val (.pointer (some ⟨g1, 2, none⟩)) (by kernel_rfl) rfl (by kernel_rfl) ?_
  refine x_load1 H 2 g1 2 #[.slice (some ⟨g, 0, none⟩) (List.length xs) cap, .int .i64 ((room : Nat) : Int), .int .i64 nx, .bool lo] 41 (.int .i64 nx) (by kernel_rfl) (by kernel_rfl) (by kernel_rfl) rfl (by kernel_rfl) ?_
  refine x_ar (nx + 1) ⟨by omega, by omega⟩ (by kernel_rfl) rfl (by kernel_rfl) ?_
  refine x_val (.pointer (some ⟨g1, 2, none⟩)) (by kernel_rfl) rfl (by kernel_rfl) ?_
  refine x_store (t := 3) (v := .int .i64 (nx + 1)) H 2 g1 2 #[.slice (some ⟨g, 0, none⟩) (List.length xs) cap, .int .i64 ((room : Nat) : Int), .int .i64 nx, .bool lo] #[.slice (some ⟨g, 0, none⟩) (List.length xs) cap, .int .i64 ((room : Nat) : Int), .int .i64 (nx + 1), .bool lo] 41 [.int .i64 (nx + 1)] [.blk g3 #[.slice none 0 0, .int .i64 0, .int .i64 0, .bool false] 41, .blk g2 #[.int .i64 nx, .int .i64 t, .int .i64 k, .int .i64 i, .int .i64 f] 46, .blk g1 #[.slice (some ⟨g, 0, none⟩) (List.length xs) cap, .int .i64 ((room : Nat) : Int), .int .i64 (nx + 1), .bool lo] 41, .row (.slice (some ⟨g, 0, none⟩) (List.length xs) cap) 46 5 (List.length xs) (List.flatMap recL xs)] (by kernel_rfl) rfl (by kernel_rfl) (by kernel_rfl) (by kernel_rfl) (by kernel_rfl) (by kernel_rfl) (by kernel_rfl) (by kernel_rfl) (by kernel_rfl) ?_
  clear H
  intro v5 H
  refine x_nil ?_
  refine x_then ?_
  refine x_seq ?_
  refine x_region ?_
  refine x_val (.int .i64 (-1)) (by kernel_rfl) rfl (by kernel_rfl) ?_
  refine x_nil ?_
  refine x_then ?_
  refine x_seq ?_
  refine x_seq ?_
  refine x_region ?_
  refine x_val (.pointer (some ⟨g1, 0, none⟩)) (by kernel_rfl) rfl (by kernel_rfl) ?_
  refine x_load1 H 2 g1 0 #[.slice (some ⟨g, 0, none⟩) (List.length xs) cap, .int .i64 ((room : Nat) : Int), .int .i64 (nx + 1), .bool lo] 41 (.slice (some ⟨g, 0, none⟩) (List.length xs) cap) (by kernel_rfl) (by kernel_rfl) (by kernel_rfl) rfl (by kernel_rfl) ?_
  refine x_val (.int .i64 (((List.length xs) : Nat) : Int)) (by kernel_rfl) rfl (by kernel_rfl) ?_
  refine x_ar ((((List.length xs) : Nat) : Int) - 1) ⟨by omega, by omega⟩ (by kernel_rfl) rfl (by kernel_rfl) ?_
  refine x_val (.int .i64 ((((List.length xs) : Nat) : Int) - 1)) (by kernel_rfl) rfl (by kernel_rfl) ?_
  refine x_nil ?_
  refine x_then ?_
  refine x_block ?_
  refine x_loop (G := Nat × Int) (fun gh a w' => match gh with | (j, at0) => ∃ uf1 : Nat → Value, a = { tmps := #[.agg #[.slice (some ⟨g, 0, none⟩) (List.length xs) cap, .int .i64 ((room : Nat) : Int), .int .i64 nx, .bool lo], .agg #[.int .i64 s, .int .i64 t, .int .i64 k, .int .i64 i, .int .i64 f], .pointer (some ⟨g1, 0, none⟩), .pointer (some ⟨g2, 0, none⟩), .pointer (some ⟨g3, 0, none⟩), .bool false, .int .i64 at0, .int .i64 (((j : Nat) : Int) - 1), undef, .pointer (some ⟨g1, 2, none⟩), .int .i64 nx, .pointer (some ⟨g2, 0, none⟩), .pointer (some ⟨g1, 2, none⟩), .int .i64 nx, .int .i64 (nx + 1), .pointer (some ⟨g1, 2, none⟩), .pointer (some ⟨g1, 0, none⟩), .slice (some ⟨g, 0, none⟩) (List.length xs) cap, .int .i64 (((List.length xs) : Nat) : Int), .int .i64 ((((List.length xs) : Nat) : Int) - 1), (uf1 0), (uf1 1), (uf1 2), (uf1 3), (uf1 4), (uf1 5), (uf1 6), (uf1 7), (uf1 8), (uf1 9), (uf1 10), (uf1 11), undef, undef, undef, undef, undef, undef, undef, undef, undef, undef, undef, undef, undef, undef, undef, undef, undef, undef, undef, undef, undef, undef, undef, undef, undef, undef, undef, undef, undef, undef, undef, undef, undef, undef, undef, undef, undef, undef, undef, undef, undef, undef, undef, undef], defers := [] } ∧ Hs (fps [.row (.slice (some ⟨g, 0, none⟩) (List.length xs) cap) 46 5 (List.length xs) (List.flatMap recL xs)]) w0 w' [.blk g3 #[.slice none 0 0, .int .i64 0, .int .i64 0, .bool false] 41, .blk g2 #[.int .i64 nx, .int .i64 t, .int .i64 k, .int .i64 i, .int .i64 f] 46, .blk g1 #[.slice (some ⟨g, 0, none⟩) (List.length xs) cap, .int .i64 ((room : Nat) : Int), .int .i64 (nx + 1), .bool lo] 41, .row (.slice (some ⟨g, 0, none⟩) (List.length xs) cap) 46 5 (List.length xs) (List.flatMap recL xs)] ∧ (j ≤ xs.length) ∧ (at0 = ltF xs j)) (fun gh => match gh with | (j, at0) => j) ((List.length xs), (-1)) ⟨(nthV [undef, undef, undef, undef, undef, undef, undef, undef, undef, undef, undef, undef]), (by kernel_rfl), H, (Nat.le_refl _), (ltF_end xs).symm⟩ ?_
  clear H
  rintro ⟨j, at0⟩ _ v6 ⟨uf1, rfl, H, r1, r2⟩
  refine x_seq ?_
  refine x_seq ?_
  refine x_region ?_
  refine x_val (.int .i64 (((j : Nat) : Int) - 1)) (by kernel_rfl) rfl (by kernel_rfl) ?_
  refine x_val (.bool (decide (0 ≤ (((j : Nat) : Int) - 1)))) (by kernel_rfl) rfl (by kernel_rfl) ?_
  refine x_nil ?_
  refine x_then ?_
  cases h1 : decide (0 ≤ (((j : Nat) : Int) - 1))
  · skip
    have h1p := of_decide_eq_false h1
    have hj0 : j = 0 := by omega
    rw [hj0, ltF_zero] at r2
    refine x_f (by kernel_rfl) ?_
    refine x_exit ?_
    refine x_then_exit ?_
    refine x_then_exit ?_
    refine x_blk_exit ?_
    refine x_then ?_
    refine x_seq ?_
    refine x_region ?_
    refine x_val (.slice none 0 0) (by kernel_rfl) rfl (by kernel_rfl) ?_
    refine x_nil ?_
    refine x_then ?_
    refine x_seq ?_
    refine x_seq ?_
    refine x_region ?_
    refine x_val (.pointer (some ⟨g1, 0, none⟩)) (by kernel_rfl) rfl (by kernel_rfl) ?_
    refine x_load1 H 2 g1 0 #[.slice (some ⟨g, 0, none⟩) (List.length xs) cap, .int .i64 ((room : Nat) : Int), .int .i64 (nx + 1), .bool lo] 41 (.slice (some ⟨g, 0, none⟩) (List.length xs) cap) (by kernel_rfl) (by kernel_rfl) (by kernel_rfl) rfl (by kernel_rfl) ?_
    refine x_val (.int .i64 (((List.length xs) : Nat) : Int)) (by kernel_rfl) rfl (by kernel_rfl) ?_
    refine x_val (.pointer (some ⟨g1, 1, none⟩)) (by kernel_rfl) rfl (by kernel_rfl) ?_
    refine x_load1 H 2 g1 1 #[.slice (some ⟨g, 0, none⟩) (List.length xs) cap, .int .i64 ((room : Nat) : Int), .int .i64 (nx + 1), .bool lo] 41 (.int .i64 ((room : Nat) : Int)) (by kernel_rfl) (by kernel_rfl) (by kernel_rfl) rfl (by kernel_rfl) ?_
    refine x_val (.bool (decide ((((List.length xs) : Nat) : Int) < ((room : Nat) : Int)))) (by kernel_rfl) rfl (by kernel_rfl) ?_
    refine x_nil ?_
    refine x_then ?_
    rw [q1]
    refine x_t (by kernel_rfl) ?_
    refine x_seq ?_
    refine x_region ?_
    refine x_val (.slice none 0 0) (by kernel_rfl) rfl (by kernel_rfl) ?_
    refine x_val (.pointer (some ⟨g1, 0, none⟩)) (by kernel_rfl) rfl (by kernel_rfl) ?_
    refine x_load1 H 2 g1 0 #[.slice (some ⟨g, 0, none⟩) (List.length xs) cap, .int .i64 ((room : Nat) : Int), .int .i64 (nx + 1), .bool lo] 41 (.slice (some ⟨g, 0, none⟩) (List.length xs) cap) (by kernel_rfl) (by kernel_rfl) (by kernel_rfl) rfl (by kernel_rfl) ?_
    replace H := H.nilRow 46 5
    replace H : Hs (fps [.row (.slice (some ⟨g, 0, none⟩) (List.length xs) cap) 46 5 (List.length xs) (List.flatMap recL xs)]) w0 _ [.row (.slice none 0 0) 46 5 0 (List.flatMap recL ([] : List Rec)), .blk g3 #[.slice none 0 0, .int .i64 0, .int .i64 0, .bool false] 41, .blk g2 #[.int .i64 nx, .int .i64 t, .int .i64 k, .int .i64 i, .int .i64 f] 46, .blk g1 #[.slice (some ⟨g, 0, none⟩) (List.length xs) cap, .int .i64 ((room : Nat) : Int), .int .i64 (nx + 1), .bool lo] 41, .row (.slice (some ⟨g, 0, none⟩) (List.length xs) cap) 46 5 (List.length xs) (List.flatMap recL xs)] := H
    refine x_appendSrc H 0 (.slice none 0 0) 39 46 5 40 0 (.agg #[.int .i64 0, .int .i64 0, .int .i64 0, .int .i64 0, .int .i64 0]) (List.flatMap recL ([] : List Rec)) (.slice (some ⟨g, 0, none⟩) (List.length xs) cap) (List.length xs) (List.flatMap recL xs) rfl (src_row (H.ok 4 _ rfl)) (by kernel_rfl) (by kernel_rfl) (by kernel_rfl) (by decide) (oneCellFlat recOne _) (by unfold maxLen; omega) (by omega) (by kernel_rfl) rfl (by kernel_rfl) ?_
    clear H
    intro v7 vr41 H
    rw [show (List.flatMap recL ([] : List Rec)) ++ (List.flatMap recL xs) = (List.flatMap recL xs) from (by simp)] at H
    rw [show (0 + (List.length xs) : Nat) = (List.length xs) from (by simp)] at H
    replace H : Hs (fps [.row (.slice (some ⟨g, 0, none⟩) (List.length xs) cap) 46 5 (List.length xs) (List.flatMap recL xs)]) w0 v7 [.row (vr41) 46 5 (List.length xs) (List.flatMap recL xs), .blk g3 #[.slice none 0 0, .int .i64 0, .int .i64 0, .bool false] 41, .blk g2 #[.int .i64 nx, .int .i64 t, .int .i64 k, .int .i64 i, .int .i64 f] 46, .blk g1 #[.slice (some ⟨g, 0, none⟩) (List.length xs) cap, .int .i64 ((room : Nat) : Int), .int .i64 (nx + 1), .bool lo] 41, .row (.slice (some ⟨g, 0, none⟩) (List.length xs) cap) 46 5 (List.length xs) (List.flatMap recL xs)] := H
    refine x_val (vr41) (by kernel_rfl) rfl (by kernel_rfl) ?_
    refine x_nil ?_
    refine x_then ?_
    refine x_seq ?_
    refine x_region ?_
    refine x_val (vr41) (by kernel_rfl) rfl (by kernel_rfl) ?_
    refine x_loadn (t := 46) H 2 g2 0 #[.int .i64 nx, .int .i64 t, .int .i64 k, .int .i64 i, .int .i64 f] 46 [.int .i64 nx, .int .i64 t, .int .i64 k, .int .i64 i, .int .i64 f] (by kernel_rfl) (by kernel_rfl) (by kernel_rfl) rfl (by kernel_rfl) (by kernel_rfl) ?_
    refine x_box' H #[.int .i64 nx, .int .i64 t, .int .i64 k, .int .i64 i, .int .i64 f] 46 1 (by kernel_rfl) rfl (by kernel_rfl) ?_
    clear H
    intro v8 g4 H
    refine x_append H 1 (vr41) 39 46 5 40 (List.length xs) (.agg #[.int .i64 0, .int .i64 0, .int .i64 0, .int .i64 0, .int .i64 0]) (List.flatMap recL xs) ⟨g4, 0, none⟩ 1 1 [.int .i64 nx, .int .i64 t, .int .i64 k, .int .i64 i, .int .i64 f] rfl (by kernel_rfl) (by kernel_rfl) rfl (by decide) (by decide) rfl (fun j u hj => by rw [add_none]; exact cellOf (H.blk 0 rfl) (by simpa using hj)) (List.all_eq_true.1 (by kernel_rfl)) (by unfold maxLen; omega) (by omega) (by kernel_rfl) rfl (by kernel_rfl) ?_
    clear H
    intro v9 g5 c5 hc5 H
    rw [show (((List.length xs) + 1) : Nat) = (List.length (xs ++ [(nx, t, k, i, f)])) from (by simp)] at H ⊢
    rw [show (List.flatMap recL xs) ++ [.int .i64 nx, .int .i64 t, .int .i64 k, .int .i64 i, .int .i64 f] = (List.flatMap recL (xs ++ [(nx, t, k, i, f)])) from (by rw [List.flatMap_append]; rfl)] at H
    replace H : Hs (fps [.row (.slice (some ⟨g, 0, none⟩) (List.length xs) cap) 46 5 (List.length xs) (List.flatMap recL xs)]) w0 v9 [.blk g4 #[.int .i64 nx, .int .i64 t, .int .i64 k, .int .i64 i, .int .i64 f] 46, .row (.slice (some ⟨g5, 0, none⟩) (List.length (xs ++ [(nx, t, k, i, f)])) c5) 46 5 (List.length (xs ++ [(nx, t, k, i, f)])) (List.flatMap recL (xs ++ [(nx, t, k, i, f)])), .blk g3 #[.slice none 0 0, .int .i64 0, .int .i64 0, .bool false] 41, .blk g2 #[.int .i64 nx, .int .i64 t, .int .i64 k, .int .i64 i, .int .i64 f] 46, .blk g1 #[.slice (some ⟨g, 0, none⟩) (List.length xs) cap, .int .i64 ((room : Nat) : Int), .int .i64 (nx + 1), .bool lo] 41, .row (.slice (some ⟨g, 0, none⟩) (List.length xs) cap) 46 5 (List.length xs) (List.flatMap recL xs)] := H
    replace H := H.pick [1, 2, 3, 4, 5] [.row (.slice (some ⟨g5, 0, none⟩) (List.length (xs ++ [(nx, t, k, i, f)])) c5) 46 5 (List.length (xs ++ [(nx, t, k, i, f)])) (List.flatMap recL (xs ++ [(nx, t, k, i, f)])), .blk g3 #[.slice none 0 0, .int .i64 0, .int .i64 0, .bool false] 41, .blk g2 #[.int .i64 nx, .int .i64 t, .int .i64 k, .int .i64 i, .int .i64 f] 46, .blk g1 #[.slice (some ⟨g, 0, none⟩) (List.length xs) cap, .int .i64 ((room : Nat) : Int), .int .i64 (nx + 1), .bool lo] 41, .row (.slice (some ⟨g, 0, none⟩) (List.length xs) cap) 46 5 (List.length xs) (List.flatMap recL xs)] (by decide) (by kernel_rfl)
    refine x_val (.pointer (some ⟨g1, 0, none⟩)) (by kernel_rfl) rfl (by kernel_rfl) ?_
    refine x_store (t := 39) (v := .slice (some ⟨g5, 0, none⟩) (List.length (xs ++ [(nx, t, k, i, f)])) c5) H 3 g1 0 #[.slice (some ⟨g, 0, none⟩) (List.length xs) cap, .int .i64 ((room : Nat) : Int), .int .i64 (nx + 1), .bool lo] #[.slice (some ⟨g5, 0, none⟩) (List.length (xs ++ [(nx, t, k, i, f)])) c5, .int .i64 ((room : Nat) : Int), .int .i64 (nx + 1), .bool lo] 41 [.slice (some ⟨g5, 0, none⟩) (List.length (xs ++ [(nx, t, k, i, f)])) c5] [.row (.slice (some ⟨g5, 0, none⟩) (List.length (xs ++ [(nx, t, k, i, f)])) c5) 46 5 (List.length (xs ++ [(nx, t, k, i, f)])) (List.flatMap recL (xs ++ [(nx, t, k, i, f)])), .blk g3 #[.slice none 0 0, .int .i64 0, .int .i64 0, .bool false] 41, .blk g2 #[.int .i64 nx, .int .i64 t, .int .i64 k, .int .i64 i, .int .i64 f] 46, .blk g1 #[.slice (some ⟨g5, 0, none⟩) (List.length (xs ++ [(nx, t, k, i, f)])) c5, .int .i64 ((room : Nat) : Int), .int .i64 (nx + 1), .bool lo] 41, .row (.slice (some ⟨g, 0, none⟩) (List.length xs) cap) 46 5 (List.length xs) (List.flatMap recL xs)] (by kernel_rfl) rfl (by kernel_rfl) (by kernel_rfl) (by kernel_rfl) (by kernel_rfl) (by kernel_rfl) (by kernel_rfl) (by kernel_rfl) (by kernel_rfl) ?_
    clear H
    intro v10 H
    refine x_nil ?_
    refine x_then ?_
    refine x_seq ?_
    refine x_region ?_
    refine x_loadn (t := 41) H 3 g1 0 #[.slice (some ⟨g5, 0, none⟩) (List.length (xs ++ [(nx, t, k, i, f)])) c5, .int .i64 ((room : Nat) : Int), .int .i64 (nx + 1), .bool lo] 41 [.slice (some ⟨g5, 0, none⟩) (List.length (xs ++ [(nx, t, k, i, f)])) c5, .int .i64 ((room : Nat) : Int), .int .i64 (nx + 1), .bool lo] (by kernel_rfl) (by kernel_rfl) (by kernel_rfl) rfl (by kernel_rfl) (by kernel_rfl) ?_
    refine x_store (t := 41) (v := .agg #[.slice (some ⟨g5, 0, none⟩) (List.length (xs ++ [(nx, t, k, i, f)])) c5, .int .i64 ((room : Nat) : Int), .int .i64 (nx + 1), .bool lo]) H 1 g3 0 #[.slice none 0 0, .int .i64 0, .int .i64 0, .bool false] #[.slice (some ⟨g5, 0, none⟩) (List.length (xs ++ [(nx, t, k, i, f)])) c5, .int .i64 ((room : Nat) : Int), .int .i64 (nx + 1), .bool lo] 41 [.slice (some ⟨g5, 0, none⟩) (List.length (xs ++ [(nx, t, k, i, f)])) c5, .int .i64 ((room : Nat) : Int), .int .i64 (nx + 1), .bool lo] [.row (.slice (some ⟨g5, 0, none⟩) (List.length (xs ++ [(nx, t, k, i, f)])) c5) 46 5 (List.length (xs ++ [(nx, t, k, i, f)])) (List.flatMap recL (xs ++ [(nx, t, k, i, f)])), .blk g3 #[.slice (some ⟨g5, 0, none⟩) (List.length (xs ++ [(nx, t, k, i, f)])) c5, .int .i64 ((room : Nat) : Int), .int .i64 (nx + 1), .bool lo] 41, .blk g2 #[.int .i64 nx, .int .i64 t, .int .i64 k, .int .i64 i, .int .i64 f] 46, .blk g1 #[.slice (some ⟨g5, 0, none⟩) (List.length (xs ++ [(nx, t, k, i, f)])) c5, .int .i64 ((room : Nat) : Int), .int .i64 (nx + 1), .bool lo] 41, .row (.slice (some ⟨g, 0, none⟩) (List.length xs) cap) 46 5 (List.length xs) (List.flatMap recL xs)] (by kernel_rfl) rfl (by kernel_rfl) (by kernel_rfl) (by kernel_rfl) (by kernel_rfl) (by kernel_rfl) (by kernel_rfl) (by kernel_rfl) (by kernel_rfl) ?_
    clear H
    intro v11 H
    refine x_val (.bool true) (by kernel_rfl) rfl (by kernel_rfl) ?_
    refine x_nil ?_
    refine x_then ?_
    refine x_retc ?_
    refine x_then_ret ?_
    refine x_ret (.tuple #[.agg #[.slice (some ⟨g5, 0, none⟩) (List.length (xs ++ [(nx, t, k, i, f)])) c5, .int .i64 ((room : Nat) : Int), .int .i64 (nx + 1), .bool lo], .bool true]) (by kernel_rfl) (x_rescell H 1 g3 0 #[.slice (some ⟨g5, 0, none⟩) (List.length (xs ++ [(nx, t, k, i, f)])) c5, .int .i64 ((room : Nat) : Int), .int .i64 (nx + 1), .bool lo] 41 [.slice (some ⟨g5, 0, none⟩) (List.length (xs ++ [(nx, t, k, i, f)])) c5, .int .i64 ((room : Nat) : Int), .int .i64 (nx + 1), .bool lo] (fun x => .tuple #[x, .bool true]) (by kernel_rfl) (by kernel_rfl) (by kernel_rfl)) ?_
    exact ⟨_, rfl, H.pick [0] _ (by decide) (by kernel_rfl)⟩
  · skip
    have h1p := of_decide_eq_true h1
    refine x_t (by kernel_rfl) ?_
    refine x_skipc ?_
    refine x_then ?_
    refine x_seq ?_
    refine x_block ?_
    refine x_seq ?_
    refine x_region ?_
    refine x_val (.pointer (some ⟨g1, 0, none⟩)) (by kernel_rfl) rfl (by kernel_rfl) ?_
    refine x_load1 H 2 g1 0 #[.slice (some ⟨g, 0, none⟩) (List.length xs) cap, .int .i64 ((room : Nat) : Int), .int .i64 (nx + 1), .bool lo] 41 (.slice (some ⟨g, 0, none⟩) (List.length xs) cap) (by kernel_rfl) (by kernel_rfl) (by kernel_rfl) rfl (by kernel_rfl) ?_
    refine x_val (.int .i64 (((j : Nat) : Int) - 1)) (by kernel_rfl) rfl (by kernel_rfl) ?_
    refine x_ixE (t := 39) (i := ((j : Nat) : Int) - 1) g 0 (j - 1) (List.length xs) cap (by omega) 46 5 ((j - 1) * 5) (by omega) (by omega) (by kernel_rfl) (by kernel_rfl) (by kernel_rfl) rfl (by kernel_rfl) ?_
    refine x_val (.pointer (some ⟨g, (j - 1) * 5 + 2, none⟩)) (by kernel_rfl) rfl (by kernel_rfl) ?_
    refine x_loadc g ((j - 1) * 5 + 2) (.int .i64 ((xs.getD (j - 1) (0, 0, 0, 0, 0)).2.2.1)) ((H.rowCells 3 rfl ((j - 1) * 5) (flatAt recLen (0, 0, 0, 0, 0) _ (by omega))) 2 _ rfl) (by kernel_rfl) rfl (by kernel_rfl) ?_
    refine x_val (.bool (!(decide (((xs.getD (j - 1) (0, 0, 0, 0, 0)).2.2.1) = 2)))) (by kernel_rfl) rfl (by kernel_rfl) ?_
    refine x_nil ?_
    refine x_then ?_
    cases h2 : decide (((xs.getD (j - 1) (0, 0, 0, 0, 0)).2.2.1) = 2)
    · skip
      have h2p := of_decide_eq_false h2
      refine x_t (by kernel_rfl) ?_
      refine x_region ?_
      refine x_val (.int .i64 (((j : Nat) : Int) - 1)) (by kernel_rfl) rfl (by kernel_rfl) ?_
      refine x_val (.int .i64 (((j : Nat) : Int) - 1)) (by kernel_rfl) rfl (by kernel_rfl) ?_
      refine x_nil ?_
      refine x_blk ?_
      refine x_then ?_
      refine x_region ?_
      refine x_val (.int .i64 (((j : Nat) : Int) - 1)) (by kernel_rfl) rfl (by kernel_rfl) ?_
      refine x_ar ((((j : Nat) : Int) - 1) - 1) ⟨by omega, by omega⟩ (by kernel_rfl) rfl (by kernel_rfl) ?_
      refine x_val (.int .i64 ((((j : Nat) : Int) - 1) - 1)) (by kernel_rfl) rfl (by kernel_rfl) ?_
      refine x_nil ?_
      refine x_then ?_
      have hj1 : ((j - 1 : Nat) : Int) = ((j : Nat) : Int) - 1 := by omega
      rw [← hj1]
      exact ⟨(j - 1, ((j - 1 : Nat) : Int)), (by dsimp only; omega), (nthV [.int .i64 ((j - 1 : Nat) : Int), .bool true, .int .i64 ((j - 1 : Nat) : Int), .int .i64 ((((j - 1 : Nat) : Int)) - 1), .pointer (some ⟨g1, 0, none⟩), .slice (some ⟨g, 0, none⟩) (List.length xs) cap, .int .i64 ((j - 1 : Nat) : Int), .pointer (some ⟨g, (j - 1) * 5, none⟩), .pointer (some ⟨g, (j - 1) * 5 + 2, none⟩), .int .i64 ((xs.getD (j - 1) (0, 0, 0, 0, 0)).2.2.1), .bool true, .int .i64 ((j - 1 : Nat) : Int)]), (by kernel_rfl), H, (by omega), (by rw [ltF_step xs (j - 1) (by omega), if_neg h2p])⟩
    · skip
      have h2p := of_decide_eq_true h2
      refine x_f (by kernel_rfl) ?_
      refine x_skipc ?_
      refine x_blk ?_
      refine x_then ?_
      refine x_region ?_
      refine x_val (.int .i64 (((j : Nat) : Int) - 1)) (by kernel_rfl) rfl (by kernel_rfl) ?_
      refine x_ar ((((j : Nat) : Int) - 1) - 1) ⟨by omega, by omega⟩ (by kernel_rfl) rfl (by kernel_rfl) ?_
      refine x_val (.int .i64 ((((j : Nat) : Int) - 1) - 1)) (by kernel_rfl) rfl (by kernel_rfl) ?_
      refine x_nil ?_
      refine x_then ?_
      have hj1 : ((j - 1 : Nat) : Int) = ((j : Nat) : Int) - 1 := by omega
      rw [← hj1]
      exact ⟨(j - 1, at0), (by dsimp only; omega), (nthV [.int .i64 ((j - 1 : Nat) : Int), .bool true, .int .i64 ((j - 1 : Nat) : Int), .int .i64 ((((j - 1 : Nat) : Int)) - 1), .pointer (some ⟨g1, 0, none⟩), .slice (some ⟨g, 0, none⟩) (List.length xs) cap, .int .i64 ((j - 1 : Nat) : Int), .pointer (some ⟨g, (j - 1) * 5, none⟩), .pointer (some ⟨g, (j - 1) * 5 + 2, none⟩), .int .i64 ((xs.getD (j - 1) (0, 0, 0, 0, 0)).2.2.1), .bool false, (uf1 11)]), (by kernel_rfl), H, (by omega), (by rw [ltF_step xs (j - 1) (by omega), if_pos h2p, show j - 1 + 1 = j by omega]; exact r2)⟩

set_option maxRecDepth 100000 in
set_option maxHeartbeats 2000000 in
theorem Ref_keep {g cap : Nat} {xs : List Rec} {room : Nat} {nx : Int} {lo : Bool} (s t k i f : Int) (hn : xs.length = room) (hr : room ≤ 4096) (hx : -1000 ≤ nx ∧ nx ≤ 9223372036854770000) (hk : k = 2 → ¬ lq xs < xs.length) (w0 : World) (H0 : Hs (fps [.row (.slice (some ⟨g, 0, none⟩) (List.length xs) cap) 46 5 (List.length xs) (List.flatMap recL xs)]) w0 w0 [.row (.slice (some ⟨g, 0, none⟩) (List.length xs) cap) 46 5 (List.length xs) (List.flatMap recL xs)]) :
    Calls Try.prog 19 #[.agg #[.slice (some ⟨g, 0, none⟩) (List.length xs) cap, .int .i64 ((room : Nat) : Int), .int .i64 nx, .bool lo], .agg #[.int .i64 s, .int .i64 t, .int .i64 k, .int .i64 i, .int .i64 f]] w0 fun e w' => ∃ xv', e = .returned (.tuple #[.agg #[xv', .int .i64 ((room : Nat) : Int), .int .i64 (nx + 1), .bool true], .bool false]) ∧ Hs (fps [.row (.slice (some ⟨g, 0, none⟩) (List.length xs) cap) 46 5 (List.length xs) (List.flatMap recL xs)]) w0 w' [.row (xv') 46 5 (List.length xs) (List.flatMap recL xs)] := by
  refine x_enter Try.func19 rfl #[.agg #[.slice (some ⟨g, 0, none⟩) (List.length xs) cap, .int .i64 ((room : Nat) : Int), .int .i64 nx, .bool lo], .agg #[.int .i64 s, .int .i64 t, .int .i64 k, .int .i64 i, .int .i64 f], undef, undef, undef, undef, undef, undef, undef, undef, undef, undef, undef, undef, undef, undef, undef, undef, undef, undef, undef, undef, undef, undef, undef, undef, undef, undef, undef, undef, undef, undef, undef, undef, undef, undef, undef, undef, undef, undef, undef, undef, undef, undef, undef, undef, undef, undef, undef, undef, undef, undef, undef, undef, undef, undef, undef, undef, undef, undef, undef, undef, undef, undef, undef, undef, undef, undef, undef, undef, undef, undef, undef, undef, undef, undef] (by kernel_rfl) ?_
  have H := H0
  have q1 : decide ((((List.length xs) : Nat) : Int) < ((room : Nat) : Int)) = false := by simp; omega
  have hcap : xs.length ≤ cap := by rcases H0.rowForm 0 rfl with ⟨h, _⟩ | ⟨g', c', h, h2, _⟩ <;> simp at h <;> omega
  refine x_seq ?_
  refine x_region ?_
  refine x_box H #[.slice (some ⟨g, 0, none⟩) (List.length xs) cap, .int .i64 ((room : Nat) : Int), .int .i64 nx, .bool lo] 41 (by kernel_rfl) rfl (by kernel_rfl) ?_
  clear H
  intro v1 g1 H
  refine x_box H #[.int .i64 s, .int .i64 t, .int .i64 k, .int .i64 i, .int .i64 f] 46 (by kernel_rfl) rfl (by kernel_rfl) ?_
  clear H
  intro v2 g2 H
  refine x_box H #[.slice none 0 0, .int .i64 0, .int .i64 0, .bool false] 41 (by kernel_rfl) rfl (by kernel_rfl) ?_
  clear H
  intro v3 g3 H
  refine x_val (.bool false) (by kernel_rfl) rfl (by kernel_rfl) ?_
  refine x_nil ?_
  refine x_then ?_
  refine x_seq ?_
  refine x_region ?_
  refine x_val (.pointer (some ⟨g1, 2, none⟩)) (by kernel_rfl) rfl (by kernel_rfl) ?_
  refine x_load1 H 2 g1 2 #[.slice (some ⟨g, 0, none⟩) (List.length xs) cap, .int .i64 ((room : Nat) : Int), .int .i64 nx, .bool lo] 41 (.int .i64 nx) (by kernel_rfl) (by kernel_rfl) (by kernel_rfl) rfl (by kernel_rfl) ?_
  refine x_val (.pointer (some ⟨g2, 0, none⟩)) (by kernel_rfl) rfl (by kernel_rfl) ?_
  refine x_store (t := 3) (v := .int .i64 nx) H 1 g2 0 #[.int .i64 s, .int .i64 t, .int .i64 k, .int .i64 i, .int .i64 f] #[.int .i64 nx, .int .i64 t, .int .i64 k, .int .i64 i, .int .i64 f] 46 [.int .i64 nx] [.blk g3 #[.slice none 0 0, .int .i64 0, .int .i64 0, .bool false] 41, .blk g2 #[.int .i64 nx, .int .i64 t, .int .i64 k, .int .i64 i, .int .i64 f] 46, .blk g1 #[.slice (some ⟨g, 0, none⟩) (List.length xs) cap, .int .i64 ((room : Nat) : Int), .int .i64 nx, .bool lo] 41, .row (.slice (some ⟨g, 0, none⟩) (List.length xs) cap) 46 5 (List.length xs) (List.flatMap recL xs)] (by kernel_rfl) rfl (by kernel_rfl) (by kernel_rfl) (by kernel_rfl) (by kernel_rfl) (by kernel_rfl) (by kernel_rfl) (by kernel_rfl) (by kernel_rfl) ?_
  clear H
  intro v4 H
  refine x_nil ?_
  refine x_then ?_
  refine x_seq ?_
  refine x_region ?_
  refine x_val (.pointer (some ⟨g1, 2, none⟩)) (by kernel_rfl) rfl (by kernel_rfl) ?_
  refine x_load1 H 2 g1 2 #[.slice (some ⟨g, 0, none⟩) (List.length xs) cap, .int .i64 ((room : Nat) : Int), .int .i64 nx, .bool lo] 41 (.int .i64 nx) (by kernel_rfl) (by kernel_rfl) (by kernel_rfl) rfl (by kernel_rfl) ?_
  refine x_ar (nx + 1) ⟨by omega, by omega⟩ (by kernel_rfl) rfl (by kernel_rfl) ?_
  refine x_val (.pointer (some ⟨g1, 2, none⟩)) (by kernel_rfl) rfl (by kernel_rfl) ?_
  refine x_store (t := 3) (v := .int .i64 (nx + 1)) H 2 g1 2 #[.slice (some ⟨g, 0, none⟩) (List.length xs) cap, .int .i64 ((room : Nat) : Int), .int .i64 nx, .bool lo] #[.slice (some ⟨g, 0, none⟩) (List.length xs) cap, .int .i64 ((room : Nat) : Int), .int .i64 (nx + 1), .bool lo] 41 [.int .i64 (nx + 1)] [.blk g3 #[.slice none 0 0, .int .i64 0, .int .i64 0, .bool false] 41, .blk g2 #[.int .i64 nx, .int .i64 t, .int .i64 k, .int .i64 i, .int .i64 f] 46, .blk g1 #[.slice (some ⟨g, 0, none⟩) (List.length xs) cap, .int .i64 ((room : Nat) : Int), .int .i64 (nx + 1), .bool lo] 41, .row (.slice (some ⟨g, 0, none⟩) (List.length xs) cap) 46 5 (List.length xs) (List.flatMap recL xs)] (by kernel_rfl) rfl (by kernel_rfl) (by kernel_rfl) (by kernel_rfl) (by kernel_rfl) (by kernel_rfl) (by kernel_rfl) (by kernel_rfl) (by kernel_rfl) ?_
  clear H
  intro v5 H
  refine x_nil ?_
  refine x_then ?_
  refine x_seq ?_
  refine x_region ?_
  refine x_val (.int .i64 (-1)) (by kernel_rfl) rfl (by kernel_rfl) ?_
  refine x_nil ?_
  refine x_then ?_
  refine x_seq ?_
  refine x_seq ?_
  refine x_region ?_
  refine x_val (.pointer (some ⟨g1, 0, none⟩)) (by kernel_rfl) rfl (by kernel_rfl) ?_
  refine x_load1 H 2 g1 0 #[.slice (some ⟨g, 0, none⟩) (List.length xs) cap, .int .i64 ((room : Nat) : Int), .int .i64 (nx + 1), .bool lo] 41 (.slice (some ⟨g, 0, none⟩) (List.length xs) cap) (by kernel_rfl) (by kernel_rfl) (by kernel_rfl) rfl (by kernel_rfl) ?_
  refine x_val (.int .i64 (((List.length xs) : Nat) : Int)) (by kernel_rfl) rfl (by kernel_rfl) ?_
  refine x_ar ((((List.length xs) : Nat) : Int) - 1) ⟨by omega, by omega⟩ (by kernel_rfl) rfl (by kernel_rfl) ?_
  refine x_val (.int .i64 ((((List.length xs) : Nat) : Int) - 1)) (by kernel_rfl) rfl (by kernel_rfl) ?_
  refine x_nil ?_
  refine x_then ?_
  refine x_block ?_
  refine x_loop (G := Nat × Int) (fun gh a w' => match gh with | (j, at0) => ∃ uf1 : Nat → Value, a = { tmps := #[.agg #[.slice (some ⟨g, 0, none⟩) (List.length xs) cap, .int .i64 ((room : Nat) : Int), .int .i64 nx, .bool lo], .agg #[.int .i64 s, .int .i64 t, .int .i64 k, .int .i64 i, .int .i64 f], .pointer (some ⟨g1, 0, none⟩), .pointer (some ⟨g2, 0, none⟩), .pointer (some ⟨g3, 0, none⟩), .bool false, .int .i64 at0, .int .i64 (((j : Nat) : Int) - 1), undef, .pointer (some ⟨g1, 2, none⟩), .int .i64 nx, .pointer (some ⟨g2, 0, none⟩), .pointer (some ⟨g1, 2, none⟩), .int .i64 nx, .int .i64 (nx + 1), .pointer (some ⟨g1, 2, none⟩), .pointer (some ⟨g1, 0, none⟩), .slice (some ⟨g, 0, none⟩) (List.length xs) cap, .int .i64 (((List.length xs) : Nat) : Int), .int .i64 ((((List.length xs) : Nat) : Int) - 1), (uf1 0), (uf1 1), (uf1 2), (uf1 3), (uf1 4), (uf1 5), (uf1 6), (uf1 7), (uf1 8), (uf1 9), (uf1 10), (uf1 11), undef, undef, undef, undef, undef, undef, undef, undef, undef, undef, undef, undef, undef, undef, undef, undef, undef, undef, undef, undef, undef, undef, undef, undef, undef, undef, undef, undef, undef, undef, undef, undef, undef, undef, undef, undef, undef, undef, undef, undef, undef, undef, undef, undef], defers := [] } ∧ Hs (fps [.row (.slice (some ⟨g, 0, none⟩) (List.length xs) cap) 46 5 (List.length xs) (List.flatMap recL xs)]) w0 w' [.blk g3 #[.slice none 0 0, .int .i64 0, .int .i64 0, .bool false] 41, .blk g2 #[.int .i64 nx, .int .i64 t, .int .i64 k, .int .i64 i, .int .i64 f] 46, .blk g1 #[.slice (some ⟨g, 0, none⟩) (List.length xs) cap, .int .i64 ((room : Nat) : Int), .int .i64 (nx + 1), .bool lo] 41, .row (.slice (some ⟨g, 0, none⟩) (List.length xs) cap) 46 5 (List.length xs) (List.flatMap recL xs)] ∧ (j ≤ xs.length) ∧ (at0 = ltF xs j)) (fun gh => match gh with | (j, at0) => j) ((List.length xs), (-1)) ⟨(nthV [undef, undef, undef, undef, undef, undef, undef, undef, undef, undef, undef, undef]), (by kernel_rfl), H, (Nat.le_refl _), (ltF_end xs).symm⟩ ?_
  clear H
  rintro ⟨j, at0⟩ _ v6 ⟨uf1, rfl, H, r1, r2⟩
  refine x_seq ?_
  refine x_seq ?_
  refine x_region ?_
  refine x_val (.int .i64 (((j : Nat) : Int) - 1)) (by kernel_rfl) rfl (by kernel_rfl) ?_
  refine x_val (.bool (decide (0 ≤ (((j : Nat) : Int) - 1)))) (by kernel_rfl) rfl (by kernel_rfl) ?_
  refine x_nil ?_
  refine x_then ?_
  cases h1 : decide (0 ≤ (((j : Nat) : Int) - 1))
  · skip
    have h1p := of_decide_eq_false h1
    have hj0 : j = 0 := by omega
    rw [hj0, ltF_zero] at r2
    refine x_f (by kernel_rfl) ?_
    refine x_exit ?_
    refine x_then_exit ?_
    refine x_then_exit ?_
    refine x_blk_exit ?_
    refine x_then ?_
    refine x_seq ?_
    refine x_region ?_
    refine x_val (.slice none 0 0) (by kernel_rfl) rfl (by kernel_rfl) ?_
    refine x_nil ?_
    refine x_then ?_
    refine x_seq ?_
    refine x_seq ?_
    refine x_region ?_
    refine x_val (.pointer (some ⟨g1, 0, none⟩)) (by kernel_rfl) rfl (by kernel_rfl) ?_
    refine x_load1 H 2 g1 0 #[.slice (some ⟨g, 0, none⟩) (List.length xs) cap, .int .i64 ((room : Nat) : Int), .int .i64 (nx + 1), .bool lo] 41 (.slice (some ⟨g, 0, none⟩) (List.length xs) cap) (by kernel_rfl) (by kernel_rfl) (by kernel_rfl) rfl (by kernel_rfl) ?_
    refine x_val (.int .i64 (((List.length xs) : Nat) : Int)) (by kernel_rfl) rfl (by kernel_rfl) ?_
    refine x_val (.pointer (some ⟨g1, 1, none⟩)) (by kernel_rfl) rfl (by kernel_rfl) ?_
    refine x_load1 H 2 g1 1 #[.slice (some ⟨g, 0, none⟩) (List.length xs) cap, .int .i64 ((room : Nat) : Int), .int .i64 (nx + 1), .bool lo] 41 (.int .i64 ((room : Nat) : Int)) (by kernel_rfl) (by kernel_rfl) (by kernel_rfl) rfl (by kernel_rfl) ?_
    refine x_val (.bool (decide ((((List.length xs) : Nat) : Int) < ((room : Nat) : Int)))) (by kernel_rfl) rfl (by kernel_rfl) ?_
    refine x_nil ?_
    refine x_then ?_
    rw [q1]
    refine x_f (by kernel_rfl) ?_
    refine x_skipc ?_
    refine x_then ?_
    refine x_seq ?_
    refine x_region ?_
    refine x_val (.pointer (some ⟨g1, 3, none⟩)) (by kernel_rfl) rfl (by kernel_rfl) ?_
    refine x_store (t := 4) (v := .bool true) H 2 g1 3 #[.slice (some ⟨g, 0, none⟩) (List.length xs) cap, .int .i64 ((room : Nat) : Int), .int .i64 (nx + 1), .bool lo] #[.slice (some ⟨g, 0, none⟩) (List.length xs) cap, .int .i64 ((room : Nat) : Int), .int .i64 (nx + 1), .bool true] 41 [.bool true] [.blk g3 #[.slice none 0 0, .int .i64 0, .int .i64 0, .bool false] 41, .blk g2 #[.int .i64 nx, .int .i64 t, .int .i64 k, .int .i64 i, .int .i64 f] 46, .blk g1 #[.slice (some ⟨g, 0, none⟩) (List.length xs) cap, .int .i64 ((room : Nat) : Int), .int .i64 (nx + 1), .bool true] 41, .row (.slice (some ⟨g, 0, none⟩) (List.length xs) cap) 46 5 (List.length xs) (List.flatMap recL xs)] (by kernel_rfl) rfl (by kernel_rfl) (by kernel_rfl) (by kernel_rfl) (by kernel_rfl) (by kernel_rfl) (by kernel_rfl) (by kernel_rfl) (by kernel_rfl) ?_
    clear H
    intro v7 H
    refine x_nil ?_
    refine x_then ?_
    refine x_seq ?_
    refine x_seq ?_
    refine x_region ?_
    refine x_val (.pointer (some ⟨g2, 2, none⟩)) (by kernel_rfl) rfl (by kernel_rfl) ?_
    refine x_load1 H 1 g2 2 #[.int .i64 nx, .int .i64 t, .int .i64 k, .int .i64 i, .int .i64 f] 46 (.int .i64 k) (by kernel_rfl) (by kernel_rfl) (by kernel_rfl) rfl (by kernel_rfl) ?_
    refine x_val (.bool (!(decide (k = 2)))) (by kernel_rfl) rfl (by kernel_rfl) ?_
    refine x_val (.bool (!(decide (k = 2)))) (by kernel_rfl) rfl (by kernel_rfl) ?_
    cases h2 : decide (k = 2)
    · skip
      have h2p := of_decide_eq_false h2
      refine x_skip (by kernel_rfl) ?_
      refine x_skip (by kernel_rfl) ?_
      refine x_val (.bool true) (by kernel_rfl) rfl (by kernel_rfl) ?_
      refine x_nil ?_
      refine x_then ?_
      refine x_t (by kernel_rfl) ?_
      refine x_seq ?_
      refine x_region ?_
      refine x_loadn (t := 41) H 2 g1 0 #[.slice (some ⟨g, 0, none⟩) (List.length xs) cap, .int .i64 ((room : Nat) : Int), .int .i64 (nx + 1), .bool true] 41 [.slice (some ⟨g, 0, none⟩) (List.length xs) cap, .int .i64 ((room : Nat) : Int), .int .i64 (nx + 1), .bool true] (by kernel_rfl) (by kernel_rfl) (by kernel_rfl) rfl (by kernel_rfl) (by kernel_rfl) ?_
      refine x_store (t := 41) (v := .agg #[.slice (some ⟨g, 0, none⟩) (List.length xs) cap, .int .i64 ((room : Nat) : Int), .int .i64 (nx + 1), .bool true]) H 0 g3 0 #[.slice none 0 0, .int .i64 0, .int .i64 0, .bool false] #[.slice (some ⟨g, 0, none⟩) (List.length xs) cap, .int .i64 ((room : Nat) : Int), .int .i64 (nx + 1), .bool true] 41 [.slice (some ⟨g, 0, none⟩) (List.length xs) cap, .int .i64 ((room : Nat) : Int), .int .i64 (nx + 1), .bool true] [.blk g3 #[.slice (some ⟨g, 0, none⟩) (List.length xs) cap, .int .i64 ((room : Nat) : Int), .int .i64 (nx + 1), .bool true] 41, .blk g2 #[.int .i64 nx, .int .i64 t, .int .i64 k, .int .i64 i, .int .i64 f] 46, .blk g1 #[.slice (some ⟨g, 0, none⟩) (List.length xs) cap, .int .i64 ((room : Nat) : Int), .int .i64 (nx + 1), .bool true] 41, .row (.slice (some ⟨g, 0, none⟩) (List.length xs) cap) 46 5 (List.length xs) (List.flatMap recL xs)] (by kernel_rfl) rfl (by kernel_rfl) (by kernel_rfl) (by kernel_rfl) (by kernel_rfl) (by kernel_rfl) (by kernel_rfl) (by kernel_rfl) (by kernel_rfl) ?_
      clear H
      intro v8 H
      refine x_val (.bool false) (by kernel_rfl) rfl (by kernel_rfl) ?_
      refine x_nil ?_
      refine x_then ?_
      refine x_retc ?_
      refine x_then_ret ?_
      refine x_ret (.tuple #[.agg #[.slice (some ⟨g, 0, none⟩) (List.length xs) cap, .int .i64 ((room : Nat) : Int), .int .i64 (nx + 1), .bool true], .bool false]) (by kernel_rfl) (x_rescell H 0 g3 0 #[.slice (some ⟨g, 0, none⟩) (List.length xs) cap, .int .i64 ((room : Nat) : Int), .int .i64 (nx + 1), .bool true] 41 [.slice (some ⟨g, 0, none⟩) (List.length xs) cap, .int .i64 ((room : Nat) : Int), .int .i64 (nx + 1), .bool true] (fun x => .tuple #[x, .bool false]) (by kernel_rfl) (by kernel_rfl) (by kernel_rfl)) ?_
      exact ⟨_, rfl, H.pick [3] _ (by decide) (by kernel_rfl)⟩
    · skip
      have h2p := of_decide_eq_true h2
      refine x_val (.int .i64 at0) (by kernel_rfl) rfl (by kernel_rfl) ?_
      refine x_val (.bool (decide (at0 < 0))) (by kernel_rfl) rfl (by kernel_rfl) ?_
      refine x_val (.bool (decide (at0 < 0))) (by kernel_rfl) rfl (by kernel_rfl) ?_
      refine x_nil ?_
      refine x_then ?_
      cases h3 : decide (at0 < 0)
      · skip
        have h3p := of_decide_eq_false h3
        exact absurd (show at0 < 0 by rw [r2]; unfold lightI; rw [if_neg (hk (of_decide_eq_true h2))]; decide) (of_decide_eq_false h3)
      · skip
        have h3p := of_decide_eq_true h3
        refine x_t (by kernel_rfl) ?_
        refine x_seq ?_
        refine x_region ?_
        refine x_loadn (t := 41) H 2 g1 0 #[.slice (some ⟨g, 0, none⟩) (List.length xs) cap, .int .i64 ((room : Nat) : Int), .int .i64 (nx + 1), .bool true] 41 [.slice (some ⟨g, 0, none⟩) (List.length xs) cap, .int .i64 ((room : Nat) : Int), .int .i64 (nx + 1), .bool true] (by kernel_rfl) (by kernel_rfl) (by kernel_rfl) rfl (by kernel_rfl) (by kernel_rfl) ?_
        refine x_store (t := 41) (v := .agg #[.slice (some ⟨g, 0, none⟩) (List.length xs) cap, .int .i64 ((room : Nat) : Int), .int .i64 (nx + 1), .bool true]) H 0 g3 0 #[.slice none 0 0, .int .i64 0, .int .i64 0, .bool false] #[.slice (some ⟨g, 0, none⟩) (List.length xs) cap, .int .i64 ((room : Nat) : Int), .int .i64 (nx + 1), .bool true] 41 [.slice (some ⟨g, 0, none⟩) (List.length xs) cap, .int .i64 ((room : Nat) : Int), .int .i64 (nx + 1), .bool true] [.blk g3 #[.slice (some ⟨g, 0, none⟩) (List.length xs) cap, .int .i64 ((room : Nat) : Int), .int .i64 (nx + 1), .bool true] 41, .blk g2 #[.int .i64 nx, .int .i64 t, .int .i64 k, .int .i64 i, .int .i64 f] 46, .blk g1 #[.slice (some ⟨g, 0, none⟩) (List.length xs) cap, .int .i64 ((room : Nat) : Int), .int .i64 (nx + 1), .bool true] 41, .row (.slice (some ⟨g, 0, none⟩) (List.length xs) cap) 46 5 (List.length xs) (List.flatMap recL xs)] (by kernel_rfl) rfl (by kernel_rfl) (by kernel_rfl) (by kernel_rfl) (by kernel_rfl) (by kernel_rfl) (by kernel_rfl) (by kernel_rfl) (by kernel_rfl) ?_
        clear H
        intro v9 H
        refine x_val (.bool false) (by kernel_rfl) rfl (by kernel_rfl) ?_
        refine x_nil ?_
        refine x_then ?_
        refine x_retc ?_
        refine x_then_ret ?_
        refine x_ret (.tuple #[.agg #[.slice (some ⟨g, 0, none⟩) (List.length xs) cap, .int .i64 ((room : Nat) : Int), .int .i64 (nx + 1), .bool true], .bool false]) (by kernel_rfl) (x_rescell H 0 g3 0 #[.slice (some ⟨g, 0, none⟩) (List.length xs) cap, .int .i64 ((room : Nat) : Int), .int .i64 (nx + 1), .bool true] 41 [.slice (some ⟨g, 0, none⟩) (List.length xs) cap, .int .i64 ((room : Nat) : Int), .int .i64 (nx + 1), .bool true] (fun x => .tuple #[x, .bool false]) (by kernel_rfl) (by kernel_rfl) (by kernel_rfl)) ?_
        exact ⟨_, rfl, H.pick [3] _ (by decide) (by kernel_rfl)⟩
  · skip
    have h1p := of_decide_eq_true h1
    refine x_t (by kernel_rfl) ?_
    refine x_skipc ?_
    refine x_then ?_
    refine x_seq ?_
    refine x_block ?_
    refine x_seq ?_
    refine x_region ?_
    refine x_val (.pointer (some ⟨g1, 0, none⟩)) (by kernel_rfl) rfl (by kernel_rfl) ?_
    refine x_load1 H 2 g1 0 #[.slice (some ⟨g, 0, none⟩) (List.length xs) cap, .int .i64 ((room : Nat) : Int), .int .i64 (nx + 1), .bool lo] 41 (.slice (some ⟨g, 0, none⟩) (List.length xs) cap) (by kernel_rfl) (by kernel_rfl) (by kernel_rfl) rfl (by kernel_rfl) ?_
    refine x_val (.int .i64 (((j : Nat) : Int) - 1)) (by kernel_rfl) rfl (by kernel_rfl) ?_
    refine x_ixE (t := 39) (i := ((j : Nat) : Int) - 1) g 0 (j - 1) (List.length xs) cap (by omega) 46 5 ((j - 1) * 5) (by omega) (by omega) (by kernel_rfl) (by kernel_rfl) (by kernel_rfl) rfl (by kernel_rfl) ?_
    refine x_val (.pointer (some ⟨g, (j - 1) * 5 + 2, none⟩)) (by kernel_rfl) rfl (by kernel_rfl) ?_
    refine x_loadc g ((j - 1) * 5 + 2) (.int .i64 ((xs.getD (j - 1) (0, 0, 0, 0, 0)).2.2.1)) ((H.rowCells 3 rfl ((j - 1) * 5) (flatAt recLen (0, 0, 0, 0, 0) _ (by omega))) 2 _ rfl) (by kernel_rfl) rfl (by kernel_rfl) ?_
    refine x_val (.bool (!(decide (((xs.getD (j - 1) (0, 0, 0, 0, 0)).2.2.1) = 2)))) (by kernel_rfl) rfl (by kernel_rfl) ?_
    refine x_nil ?_
    refine x_then ?_
    cases h4 : decide (((xs.getD (j - 1) (0, 0, 0, 0, 0)).2.2.1) = 2)
    · skip
      have h4p := of_decide_eq_false h4
      refine x_t (by kernel_rfl) ?_
      refine x_region ?_
      refine x_val (.int .i64 (((j : Nat) : Int) - 1)) (by kernel_rfl) rfl (by kernel_rfl) ?_
      refine x_val (.int .i64 (((j : Nat) : Int) - 1)) (by kernel_rfl) rfl (by kernel_rfl) ?_
      refine x_nil ?_
      refine x_blk ?_
      refine x_then ?_
      refine x_region ?_
      refine x_val (.int .i64 (((j : Nat) : Int) - 1)) (by kernel_rfl) rfl (by kernel_rfl) ?_
      refine x_ar ((((j : Nat) : Int) - 1) - 1) ⟨by omega, by omega⟩ (by kernel_rfl) rfl (by kernel_rfl) ?_
      refine x_val (.int .i64 ((((j : Nat) : Int) - 1) - 1)) (by kernel_rfl) rfl (by kernel_rfl) ?_
      refine x_nil ?_
      refine x_then ?_
      have hj1 : ((j - 1 : Nat) : Int) = ((j : Nat) : Int) - 1 := by omega
      rw [← hj1]
      exact ⟨(j - 1, ((j - 1 : Nat) : Int)), (by dsimp only; omega), (nthV [.int .i64 ((j - 1 : Nat) : Int), .bool true, .int .i64 ((j - 1 : Nat) : Int), .int .i64 ((((j - 1 : Nat) : Int)) - 1), .pointer (some ⟨g1, 0, none⟩), .slice (some ⟨g, 0, none⟩) (List.length xs) cap, .int .i64 ((j - 1 : Nat) : Int), .pointer (some ⟨g, (j - 1) * 5, none⟩), .pointer (some ⟨g, (j - 1) * 5 + 2, none⟩), .int .i64 ((xs.getD (j - 1) (0, 0, 0, 0, 0)).2.2.1), .bool true, .int .i64 ((j - 1 : Nat) : Int)]), (by kernel_rfl), H, (by omega), (by rw [ltF_step xs (j - 1) (by omega), if_neg h4p])⟩
    · skip
      have h4p := of_decide_eq_true h4
      refine x_f (by kernel_rfl) ?_
      refine x_skipc ?_
      refine x_blk ?_
      refine x_then ?_
      refine x_region ?_
      refine x_val (.int .i64 (((j : Nat) : Int) - 1)) (by kernel_rfl) rfl (by kernel_rfl) ?_
      refine x_ar ((((j : Nat) : Int) - 1) - 1) ⟨by omega, by omega⟩ (by kernel_rfl) rfl (by kernel_rfl) ?_
      refine x_val (.int .i64 ((((j : Nat) : Int) - 1) - 1)) (by kernel_rfl) rfl (by kernel_rfl) ?_
      refine x_nil ?_
      refine x_then ?_
      have hj1 : ((j - 1 : Nat) : Int) = ((j : Nat) : Int) - 1 := by omega
      rw [← hj1]
      exact ⟨(j - 1, at0), (by dsimp only; omega), (nthV [.int .i64 ((j - 1 : Nat) : Int), .bool true, .int .i64 ((j - 1 : Nat) : Int), .int .i64 ((((j - 1 : Nat) : Int)) - 1), .pointer (some ⟨g1, 0, none⟩), .slice (some ⟨g, 0, none⟩) (List.length xs) cap, .int .i64 ((j - 1 : Nat) : Int), .pointer (some ⟨g, (j - 1) * 5, none⟩), .pointer (some ⟨g, (j - 1) * 5 + 2, none⟩), .int .i64 ((xs.getD (j - 1) (0, 0, 0, 0, 0)).2.2.1), .bool false, (uf1 11)]), (by kernel_rfl), H, (by omega), (by rw [ltF_step xs (j - 1) (by omega), if_pos h4p, show j - 1 + 1 = j by omega]; exact r2)⟩

set_option maxRecDepth 100000 in
set_option maxHeartbeats 2000000 in
theorem Ref_push {g cap : Nat} {xs : List Rec} {room : Nat} {nx : Int} {lo : Bool} (s t k i f : Int) (hn : xs.length = room) (hr : room ≤ 4096) (hx : -1000 ≤ nx ∧ nx ≤ 9223372036854770000) (hk : k = 2) (hq : lq xs < xs.length) (w0 : World) (H0 : Hs (fps [.row (.slice (some ⟨g, 0, none⟩) (List.length xs) cap) 46 5 (List.length xs) (List.flatMap recL xs)]) w0 w0 [.row (.slice (some ⟨g, 0, none⟩) (List.length xs) cap) 46 5 (List.length xs) (List.flatMap recL xs)]) :
    Calls Try.prog 19 #[.agg #[.slice (some ⟨g, 0, none⟩) (List.length xs) cap, .int .i64 ((room : Nat) : Int), .int .i64 nx, .bool lo], .agg #[.int .i64 s, .int .i64 t, .int .i64 k, .int .i64 i, .int .i64 f]] w0 fun e w' => ∃ xv', e = .returned (.tuple #[.agg #[xv', .int .i64 ((room : Nat) : Int), .int .i64 (nx + 1), .bool true], .bool true]) ∧ Hs (fps [.row (.slice (some ⟨g, 0, none⟩) (List.length xs) cap) 46 5 (List.length xs) (List.flatMap recL xs)]) w0 w' [.row (xv') 46 5 (List.length ((xs.eraseIdx (lq xs)) ++ [(nx, t, k, i, f)])) (List.flatMap recL ((xs.eraseIdx (lq xs)) ++ [(nx, t, k, i, f)]))] := by
  refine x_enter Try.func19 rfl #[.agg #[.slice (some ⟨g, 0, none⟩) (List.length xs) cap, .int .i64 ((room : Nat) : Int), .int .i64 nx, .bool lo], .agg #[.int .i64 s, .int .i64 t, .int .i64 k, .int .i64 i, .int .i64 f], undef, undef, undef, undef, undef, undef, undef, undef, undef, undef, undef, undef, undef, undef, undef, undef, undef, undef, undef, undef, undef, undef, undef, undef, undef, undef, undef, undef, undef, undef, undef, undef, undef, undef, undef, undef, undef, undef, undef, undef, undef, undef, undef, undef, undef, undef, undef, undef, undef, undef, undef, undef, undef, undef, undef, undef, undef, undef, undef, undef, undef, undef, undef, undef, undef, undef, undef, undef, undef, undef, undef, undef, undef, undef] (by kernel_rfl) ?_
  have H := H0
  have q1 : decide ((((List.length xs) : Nat) : Int) < ((room : Nat) : Int)) = false := by simp; omega
  have hcap : xs.length ≤ cap := by rcases H0.rowForm 0 rfl with ⟨h, _⟩ | ⟨g', c', h, h2, _⟩ <;> simp at h <;> omega
  have q2 : decide (k = 2) = true := decide_eq_true hk
  refine x_seq ?_
  refine x_region ?_
  refine x_box H #[.slice (some ⟨g, 0, none⟩) (List.length xs) cap, .int .i64 ((room : Nat) : Int), .int .i64 nx, .bool lo] 41 (by kernel_rfl) rfl (by kernel_rfl) ?_
  clear H
  intro v1 g1 H
  refine x_box H #[.int .i64 s, .int .i64 t, .int .i64 k, .int .i64 i, .int .i64 f] 46 (by kernel_rfl) rfl (by kernel_rfl) ?_
  clear H
  intro v2 g2 H
  refine x_box H #[.slice none 0 0, .int .i64 0, .int .i64 0, .bool false] 41 (by kernel_rfl) rfl (by kernel_rfl) ?_
  clear H
  intro v3 g3 H
  refine x_val (.bool false) (by kernel_rfl) rfl (by kernel_rfl) ?_
  refine x_nil ?_
  refine x_then ?_
  refine x_seq ?_
  refine x_region ?_
  refine x_val (.pointer (some ⟨g1, 2, none⟩)) (by kernel_rfl) rfl (by kernel_rfl) ?_
  refine x_load1 H 2 g1 2 #[.slice (some ⟨g, 0, none⟩) (List.length xs) cap, .int .i64 ((room : Nat) : Int), .int .i64 nx, .bool lo] 41 (.int .i64 nx) (by kernel_rfl) (by kernel_rfl) (by kernel_rfl) rfl (by kernel_rfl) ?_
  refine x_val (.pointer (some ⟨g2, 0, none⟩)) (by kernel_rfl) rfl (by kernel_rfl) ?_
  refine x_store (t := 3) (v := .int .i64 nx) H 1 g2 0 #[.int .i64 s, .int .i64 t, .int .i64 k, .int .i64 i, .int .i64 f] #[.int .i64 nx, .int .i64 t, .int .i64 k, .int .i64 i, .int .i64 f] 46 [.int .i64 nx] [.blk g3 #[.slice none 0 0, .int .i64 0, .int .i64 0, .bool false] 41, .blk g2 #[.int .i64 nx, .int .i64 t, .int .i64 k, .int .i64 i, .int .i64 f] 46, .blk g1 #[.slice (some ⟨g, 0, none⟩) (List.length xs) cap, .int .i64 ((room : Nat) : Int), .int .i64 nx, .bool lo] 41, .row (.slice (some ⟨g, 0, none⟩) (List.length xs) cap) 46 5 (List.length xs) (List.flatMap recL xs)] (by kernel_rfl) rfl (by kernel_rfl) (by kernel_rfl) (by kernel_rfl) (by kernel_rfl) (by kernel_rfl) (by kernel_rfl) (by kernel_rfl) (by kernel_rfl) ?_
  clear H
  intro v4 H
  refine x_nil ?_
  refine x_then ?_
  refine x_seq ?_
  refine x_region ?_
  refine x_val (.pointer (some ⟨g1, 2, none⟩)) (by kernel_rfl) rfl (by kernel_rfl) ?_
  refine x_load1 H 2 g1 2 #[.slice (some ⟨g, 0, none⟩) (List.length xs) cap, .int .i64 ((room : Nat) : Int), .int .i64 nx, .bool lo] 41 (.int .i64 nx) (by kernel_rfl) (by kernel_rfl) (by kernel_rfl) rfl (by kernel_rfl) ?_
  refine x_ar (nx + 1) ⟨by omega, by omega⟩ (by kernel_rfl) rfl (by kernel_rfl) ?_
  refine x_val (.pointer (some ⟨g1, 2, none⟩)) (by kernel_rfl) rfl (by kernel_rfl) ?_
  refine x_store (t := 3) (v := .int .i64 (nx + 1)) H 2 g1 2 #[.slice (some ⟨g, 0, none⟩) (List.length xs) cap, .int .i64 ((room : Nat) : Int), .int .i64 nx, .bool lo] #[.slice (some ⟨g, 0, none⟩) (List.length xs) cap, .int .i64 ((room : Nat) : Int), .int .i64 (nx + 1), .bool lo] 41 [.int .i64 (nx + 1)] [.blk g3 #[.slice none 0 0, .int .i64 0, .int .i64 0, .bool false] 41, .blk g2 #[.int .i64 nx, .int .i64 t, .int .i64 k, .int .i64 i, .int .i64 f] 46, .blk g1 #[.slice (some ⟨g, 0, none⟩) (List.length xs) cap, .int .i64 ((room : Nat) : Int), .int .i64 (nx + 1), .bool lo] 41, .row (.slice (some ⟨g, 0, none⟩) (List.length xs) cap) 46 5 (List.length xs) (List.flatMap recL xs)] (by kernel_rfl) rfl (by kernel_rfl) (by kernel_rfl) (by kernel_rfl) (by kernel_rfl) (by kernel_rfl) (by kernel_rfl) (by kernel_rfl) (by kernel_rfl) ?_
  clear H
  intro v5 H
  refine x_nil ?_
  refine x_then ?_
  refine x_seq ?_
  refine x_region ?_
  refine x_val (.int .i64 (-1)) (by kernel_rfl) rfl (by kernel_rfl) ?_
  refine x_nil ?_
  refine x_then ?_
  refine x_seq ?_
  refine x_seq ?_
  refine x_region ?_
  refine x_val (.pointer (some ⟨g1, 0, none⟩)) (by kernel_rfl) rfl (by kernel_rfl) ?_
  refine x_load1 H 2 g1 0 #[.slice (some ⟨g, 0, none⟩) (List.length xs) cap, .int .i64 ((room : Nat) : Int), .int .i64 (nx + 1), .bool lo] 41 (.slice (some ⟨g, 0, none⟩) (List.length xs) cap) (by kernel_rfl) (by kernel_rfl) (by kernel_rfl) rfl (by kernel_rfl) ?_
  refine x_val (.int .i64 (((List.length xs) : Nat) : Int)) (by kernel_rfl) rfl (by kernel_rfl) ?_
  refine x_ar ((((List.length xs) : Nat) : Int) - 1) ⟨by omega, by omega⟩ (by kernel_rfl) rfl (by kernel_rfl) ?_
  refine x_val (.int .i64 ((((List.length xs) : Nat) : Int) - 1)) (by kernel_rfl) rfl (by kernel_rfl) ?_
  refine x_nil ?_
  refine x_then ?_
  refine x_block ?_
  refine x_loop (G := Nat × Int) (fun gh a w' => match gh with | (j, at0) => ∃ uf1 : Nat → Value, a = { tmps := #[.agg #[.slice (some ⟨g, 0, none⟩) (List.length xs) cap, .int .i64 ((room : Nat) : Int), .int .i64 nx, .bool lo], .agg #[.int .i64 s, .int .i64 t, .int .i64 k, .int .i64 i, .int .i64 f], .pointer (some ⟨g1, 0, none⟩), .pointer (some ⟨g2, 0, none⟩), .pointer (some ⟨g3, 0, none⟩), .bool false, .int .i64 at0, .int .i64 (((j : Nat) : Int) - 1), undef, .pointer (some ⟨g1, 2, none⟩), .int .i64 nx, .pointer (some ⟨g2, 0, none⟩), .pointer (some ⟨g1, 2, none⟩), .int .i64 nx, .int .i64 (nx + 1), .pointer (some ⟨g1, 2, none⟩), .pointer (some ⟨g1, 0, none⟩), .slice (some ⟨g, 0, none⟩) (List.length xs) cap, .int .i64 (((List.length xs) : Nat) : Int), .int .i64 ((((List.length xs) : Nat) : Int) - 1), (uf1 0), (uf1 1), (uf1 2), (uf1 3), (uf1 4), (uf1 5), (uf1 6), (uf1 7), (uf1 8), (uf1 9), (uf1 10), (uf1 11), undef, undef, undef, undef, undef, undef, undef, undef, undef, undef, undef, undef, undef, undef, undef, undef, undef, undef, undef, undef, undef, undef, undef, undef, undef, undef, undef, undef, undef, undef, undef, undef, undef, undef, undef, undef, undef, undef, undef, undef, undef, undef, undef, undef], defers := [] } ∧ Hs (fps [.row (.slice (some ⟨g, 0, none⟩) (List.length xs) cap) 46 5 (List.length xs) (List.flatMap recL xs)]) w0 w' [.blk g3 #[.slice none 0 0, .int .i64 0, .int .i64 0, .bool false] 41, .blk g2 #[.int .i64 nx, .int .i64 t, .int .i64 k, .int .i64 i, .int .i64 f] 46, .blk g1 #[.slice (some ⟨g, 0, none⟩) (List.length xs) cap, .int .i64 ((room : Nat) : Int), .int .i64 (nx + 1), .bool lo] 41, .row (.slice (some ⟨g, 0, none⟩) (List.length xs) cap) 46 5 (List.length xs) (List.flatMap recL xs)] ∧ (j ≤ xs.length) ∧ (at0 = ltF xs j)) (fun gh => match gh with | (j, at0) => j) ((List.length xs), (-1)) ⟨(nthV [undef, undef, undef, undef, undef, undef, undef, undef, undef, undef, undef, undef]), (by kernel_rfl), H, (Nat.le_refl _), (ltF_end xs).symm⟩ ?_
  clear H
  rintro ⟨j, at0⟩ _ v6 ⟨uf1, rfl, H, r1, r2⟩
  refine x_seq ?_
  refine x_seq ?_
  refine x_region ?_
  refine x_val (.int .i64 (((j : Nat) : Int) - 1)) (by kernel_rfl) rfl (by kernel_rfl) ?_
  refine x_val (.bool (decide (0 ≤ (((j : Nat) : Int) - 1)))) (by kernel_rfl) rfl (by kernel_rfl) ?_
  refine x_nil ?_
  refine x_then ?_
  cases h1 : decide (0 ≤ (((j : Nat) : Int) - 1))
  · skip
    have h1p := of_decide_eq_false h1
    have hj0 : j = 0 := by omega
    rw [hj0, ltF_zero] at r2
    obtain rfl : at0 = ((lq xs : Nat) : Int) := by rw [r2]; unfold lightI; rw [if_pos hq]
    refine x_f (by kernel_rfl) ?_
    refine x_exit ?_
    refine x_then_exit ?_
    refine x_then_exit ?_
    refine x_blk_exit ?_
    refine x_then ?_
    refine x_seq ?_
    refine x_region ?_
    refine x_val (.slice none 0 0) (by kernel_rfl) rfl (by kernel_rfl) ?_
    refine x_nil ?_
    refine x_then ?_
    refine x_seq ?_
    refine x_seq ?_
    refine x_region ?_
    refine x_val (.pointer (some ⟨g1, 0, none⟩)) (by kernel_rfl) rfl (by kernel_rfl) ?_
    refine x_load1 H 2 g1 0 #[.slice (some ⟨g, 0, none⟩) (List.length xs) cap, .int .i64 ((room : Nat) : Int), .int .i64 (nx + 1), .bool lo] 41 (.slice (some ⟨g, 0, none⟩) (List.length xs) cap) (by kernel_rfl) (by kernel_rfl) (by kernel_rfl) rfl (by kernel_rfl) ?_
    refine x_val (.int .i64 (((List.length xs) : Nat) : Int)) (by kernel_rfl) rfl (by kernel_rfl) ?_
    refine x_val (.pointer (some ⟨g1, 1, none⟩)) (by kernel_rfl) rfl (by kernel_rfl) ?_
    refine x_load1 H 2 g1 1 #[.slice (some ⟨g, 0, none⟩) (List.length xs) cap, .int .i64 ((room : Nat) : Int), .int .i64 (nx + 1), .bool lo] 41 (.int .i64 ((room : Nat) : Int)) (by kernel_rfl) (by kernel_rfl) (by kernel_rfl) rfl (by kernel_rfl) ?_
    refine x_val (.bool (decide ((((List.length xs) : Nat) : Int) < ((room : Nat) : Int)))) (by kernel_rfl) rfl (by kernel_rfl) ?_
    refine x_nil ?_
    refine x_then ?_
    rw [q1]
    refine x_f (by kernel_rfl) ?_
    refine x_skipc ?_
    refine x_then ?_
    refine x_seq ?_
    refine x_region ?_
    refine x_val (.pointer (some ⟨g1, 3, none⟩)) (by kernel_rfl) rfl (by kernel_rfl) ?_
    refine x_store (t := 4) (v := .bool true) H 2 g1 3 #[.slice (some ⟨g, 0, none⟩) (List.length xs) cap, .int .i64 ((room : Nat) : Int), .int .i64 (nx + 1), .bool lo] #[.slice (some ⟨g, 0, none⟩) (List.length xs) cap, .int .i64 ((room : Nat) : Int), .int .i64 (nx + 1), .bool true] 41 [.bool true] [.blk g3 #[.slice none 0 0, .int .i64 0, .int .i64 0, .bool false] 41, .blk g2 #[.int .i64 nx, .int .i64 t, .int .i64 k, .int .i64 i, .int .i64 f] 46, .blk g1 #[.slice (some ⟨g, 0, none⟩) (List.length xs) cap, .int .i64 ((room : Nat) : Int), .int .i64 (nx + 1), .bool true] 41, .row (.slice (some ⟨g, 0, none⟩) (List.length xs) cap) 46 5 (List.length xs) (List.flatMap recL xs)] (by kernel_rfl) rfl (by kernel_rfl) (by kernel_rfl) (by kernel_rfl) (by kernel_rfl) (by kernel_rfl) (by kernel_rfl) (by kernel_rfl) (by kernel_rfl) ?_
    clear H
    intro v7 H
    refine x_nil ?_
    refine x_then ?_
    refine x_seq ?_
    refine x_seq ?_
    refine x_region ?_
    refine x_val (.pointer (some ⟨g2, 2, none⟩)) (by kernel_rfl) rfl (by kernel_rfl) ?_
    refine x_load1 H 1 g2 2 #[.int .i64 nx, .int .i64 t, .int .i64 k, .int .i64 i, .int .i64 f] 46 (.int .i64 k) (by kernel_rfl) (by kernel_rfl) (by kernel_rfl) rfl (by kernel_rfl) ?_
    refine x_val (.bool (!(decide (k = 2)))) (by kernel_rfl) rfl (by kernel_rfl) ?_
    refine x_val (.bool (!(decide (k = 2)))) (by kernel_rfl) rfl (by kernel_rfl) ?_
    rw [q2]
    refine x_val (.int .i64 (((lq xs) : Nat) : Int)) (by kernel_rfl) rfl (by kernel_rfl) ?_
    refine x_val (.bool (decide ((((lq xs) : Nat) : Int) < 0))) (by kernel_rfl) rfl (by kernel_rfl) ?_
    refine x_val (.bool (decide ((((lq xs) : Nat) : Int) < 0))) (by kernel_rfl) rfl (by kernel_rfl) ?_
    refine x_nil ?_
    refine x_then ?_
    cases h2 : decide ((((lq xs) : Nat) : Int) < 0)
    · skip
      have h2p := of_decide_eq_false h2
      refine x_f (by kernel_rfl) ?_
      refine x_skipc ?_
      refine x_then ?_
      refine x_seq ?_
      refine x_region ?_
      refine x_val (.slice none 0 0) (by kernel_rfl) rfl (by kernel_rfl) ?_
      refine x_val (.pointer (some ⟨g1, 0, none⟩)) (by kernel_rfl) rfl (by kernel_rfl) ?_
      refine x_load1 H 2 g1 0 #[.slice (some ⟨g, 0, none⟩) (List.length xs) cap, .int .i64 ((room : Nat) : Int), .int .i64 (nx + 1), .bool true] 41 (.slice (some ⟨g, 0, none⟩) (List.length xs) cap) (by kernel_rfl) (by kernel_rfl) (by kernel_rfl) rfl (by kernel_rfl) ?_
      refine x_val (.int .i64 (((lq xs) : Nat) : Int)) (by kernel_rfl) rfl (by kernel_rfl) ?_
      refine x_val (.slice (some ⟨g, 0, none⟩) (lq xs) cap) (by kernel_rfl) rfl (Eq.trans (by kernel_rfl) (slcH (P := Try.prog) (t := 39) (g := g) (n := (List.length xs)) (c := cap) (h := (lq xs)) (sz := 5) (by kernel_rfl) (by kernel_rfl) (by omega))) ?_
      replace H := H.nilRow 46 5
      replace H : Hs (fps [.row (.slice (some ⟨g, 0, none⟩) (List.length xs) cap) 46 5 (List.length xs) (List.flatMap recL xs)]) w0 _ [.row (.slice none 0 0) 46 5 0 (List.flatMap recL ([] : List Rec)), .blk g3 #[.slice none 0 0, .int .i64 0, .int .i64 0, .bool false] 41, .blk g2 #[.int .i64 nx, .int .i64 t, .int .i64 k, .int .i64 i, .int .i64 f] 46, .blk g1 #[.slice (some ⟨g, 0, none⟩) (List.length xs) cap, .int .i64 ((room : Nat) : Int), .int .i64 (nx + 1), .bool true] 41, .row (.slice (some ⟨g, 0, none⟩) (List.length xs) cap) 46 5 (List.length xs) (List.flatMap recL xs)] := H
      refine x_appendSrc H 0 (.slice none 0 0) 39 46 5 40 0 (.agg #[.int .i64 0, .int .i64 0, .int .i64 0, .int .i64 0, .int .i64 0]) (List.flatMap recL ([] : List Rec)) (.slice (some ⟨g, 0, none⟩) (lq xs) cap) (lq xs) (List.take (lq xs * 5) (List.flatMap recL xs)) rfl (src_pre (H.ok 4 _ rfl) (by omega)) (by kernel_rfl) (by kernel_rfl) (by kernel_rfl) (by decide) (fun u hu => oneCellFlat recOne _ u (List.mem_of_mem_take hu)) (by unfold maxLen; omega) (by omega) (by kernel_rfl) rfl (by kernel_rfl) ?_
      clear H
      intro v8 vr62 H
      rw [show (List.flatMap recL ([] : List Rec)) ++ (List.take (lq xs * 5) (List.flatMap recL xs)) = (List.flatMap recL (xs.take (lq xs))) from (by rw [flatTake recLen]; simp)] at H
      rw [show (0 + (lq xs) : Nat) = (List.length (xs.take (lq xs))) from (by simp; omega)] at H
      replace H : Hs (fps [.row (.slice (some ⟨g, 0, none⟩) (List.length xs) cap) 46 5 (List.length xs) (List.flatMap recL xs)]) w0 v8 [.row (vr62) 46 5 (List.length (xs.take (lq xs))) (List.flatMap recL (xs.take (lq xs))), .blk g3 #[.slice none 0 0, .int .i64 0, .int .i64 0, .bool false] 41, .blk g2 #[.int .i64 nx, .int .i64 t, .int .i64 k, .int .i64 i, .int .i64 f] 46, .blk g1 #[.slice (some ⟨g, 0, none⟩) (List.length xs) cap, .int .i64 ((room : Nat) : Int), .int .i64 (nx + 1), .bool true] 41, .row (.slice (some ⟨g, 0, none⟩) (List.length xs) cap) 46 5 (List.length xs) (List.flatMap recL xs)] := H
      refine x_val (vr62) (by kernel_rfl) rfl (by kernel_rfl) ?_
      refine x_nil ?_
      refine x_then ?_
      refine x_seq ?_
      refine x_region ?_
      refine x_val (vr62) (by kernel_rfl) rfl (by kernel_rfl) ?_
      refine x_val (.pointer (some ⟨g1, 0, none⟩)) (by kernel_rfl) rfl (by kernel_rfl) ?_
      refine x_load1 H 3 g1 0 #[.slice (some ⟨g, 0, none⟩) (List.length xs) cap, .int .i64 ((room : Nat) : Int), .int .i64 (nx + 1), .bool true] 41 (.slice (some ⟨g, 0, none⟩) (List.length xs) cap) (by kernel_rfl) (by kernel_rfl) (by kernel_rfl) rfl (by kernel_rfl) ?_
      refine x_val (.int .i64 (((lq xs) : Nat) : Int)) (by kernel_rfl) rfl (by kernel_rfl) ?_
      refine x_ar ((((lq xs) : Nat) : Int) + 1) ⟨by omega, by omega⟩ (by kernel_rfl) rfl (by kernel_rfl) ?_
      rw [show ((lq xs : Nat) : Int) + 1 = ((lq xs + 1 : Nat) : Int) from by omega]
      refine x_val ((sliced (some ⟨g, 0, none⟩) (lq xs + 1) (List.length xs) cap 5)) (by kernel_rfl) rfl (Eq.trans (by kernel_rfl) (slcL (P := Try.prog) (t := 39) (b := some ⟨g, 0, none⟩) (n := (List.length xs)) (c := cap) (l := (lq xs + 1)) (sz := 5) (by kernel_rfl) (by kernel_rfl) (by omega))) ?_
      refine x_appendSrc H 0 (vr62) 39 46 5 40 (List.length (xs.take (lq xs))) (.agg #[.int .i64 0, .int .i64 0, .int .i64 0, .int .i64 0, .int .i64 0]) (List.flatMap recL (xs.take (lq xs))) ((sliced (some ⟨g, 0, none⟩) (lq xs + 1) (List.length xs) cap 5)) (List.length xs - (lq xs + 1)) (List.drop ((lq xs + 1) * 5) (List.flatMap recL xs)) rfl (src_suf (H.ok 4 _ rfl) (by omega)) (by kernel_rfl) (by kernel_rfl) (by kernel_rfl) (by decide) (fun u hu => oneCellFlat recOne _ u (List.mem_of_mem_drop hu)) (by rw [List.length_take]; unfold maxLen; omega) (by rw [List.length_take]; omega) (by kernel_rfl) rfl (by kernel_rfl) ?_
      clear H
      intro v9 vr69 H
      rw [show (List.flatMap recL (xs.take (lq xs))) ++ (List.drop ((lq xs + 1) * 5) (List.flatMap recL xs)) = (List.flatMap recL (xs.eraseIdx (lq xs))) from (by rw [flatDrop recLen, List.eraseIdx_eq_take_drop_succ, List.flatMap_append])] at H
      rw [show ((List.length (xs.take (lq xs))) + (List.length xs - (lq xs + 1)) : Nat) = (List.length (xs.eraseIdx (lq xs))) from (by rw [List.length_eraseIdx, if_pos hq, List.length_take]; omega)] at H
      replace H : Hs (fps [.row (.slice (some ⟨g, 0, none⟩) (List.length xs) cap) 46 5 (List.length xs) (List.flatMap recL xs)]) w0 v9 [.row (vr69) 46 5 (List.length (xs.eraseIdx (lq xs))) (List.flatMap recL (xs.eraseIdx (lq xs))), .blk g3 #[.slice none 0 0, .int .i64 0, .int .i64 0, .bool false] 41, .blk g2 #[.int .i64 nx, .int .i64 t, .int .i64 k, .int .i64 i, .int .i64 f] 46, .blk g1 #[.slice (some ⟨g, 0, none⟩) (List.length xs) cap, .int .i64 ((room : Nat) : Int), .int .i64 (nx + 1), .bool true] 41, .row (.slice (some ⟨g, 0, none⟩) (List.length xs) cap) 46 5 (List.length xs) (List.flatMap recL xs)] := H
      refine x_val (vr69) (by kernel_rfl) rfl (by kernel_rfl) ?_
      refine x_nil ?_
      refine x_frame' { tmps := #[.agg #[.slice (some ⟨g, 0, none⟩) (List.length xs) cap, .int .i64 ((room : Nat) : Int), .int .i64 nx, .bool lo], .agg #[.int .i64 s, .int .i64 t, .int .i64 k, .int .i64 i, .int .i64 f], .pointer (some ⟨g1, 0, none⟩), .pointer (some ⟨g2, 0, none⟩), .pointer (some ⟨g3, 0, none⟩), .bool false, .int .i64 (((lq xs) : Nat) : Int), .int .i64 (((j : Nat) : Int) - 1), vr69, .pointer (some ⟨g1, 2, none⟩), .int .i64 nx, .pointer (some ⟨g2, 0, none⟩), .pointer (some ⟨g1, 2, none⟩), .int .i64 nx, .int .i64 (nx + 1), .pointer (some ⟨g1, 2, none⟩), .pointer (some ⟨g1, 0, none⟩), .slice (some ⟨g, 0, none⟩) (List.length xs) cap, .int .i64 (((List.length xs) : Nat) : Int), .int .i64 ((((List.length xs) : Nat) : Int) - 1), .int .i64 (((j : Nat) : Int) - 1), .bool false, (uf1 2), (uf1 3), (uf1 4), (uf1 5), (uf1 6), (uf1 7), (uf1 8), (uf1 9), (uf1 10), (uf1 11), .pointer (some ⟨g1, 0, none⟩), .slice (some ⟨g, 0, none⟩) (List.length xs) cap, .int .i64 (((List.length xs) : Nat) : Int), .pointer (some ⟨g1, 1, none⟩), .int .i64 ((room : Nat) : Int), .bool false, undef, undef, undef, undef, undef, undef, undef, undef, undef, undef, .pointer (some ⟨g1, 3, none⟩), .pointer (some ⟨g2, 2, none⟩), .int .i64 k, .bool false, .bool false, .int .i64 (((lq xs) : Nat) : Int), .bool false, .bool false, undef, .slice none 0 0, .pointer (some ⟨g1, 0, none⟩), .slice (some ⟨g, 0, none⟩) (List.length xs) cap, .int .i64 (((lq xs) : Nat) : Int), .slice (some ⟨g, 0, none⟩) (lq xs) cap, vr62, vr62, .pointer (some ⟨g1, 0, none⟩), .slice (some ⟨g, 0, none⟩) (List.length xs) cap, .int .i64 (((lq xs) : Nat) : Int), .int .i64 (((lq xs + 1) : Nat) : Int), (sliced (some ⟨g, 0, none⟩) (lq xs + 1) (List.length xs) cap 5), vr69, undef, undef, undef, undef, undef, undef], defers := [] } (by kernel_rfl) ?_
      refine x_then ?_
      refine x_seq ?_
      refine x_region ?_
      refine x_val (vr69) (by kernel_rfl) rfl (by kernel_rfl) ?_
      refine x_loadn (t := 46) H 2 g2 0 #[.int .i64 nx, .int .i64 t, .int .i64 k, .int .i64 i, .int .i64 f] 46 [.int .i64 nx, .int .i64 t, .int .i64 k, .int .i64 i, .int .i64 f] (by kernel_rfl) (by kernel_rfl) (by kernel_rfl) rfl (by kernel_rfl) (by kernel_rfl) ?_
      refine x_box' H #[.int .i64 nx, .int .i64 t, .int .i64 k, .int .i64 i, .int .i64 f] 46 1 (by kernel_rfl) rfl (by kernel_rfl) ?_
      clear H
      intro v10 g4 H
      refine x_append H 1 (vr69) 39 46 5 40 (List.length (xs.eraseIdx (lq xs))) (.agg #[.int .i64 0, .int .i64 0, .int .i64 0, .int .i64 0, .int .i64 0]) (List.flatMap recL (xs.eraseIdx (lq xs))) ⟨g4, 0, none⟩ 1 1 [.int .i64 nx, .int .i64 t, .int .i64 k, .int .i64 i, .int .i64 f] rfl (by kernel_rfl) (by kernel_rfl) rfl (by decide) (by decide) rfl (fun j u hj => by rw [add_none]; exact cellOf (H.blk 0 rfl) (by simpa using hj)) (List.all_eq_true.1 (by kernel_rfl)) (by rw [List.length_eraseIdx]; unfold maxLen; split <;> omega) (by rw [List.length_eraseIdx]; split <;> omega) (by kernel_rfl) rfl (by kernel_rfl) ?_
      clear H
      intro v11 g5 c5 hc5 H
      rw [show (((List.length (xs.eraseIdx (lq xs))) + 1) : Nat) = (List.length ((xs.eraseIdx (lq xs)) ++ [(nx, t, k, i, f)])) from (by simp)] at H ⊢
      rw [show (List.flatMap recL (xs.eraseIdx (lq xs))) ++ [.int .i64 nx, .int .i64 t, .int .i64 k, .int .i64 i, .int .i64 f] = (List.flatMap recL ((xs.eraseIdx (lq xs)) ++ [(nx, t, k, i, f)])) from (by rw [List.flatMap_append]; rfl)] at H
      replace H : Hs (fps [.row (.slice (some ⟨g, 0, none⟩) (List.length xs) cap) 46 5 (List.length xs) (List.flatMap recL xs)]) w0 v11 [.blk g4 #[.int .i64 nx, .int .i64 t, .int .i64 k, .int .i64 i, .int .i64 f] 46, .row (.slice (some ⟨g5, 0, none⟩) (List.length ((xs.eraseIdx (lq xs)) ++ [(nx, t, k, i, f)])) c5) 46 5 (List.length ((xs.eraseIdx (lq xs)) ++ [(nx, t, k, i, f)])) (List.flatMap recL ((xs.eraseIdx (lq xs)) ++ [(nx, t, k, i, f)])), .blk g3 #[.slice none 0 0, .int .i64 0, .int .i64 0, .bool false] 41, .blk g2 #[.int .i64 nx, .int .i64 t, .int .i64 k, .int .i64 i, .int .i64 f] 46, .blk g1 #[.slice (some ⟨g, 0, none⟩) (List.length xs) cap, .int .i64 ((room : Nat) : Int), .int .i64 (nx + 1), .bool true] 41, .row (.slice (some ⟨g, 0, none⟩) (List.length xs) cap) 46 5 (List.length xs) (List.flatMap recL xs)] := H
      replace H := H.pick [1, 2, 3, 4, 5] [.row (.slice (some ⟨g5, 0, none⟩) (List.length ((xs.eraseIdx (lq xs)) ++ [(nx, t, k, i, f)])) c5) 46 5 (List.length ((xs.eraseIdx (lq xs)) ++ [(nx, t, k, i, f)])) (List.flatMap recL ((xs.eraseIdx (lq xs)) ++ [(nx, t, k, i, f)])), .blk g3 #[.slice none 0 0, .int .i64 0, .int .i64 0, .bool false] 41, .blk g2 #[.int .i64 nx, .int .i64 t, .int .i64 k, .int .i64 i, .int .i64 f] 46, .blk g1 #[.slice (some ⟨g, 0, none⟩) (List.length xs) cap, .int .i64 ((room : Nat) : Int), .int .i64 (nx + 1), .bool true] 41, .row (.slice (some ⟨g, 0, none⟩) (List.length xs) cap) 46 5 (List.length xs) (List.flatMap recL xs)] (by decide) (by kernel_rfl)
      refine x_val (.pointer (some ⟨g1, 0, none⟩)) (by kernel_rfl) rfl (by kernel_rfl) ?_
      refine x_store (t := 39) (v := .slice (some ⟨g5, 0, none⟩) (List.length ((xs.eraseIdx (lq xs)) ++ [(nx, t, k, i, f)])) c5) H 3 g1 0 #[.slice (some ⟨g, 0, none⟩) (List.length xs) cap, .int .i64 ((room : Nat) : Int), .int .i64 (nx + 1), .bool true] #[.slice (some ⟨g5, 0, none⟩) (List.length ((xs.eraseIdx (lq xs)) ++ [(nx, t, k, i, f)])) c5, .int .i64 ((room : Nat) : Int), .int .i64 (nx + 1), .bool true] 41 [.slice (some ⟨g5, 0, none⟩) (List.length ((xs.eraseIdx (lq xs)) ++ [(nx, t, k, i, f)])) c5] [.row (.slice (some ⟨g5, 0, none⟩) (List.length ((xs.eraseIdx (lq xs)) ++ [(nx, t, k, i, f)])) c5) 46 5 (List.length ((xs.eraseIdx (lq xs)) ++ [(nx, t, k, i, f)])) (List.flatMap recL ((xs.eraseIdx (lq xs)) ++ [(nx, t, k, i, f)])), .blk g3 #[.slice none 0 0, .int .i64 0, .int .i64 0, .bool false] 41, .blk g2 #[.int .i64 nx, .int .i64 t, .int .i64 k, .int .i64 i, .int .i64 f] 46, .blk g1 #[.slice (some ⟨g5, 0, none⟩) (List.length ((xs.eraseIdx (lq xs)) ++ [(nx, t, k, i, f)])) c5, .int .i64 ((room : Nat) : Int), .int .i64 (nx + 1), .bool true] 41, .row (.slice (some ⟨g, 0, none⟩) (List.length xs) cap) 46 5 (List.length xs) (List.flatMap recL xs)] (by kernel_rfl) rfl (by kernel_rfl) (by kernel_rfl) (by kernel_rfl) (by kernel_rfl) (by kernel_rfl) (by kernel_rfl) (by kernel_rfl) (by kernel_rfl) ?_
      clear H
      intro v12 H
      refine x_nil ?_
      refine x_then ?_
      refine x_seq ?_
      refine x_region ?_
      refine x_loadn (t := 41) H 3 g1 0 #[.slice (some ⟨g5, 0, none⟩) (List.length ((xs.eraseIdx (lq xs)) ++ [(nx, t, k, i, f)])) c5, .int .i64 ((room : Nat) : Int), .int .i64 (nx + 1), .bool true] 41 [.slice (some ⟨g5, 0, none⟩) (List.length ((xs.eraseIdx (lq xs)) ++ [(nx, t, k, i, f)])) c5, .int .i64 ((room : Nat) : Int), .int .i64 (nx + 1), .bool true] (by kernel_rfl) (by kernel_rfl) (by kernel_rfl) rfl (by kernel_rfl) (by kernel_rfl) ?_
      refine x_store (t := 41) (v := .agg #[.slice (some ⟨g5, 0, none⟩) (List.length ((xs.eraseIdx (lq xs)) ++ [(nx, t, k, i, f)])) c5, .int .i64 ((room : Nat) : Int), .int .i64 (nx + 1), .bool true]) H 1 g3 0 #[.slice none 0 0, .int .i64 0, .int .i64 0, .bool false] #[.slice (some ⟨g5, 0, none⟩) (List.length ((xs.eraseIdx (lq xs)) ++ [(nx, t, k, i, f)])) c5, .int .i64 ((room : Nat) : Int), .int .i64 (nx + 1), .bool true] 41 [.slice (some ⟨g5, 0, none⟩) (List.length ((xs.eraseIdx (lq xs)) ++ [(nx, t, k, i, f)])) c5, .int .i64 ((room : Nat) : Int), .int .i64 (nx + 1), .bool true] [.row (.slice (some ⟨g5, 0, none⟩) (List.length ((xs.eraseIdx (lq xs)) ++ [(nx, t, k, i, f)])) c5) 46 5 (List.length ((xs.eraseIdx (lq xs)) ++ [(nx, t, k, i, f)])) (List.flatMap recL ((xs.eraseIdx (lq xs)) ++ [(nx, t, k, i, f)])), .blk g3 #[.slice (some ⟨g5, 0, none⟩) (List.length ((xs.eraseIdx (lq xs)) ++ [(nx, t, k, i, f)])) c5, .int .i64 ((room : Nat) : Int), .int .i64 (nx + 1), .bool true] 41, .blk g2 #[.int .i64 nx, .int .i64 t, .int .i64 k, .int .i64 i, .int .i64 f] 46, .blk g1 #[.slice (some ⟨g5, 0, none⟩) (List.length ((xs.eraseIdx (lq xs)) ++ [(nx, t, k, i, f)])) c5, .int .i64 ((room : Nat) : Int), .int .i64 (nx + 1), .bool true] 41, .row (.slice (some ⟨g, 0, none⟩) (List.length xs) cap) 46 5 (List.length xs) (List.flatMap recL xs)] (by kernel_rfl) rfl (by kernel_rfl) (by kernel_rfl) (by kernel_rfl) (by kernel_rfl) (by kernel_rfl) (by kernel_rfl) (by kernel_rfl) (by kernel_rfl) ?_
      clear H
      intro v13 H
      refine x_val (.bool true) (by kernel_rfl) rfl (by kernel_rfl) ?_
      refine x_nil ?_
      refine x_then ?_
      refine x_retc ?_
      refine x_ret (.tuple #[.agg #[.slice (some ⟨g5, 0, none⟩) (List.length ((xs.eraseIdx (lq xs)) ++ [(nx, t, k, i, f)])) c5, .int .i64 ((room : Nat) : Int), .int .i64 (nx + 1), .bool true], .bool true]) (by kernel_rfl) (x_rescell H 1 g3 0 #[.slice (some ⟨g5, 0, none⟩) (List.length ((xs.eraseIdx (lq xs)) ++ [(nx, t, k, i, f)])) c5, .int .i64 ((room : Nat) : Int), .int .i64 (nx + 1), .bool true] 41 [.slice (some ⟨g5, 0, none⟩) (List.length ((xs.eraseIdx (lq xs)) ++ [(nx, t, k, i, f)])) c5, .int .i64 ((room : Nat) : Int), .int .i64 (nx + 1), .bool true] (fun x => .tuple #[x, .bool true]) (by kernel_rfl) (by kernel_rfl) (by kernel_rfl)) ?_
      exact ⟨_, rfl, H.pick [0] _ (by decide) (by kernel_rfl)⟩
    · skip
      have h2p := of_decide_eq_true h2
      exact absurd h2p (by omega)
  · skip
    have h1p := of_decide_eq_true h1
    refine x_t (by kernel_rfl) ?_
    refine x_skipc ?_
    refine x_then ?_
    refine x_seq ?_
    refine x_block ?_
    refine x_seq ?_
    refine x_region ?_
    refine x_val (.pointer (some ⟨g1, 0, none⟩)) (by kernel_rfl) rfl (by kernel_rfl) ?_
    refine x_load1 H 2 g1 0 #[.slice (some ⟨g, 0, none⟩) (List.length xs) cap, .int .i64 ((room : Nat) : Int), .int .i64 (nx + 1), .bool lo] 41 (.slice (some ⟨g, 0, none⟩) (List.length xs) cap) (by kernel_rfl) (by kernel_rfl) (by kernel_rfl) rfl (by kernel_rfl) ?_
    refine x_val (.int .i64 (((j : Nat) : Int) - 1)) (by kernel_rfl) rfl (by kernel_rfl) ?_
    refine x_ixE (t := 39) (i := ((j : Nat) : Int) - 1) g 0 (j - 1) (List.length xs) cap (by omega) 46 5 ((j - 1) * 5) (by omega) (by omega) (by kernel_rfl) (by kernel_rfl) (by kernel_rfl) rfl (by kernel_rfl) ?_
    refine x_val (.pointer (some ⟨g, (j - 1) * 5 + 2, none⟩)) (by kernel_rfl) rfl (by kernel_rfl) ?_
    refine x_loadc g ((j - 1) * 5 + 2) (.int .i64 ((xs.getD (j - 1) (0, 0, 0, 0, 0)).2.2.1)) ((H.rowCells 3 rfl ((j - 1) * 5) (flatAt recLen (0, 0, 0, 0, 0) _ (by omega))) 2 _ rfl) (by kernel_rfl) rfl (by kernel_rfl) ?_
    refine x_val (.bool (!(decide (((xs.getD (j - 1) (0, 0, 0, 0, 0)).2.2.1) = 2)))) (by kernel_rfl) rfl (by kernel_rfl) ?_
    refine x_nil ?_
    refine x_then ?_
    cases h3 : decide (((xs.getD (j - 1) (0, 0, 0, 0, 0)).2.2.1) = 2)
    · skip
      have h3p := of_decide_eq_false h3
      refine x_t (by kernel_rfl) ?_
      refine x_region ?_
      refine x_val (.int .i64 (((j : Nat) : Int) - 1)) (by kernel_rfl) rfl (by kernel_rfl) ?_
      refine x_val (.int .i64 (((j : Nat) : Int) - 1)) (by kernel_rfl) rfl (by kernel_rfl) ?_
      refine x_nil ?_
      refine x_blk ?_
      refine x_then ?_
      refine x_region ?_
      refine x_val (.int .i64 (((j : Nat) : Int) - 1)) (by kernel_rfl) rfl (by kernel_rfl) ?_
      refine x_ar ((((j : Nat) : Int) - 1) - 1) ⟨by omega, by omega⟩ (by kernel_rfl) rfl (by kernel_rfl) ?_
      refine x_val (.int .i64 ((((j : Nat) : Int) - 1) - 1)) (by kernel_rfl) rfl (by kernel_rfl) ?_
      refine x_nil ?_
      refine x_then ?_
      have hj1 : ((j - 1 : Nat) : Int) = ((j : Nat) : Int) - 1 := by omega
      rw [← hj1]
      exact ⟨(j - 1, ((j - 1 : Nat) : Int)), (by dsimp only; omega), (nthV [.int .i64 ((j - 1 : Nat) : Int), .bool true, .int .i64 ((j - 1 : Nat) : Int), .int .i64 ((((j - 1 : Nat) : Int)) - 1), .pointer (some ⟨g1, 0, none⟩), .slice (some ⟨g, 0, none⟩) (List.length xs) cap, .int .i64 ((j - 1 : Nat) : Int), .pointer (some ⟨g, (j - 1) * 5, none⟩), .pointer (some ⟨g, (j - 1) * 5 + 2, none⟩), .int .i64 ((xs.getD (j - 1) (0, 0, 0, 0, 0)).2.2.1), .bool true, .int .i64 ((j - 1 : Nat) : Int)]), (by kernel_rfl), H, (by omega), (by rw [ltF_step xs (j - 1) (by omega), if_neg h3p])⟩
    · skip
      have h3p := of_decide_eq_true h3
      refine x_f (by kernel_rfl) ?_
      refine x_skipc ?_
      refine x_blk ?_
      refine x_then ?_
      refine x_region ?_
      refine x_val (.int .i64 (((j : Nat) : Int) - 1)) (by kernel_rfl) rfl (by kernel_rfl) ?_
      refine x_ar ((((j : Nat) : Int) - 1) - 1) ⟨by omega, by omega⟩ (by kernel_rfl) rfl (by kernel_rfl) ?_
      refine x_val (.int .i64 ((((j : Nat) : Int) - 1) - 1)) (by kernel_rfl) rfl (by kernel_rfl) ?_
      refine x_nil ?_
      refine x_then ?_
      have hj1 : ((j - 1 : Nat) : Int) = ((j : Nat) : Int) - 1 := by omega
      rw [← hj1]
      exact ⟨(j - 1, at0), (by dsimp only; omega), (nthV [.int .i64 ((j - 1 : Nat) : Int), .bool true, .int .i64 ((j - 1 : Nat) : Int), .int .i64 ((((j - 1 : Nat) : Int)) - 1), .pointer (some ⟨g1, 0, none⟩), .slice (some ⟨g, 0, none⟩) (List.length xs) cap, .int .i64 ((j - 1 : Nat) : Int), .pointer (some ⟨g, (j - 1) * 5, none⟩), .pointer (some ⟨g, (j - 1) * 5 + 2, none⟩), .int .i64 ((xs.getD (j - 1) (0, 0, 0, 0, 0)).2.2.1), .bool false, (uf1 11)]), (by kernel_rfl), H, (by omega), (by rw [ltF_step xs (j - 1) (by omega), if_pos h3p, show j - 1 + 1 = j by omega]; exact r2)⟩

theorem Ref_any {xv : Value} {xs : List Rec} {room : Nat} {nx : Int} {lo : Bool} (s t k i f : Int) (hn : xs.length ≤ room) (h1 : 1 ≤ room) (hr : room ≤ 4096) (hx : -1000 ≤ nx ∧ nx ≤ 9223372036854770000) (w0 : World) (H0 : Hs (fps [.row (xv) 46 5 (List.length xs) (List.flatMap recL xs)]) w0 w0 [.row (xv) 46 5 (List.length xs) (List.flatMap recL xs)]) :
    Calls Try.prog 19 #[.agg #[xv, .int .i64 ((room : Nat) : Int), .int .i64 nx, .bool lo], .agg #[.int .i64 s, .int .i64 t, .int .i64 k, .int .i64 i, .int .i64 f]] w0 fun e w' => ∃ xv', e = .returned (.tuple #[.agg #[xv', .int .i64 ((room : Nat) : Int), .int .i64 (nx + 1), .bool (lo || !(decide (xs.length < room)))], .bool (addS room xs (nx, t, k, i, f)).2]) ∧ Hs (fps [.row (xv) 46 5 (List.length xs) (List.flatMap recL xs)]) w0 w' [.row (xv') 46 5 (List.length ((addS room xs (nx, t, k, i, f)).1)) (List.flatMap recL ((addS room xs (nx, t, k, i, f)).1))] := by
  rcases rowForm (H0.ok 0 _ rfl : w0.ownsRow 0 _ 5 xv _ _) with ⟨rfl, h0⟩ | ⟨g, cap, rfl, hc, _⟩
  · rw [addS_room (show xs.length < room by omega)]
    have := Ref_room_n s t k i f (lo := lo) (by omega) hr hx w0 H0
    simpa [show xs.length < room by omega] using this
  · by_cases hlt : xs.length < room
    · rw [addS_room hlt]
      have := Ref_room_s s t k i f (lo := lo) hlt hr hx w0 H0
      simpa [hlt] using this
    · by_cases hp : k = 2 ∧ lq xs < xs.length
      · have e : addS room xs (nx, t, k, i, f) = (xs.eraseIdx (lq xs) ++ [(nx, t, k, i, f)], true) := by unfold addS; rw [if_neg hlt, if_pos hp]
        rw [e]
        have := Ref_push s t k i f (lo := lo) (by omega) hr hx hp.1 hp.2 w0 H0
        simpa [hlt] using this
      · have e : addS room xs (nx, t, k, i, f) = (xs, false) := by unfold addS; rw [if_neg hlt, if_neg hp]
        rw [e]
        have := Ref_keep s t k i f (lo := lo) (by omega) hr hx (fun hk hq => hp ⟨hk, hq⟩) w0 H0
        simpa [hlt] using this

end Go.Proofs.Ytpeefnbcgilihaa
