/- Contracts of record.Log: what is added, told, cleared. -/
import Derived.Test.YtjbaabffilejeaaDoorRecA
namespace Go.Proofs.YtjbaabffilejeaaDoor
open Go Go.RowKit
set_option linter.unusedVariables false
set_option linter.unusedSimpArgs false

/-- The place of the first record that isn't grave. -/
def lq (xs : List Rec) : Nat := xs.findIdx fun r => !(decide (r.2.2.1 = 2))
def lightI (xs : List Rec) : Int := if lq xs < xs.length then ((lq xs : Nat) : Int) else -1
theorem lq_all (xs : List Rec) : ∀ j, j < lq xs → kd xs j = 2 := fun j hj => by
  have hl : j < xs.length := Nat.lt_of_lt_of_le hj List.findIdx_le_length
  have := List.not_of_lt_findIdx hj
  simp only [Bool.not_eq_true, Bool.not_eq_false', decide_eq_true_eq] at this
  simp only [kd, List.getD, List.getElem?_eq_getElem hl, Option.getD_some]
  exact this
theorem lq_at (xs : List Rec) (h : lq xs < xs.length) : ¬ kd xs (lq xs) = 2 := by
  have := List.findIdx_getElem (w := h)
  simp only [Bool.not_eq_true', decide_eq_false_iff_not] at this
  simp only [kd, List.getD, List.getElem?_eq_getElem h, Option.getD_some]
  exact this
theorem lq_none (xs : List Rec) (h : ¬ lq xs < xs.length) : ∀ j, j < xs.length → kd xs j = 2 := fun j hj => lq_all xs j (by omega)
/-- What a log with room for some has, and whether a record came. -/
def addS (room : Nat) (xs : List Rec) (r : Rec) : List Rec × Bool :=
  if xs.length < room then (xs ++ [r], true) else if r.2.2.1 = 2 ∧ lq xs < xs.length then (xs.eraseIdx (lq xs) ++ [r], true) else (xs, false)

section
set_option maxRecDepth 100000 in
set_option maxHeartbeats 2000000 in
theorem light_at {p : Nat} {xs : List Rec} {room : Nat} {nx : Int} {lo : Bool} {g cap : Nat} (hn : xs.length ≤ 4096) (w0 : World) (hR : Ro w0 [.blk p #[.slice (some ⟨g, 0, none⟩) xs.length cap, .int .i64 ((room : Nat) : Int), .int .i64 nx, .bool lo] 98, .row (.slice (some ⟨g, 0, none⟩) xs.length cap) 23 5 xs.length (List.flatMap recL xs)]) :
    Calls Tryd.prog 50 #[.pointer (some ⟨p, 0, none⟩)] w0 fun e w' => e = .returned (.int .i64 (lightI xs)) ∧ Below w0.heap.size w0 w' := by
  refine x_enter Tryd.func50 rfl #[.pointer (some ⟨p, 0, none⟩), undef, undef, undef, undef, undef, undef, undef] (by kernel_rfl) ?_
  have H := Hs.nil w0
  have R0 := hR
  have hix : ∀ w, Ro w [.row (.slice (some ⟨g, 0, none⟩) xs.length cap) 23 5 xs.length (List.flatMap recL xs)] → Calls Tryd.prog 67 #[.slice (some ⟨g, 0, none⟩) xs.length cap, .func (.func 68) #[] #[]] w fun e w' => e = .returned (.int .i64 (lightI xs)) ∧ Below w.heap.size w w' := fun w h => by
    unfold lightI
    by_cases hq : lq xs < xs.length
    · rw [if_pos hq]; exact Index_yes xs hn (lq xs) hq (lq_all xs) (lq_at xs hq) w h
    · rw [if_neg hq]; exact Index_no xs hn (lq_none xs hq) w h
  refine x_seq ?_
  refine x_region ?_
  refine x_val (.int .i64 0) (by kernel_rfl) rfl (by kernel_rfl) ?_
  refine x_nil ?_
  refine x_then ?_
  refine x_seq ?_
  refine x_region ?_
  refine x_val (.pointer (some ⟨p, 0, none⟩)) (by kernel_rfl) rfl (by kernel_rfl) ?_
  refine x_val (.pointer (some ⟨p, 0, none⟩)) (by kernel_rfl) rfl (by kernel_rfl) ?_
  refine x_val (.pointer (some ⟨p, 0, none⟩)) (by kernel_rfl) rfl (by kernel_rfl) ?_
  refine x_loadc p 0 (.slice (some ⟨g, 0, none⟩) xs.length cap) ((H.ro R0).cell 0 rfl 0 rfl) (by kernel_rfl) rfl (by kernel_rfl) ?_
  refine x_callB (.int .i64 (lightI xs)) H (by kernel_rfl) rfl (by kernel_rfl) (hix _ ((H.ro R0).pick [1] [.row (.slice (some ⟨g, 0, none⟩) xs.length cap) 23 5 xs.length (List.flatMap recL xs)] (by kernel_rfl))) ?_
  clear H
  intro v1 H
  refine x_val (.int .i64 (lightI xs)) (by kernel_rfl) rfl (by kernel_rfl) ?_
  refine x_nil ?_
  refine x_then ?_
  refine x_retc ?_
  refine x_ret (.int .i64 (lightI xs)) (by kernel_rfl) (by kernel_rfl) ?_
  exact ⟨rfl, H.below⟩

set_option maxRecDepth 100000 in
set_option maxHeartbeats 2000000 in
theorem Add_room_n {p : Nat} {xs : List Rec} {room : Nat} {nx : Int} {lo : Bool} (s t k i f : Int) (hn : xs.length < room) (hr : room ≤ 4096) (hx : -1000 ≤ nx ∧ nx ≤ 9223372036854770000) (w0 : World) (H0 : Hs (fps [.blk p #[.slice none 0 0, .int .i64 ((room : Nat) : Int), .int .i64 nx, .bool lo] 98, .row (.slice none 0 0) 23 5 xs.length (List.flatMap recL xs)]) w0 w0 [.blk p #[.slice none 0 0, .int .i64 ((room : Nat) : Int), .int .i64 nx, .bool lo] 98, .row (.slice none 0 0) 23 5 xs.length (List.flatMap recL xs)]) :
    Calls Tryd.prog 23 #[.pointer (some ⟨p, 0, none⟩), .agg #[.int .i64 s, .int .i64 t, .int .i64 k, .int .i64 i, .int .i64 f]] w0 fun e w' => ∃ sv', e = .returned (.tuple #[.agg #[.int .i64 nx, .int .i64 t, .int .i64 k, .int .i64 i, .int .i64 f], .bool true]) ∧ Hs (fps [.blk p #[.slice none 0 0, .int .i64 ((room : Nat) : Int), .int .i64 nx, .bool lo] 98, .row (.slice none 0 0) 23 5 xs.length (List.flatMap recL xs)]) w0 w' [.blk p #[sv', .int .i64 ((room : Nat) : Int), .int .i64 (nx + 1), .bool lo] 98, .row (sv') 23 5 (xs.length + 1) (List.flatMap recL (xs ++ [(nx, t, k, i, f)]))] := by
  refine x_enter Tryd.func23 rfl #[.pointer (some ⟨p, 0, none⟩), .agg #[.int .i64 s, .int .i64 t, .int .i64 k, .int .i64 i, .int .i64 f], undef, undef, undef, undef, undef, undef, undef, undef, undef, undef, undef, undef, undef, undef, undef, undef, undef, undef, undef, undef, undef, undef, undef, undef, undef, undef, undef, undef, undef, undef, undef, undef, undef, undef, undef, undef, undef, undef, undef, undef, undef, undef, undef, undef, undef, undef, undef, undef, undef, undef, undef, undef, undef, undef, undef, undef, undef, undef, undef, undef, undef, undef] (by kernel_rfl) ?_
  have H := H0
  have q1 : decide (0 = ((room : Nat) : Int)) = false := by simp; omega
  refine x_seq ?_
  refine x_region ?_
  refine x_box H #[.int .i64 s, .int .i64 t, .int .i64 k, .int .i64 i, .int .i64 f] 23 (by kernel_rfl) rfl (by kernel_rfl) ?_
  clear H
  intro v1 g1 H
  refine x_box H #[.int .i64 0, .int .i64 0, .int .i64 0, .int .i64 0, .int .i64 0] 23 (by kernel_rfl) rfl (by kernel_rfl) ?_
  clear H
  intro v2 g2 H
  refine x_val (.bool false) (by kernel_rfl) rfl (by kernel_rfl) ?_
  refine x_nil ?_
  refine x_then ?_
  refine x_seq ?_
  refine x_region ?_
  refine x_val (.pointer (some ⟨p, 0, none⟩)) (by kernel_rfl) rfl (by kernel_rfl) ?_
  refine x_val (.pointer (some ⟨p, 0, none⟩)) (by kernel_rfl) rfl (by kernel_rfl) ?_
  refine x_val (.pointer (some ⟨p, 2, none⟩)) (by kernel_rfl) rfl (by kernel_rfl) ?_
  refine x_load1 H 2 p 2 _ _ (.int .i64 nx) rfl (by kernel_rfl) (by kernel_rfl) rfl (by kernel_rfl) ?_
  refine x_val (.pointer (some ⟨g1, 0, none⟩)) (by kernel_rfl) rfl (by kernel_rfl) ?_
  refine x_store (t := 3) (v := .int .i64 nx) H 1 g1 0 _ #[.int .i64 nx, .int .i64 t, .int .i64 k, .int .i64 i, .int .i64 f] 23 [.int .i64 nx] _ rfl rfl (by kernel_rfl) (by kernel_rfl) (by kernel_rfl) rfl (by kernel_rfl) (by kernel_rfl) (by kernel_rfl) (by kernel_rfl) ?_
  clear H
  intro v3 H
  refine x_nil ?_
  refine x_then ?_
  refine x_seq ?_
  refine x_region ?_
  refine x_val (.pointer (some ⟨p, 0, none⟩)) (by kernel_rfl) rfl (by kernel_rfl) ?_
  refine x_val (.pointer (some ⟨p, 0, none⟩)) (by kernel_rfl) rfl (by kernel_rfl) ?_
  refine x_val (.pointer (some ⟨p, 2, none⟩)) (by kernel_rfl) rfl (by kernel_rfl) ?_
  refine x_load1 H 2 p 2 _ _ (.int .i64 nx) rfl (by kernel_rfl) (by kernel_rfl) rfl (by kernel_rfl) ?_
  refine x_ar (nx + 1) ⟨by omega, by omega⟩ (by kernel_rfl) rfl (by kernel_rfl) ?_
  refine x_val (.pointer (some ⟨p, 0, none⟩)) (by kernel_rfl) rfl (by kernel_rfl) ?_
  refine x_val (.pointer (some ⟨p, 2, none⟩)) (by kernel_rfl) rfl (by kernel_rfl) ?_
  refine x_store (t := 3) (v := .int .i64 (nx + 1)) H 2 p 2 _ #[.slice none 0 0, .int .i64 ((room : Nat) : Int), .int .i64 (nx + 1), .bool lo] 98 [.int .i64 (nx + 1)] _ rfl rfl (by kernel_rfl) (by kernel_rfl) (by kernel_rfl) rfl (by kernel_rfl) (by kernel_rfl) (by kernel_rfl) (by kernel_rfl) ?_
  clear H
  intro v4 H
  refine x_nil ?_
  refine x_then ?_
  refine x_seq ?_
  refine x_seq ?_
  refine x_region_whole (fun w' => Hs (fps [.blk p #[.slice none 0 0, .int .i64 ((room : Nat) : Int), .int .i64 nx, .bool lo] 98, .row (.slice none 0 0) 23 5 xs.length (List.flatMap recL xs)]) w0 w' [.blk g2 #[.int .i64 0, .int .i64 0, .int .i64 0, .int .i64 0, .int .i64 0] 23, .blk g1 #[.int .i64 nx, .int .i64 t, .int .i64 k, .int .i64 i, .int .i64 f] 23, .blk p #[.slice none 0 0, .int .i64 ((room : Nat) : Int), .int .i64 (nx + 1), .bool lo] 98, .row (.slice none 0 0) 23 5 xs.length (List.flatMap recL xs)]) (by kernel_rfl) (by kernel_rfl) (by kernel_rfl) H.drew ?_
  refine q_val (.pointer (some ⟨p, 0, none⟩)) (by kernel_rfl) (fun _ => by kernel_rfl) ?_
  refine q_val (.pointer (some ⟨p, 0, none⟩)) (by kernel_rfl) (fun _ => by kernel_rfl) ?_
  refine q_val (.pointer (some ⟨p, 0, none⟩)) (by kernel_rfl) (fun _ => by kernel_rfl) ?_
  refine q_load1 2 p 0 #[.slice none 0 0, .int .i64 ((room : Nat) : Int), .int .i64 (nx + 1), .bool lo] 98 (.slice none 0 0) (by kernel_rfl) (by kernel_rfl) (by kernel_rfl) (fun _ => by kernel_rfl) ?_
  refine q_val (.int .i64 0) (by kernel_rfl) (fun _ => by kernel_rfl) ?_
  refine q_val (.pointer (some ⟨p, 0, none⟩)) (by kernel_rfl) (fun _ => by kernel_rfl) ?_
  refine q_val (.pointer (some ⟨p, 0, none⟩)) (by kernel_rfl) (fun _ => by kernel_rfl) ?_
  refine q_val (.pointer (some ⟨p, 1, none⟩)) (by kernel_rfl) (fun _ => by kernel_rfl) ?_
  refine q_load1 2 p 1 #[.slice none 0 0, .int .i64 ((room : Nat) : Int), .int .i64 (nx + 1), .bool lo] 98 (.int .i64 ((room : Nat) : Int)) (by kernel_rfl) (by kernel_rfl) (by kernel_rfl) (fun _ => by kernel_rfl) ?_
  refine q_val (.bool (decide (0 = ((room : Nat) : Int)))) (by kernel_rfl) (fun _ => by kernel_rfl) ?_
  refine q_nil ?_
  clear H
  intro v5 H
  refine x_then ?_
  rw [q1]
  refine x_f (by kernel_rfl) ?_
  refine x_skipc ?_
  refine x_then ?_
  refine x_seq ?_
  refine x_region_s 11 (fun w' => Hs (fps [.blk p #[.slice none 0 0, .int .i64 ((room : Nat) : Int), .int .i64 nx, .bool lo] 98, .row (.slice none 0 0) 23 5 xs.length (List.flatMap recL xs)]) w0 w' [.blk g2 #[.int .i64 0, .int .i64 0, .int .i64 0, .int .i64 0, .int .i64 0] 23, .blk g1 #[.int .i64 nx, .int .i64 t, .int .i64 k, .int .i64 i, .int .i64 f] 23]) (fun w' => Hs (fps [.blk p #[.slice none 0 0, .int .i64 ((room : Nat) : Int), .int .i64 nx, .bool lo] 98, .row (.slice none 0 0) 23 5 xs.length (List.flatMap recL xs)]) w0 w' [.blk g2 #[.int .i64 0, .int .i64 0, .int .i64 0, .int .i64 0, .int .i64 0] 23, .blk g1 #[.int .i64 nx, .int .i64 t, .int .i64 k, .int .i64 i, .int .i64 f] 23, .blk p #[.slice none 0 0, .int .i64 ((room : Nat) : Int), .int .i64 (nx + 1), .bool lo] 98, .row (.slice none 0 0) 23 5 xs.length (List.flatMap recL xs)]) (by kernel_rfl) (by kernel_rfl) (by kernel_rfl) hsShut (fun _ h => h.pick [0, 1] _ (by decide) (by kernel_rfl)) H.drew ?_
  refine s_quiet 0 rfl (by kernel_rfl) (y_val (.pointer (some ⟨p, 0, none⟩)) (by kernel_rfl) (fun _ => by kernel_rfl)) ?_
  refine s_quiet 1 rfl (by kernel_rfl) (y_val (.pointer (some ⟨p, 0, none⟩)) (by kernel_rfl) (fun _ => by kernel_rfl)) ?_
  refine s_quiet 2 rfl (by kernel_rfl) (y_val (.pointer (some ⟨p, 0, none⟩)) (by kernel_rfl) (fun _ => by kernel_rfl)) ?_
  refine s_quiet 3 rfl (by kernel_rfl) (y_val (.pointer (some ⟨p, 0, none⟩)) (by kernel_rfl) (fun _ => by kernel_rfl)) ?_
  refine s_quiet 5 rfl (by kernel_rfl) (y_loadn (t := 23) 1 g1 0 #[.int .i64 nx, .int .i64 t, .int .i64 k, .int .i64 i, .int .i64 f] 23 [.int .i64 nx, .int .i64 t, .int .i64 k, .int .i64 i, .int .i64 f] (by kernel_rfl) (by kernel_rfl) (by kernel_rfl) (by kernel_rfl) (by kernel_rfl)) ?_
  refine s_two 4 6 rfl rfl (by kernel_rfl) rfl rfl ?_ ?_
  · skip
    clear H
    intro v6 H
    refine x_load1 H 2 p 0 _ _ (.slice none 0 0) rfl (by kernel_rfl) (by kernel_rfl) rfl (by kernel_rfl) ?_
    refine x_nil ?_
    refine x_then ?_
    refine ⟨fun w' => Hs (fps [.blk p #[.slice none 0 0, .int .i64 ((room : Nat) : Int), .int .i64 nx, .bool lo] 98, .row (.slice none 0 0) 23 5 xs.length (List.flatMap recL xs)]) w0 w' [.blk g2 #[.int .i64 0, .int .i64 0, .int .i64 0, .int .i64 0, .int .i64 0] 23, .blk g1 #[.int .i64 nx, .int .i64 t, .int .i64 k, .int .i64 i, .int .i64 f] 23], fun w' => Hs (fps [.blk p #[.slice none 0 0, .int .i64 ((room : Nat) : Int), .int .i64 nx, .bool lo] 98, .row (.slice none 0 0) 23 5 xs.length (List.flatMap recL xs)]) w0 w' [.blk g2 #[.int .i64 0, .int .i64 0, .int .i64 0, .int .i64 0, .int .i64 0] 23, .blk g1 #[.int .i64 nx, .int .i64 t, .int .i64 k, .int .i64 i, .int .i64 f] 23, .blk p #[.slice none 0 0, .int .i64 ((room : Nat) : Int), .int .i64 (nx + 1), .bool lo] 98, .row (.slice none 0 0) 23 5 xs.length (List.flatMap recL xs)], H, hsShut, fun _ h => h.pick [0, 1] _ (by decide) (by kernel_rfl), fun _ h => h.pick [0, 1] _ (by decide) (by kernel_rfl), ?_⟩
    refine s_one 6 rfl (by kernel_rfl) rfl ?_
    clear H
    intro v7 H
    refine x_box' H #[.int .i64 nx, .int .i64 t, .int .i64 k, .int .i64 i, .int .i64 f] 23 1 (by kernel_rfl) rfl (by kernel_rfl) ?_
    clear H
    intro v8 g3 H
    refine x_nil ?_
    refine x_then ?_
    refine ⟨fun w' => Hs (fps [.blk p #[.slice none 0 0, .int .i64 ((room : Nat) : Int), .int .i64 nx, .bool lo] 98, .row (.slice none 0 0) 23 5 xs.length (List.flatMap recL xs)]) w0 w' [.blk g2 #[.int .i64 0, .int .i64 0, .int .i64 0, .int .i64 0, .int .i64 0] 23, .blk g1 #[.int .i64 nx, .int .i64 t, .int .i64 k, .int .i64 i, .int .i64 f] 23], fun w' => Hs (fps [.blk p #[.slice none 0 0, .int .i64 ((room : Nat) : Int), .int .i64 nx, .bool lo] 98, .row (.slice none 0 0) 23 5 xs.length (List.flatMap recL xs)]) w0 w' [.blk g3 #[.int .i64 nx, .int .i64 t, .int .i64 k, .int .i64 i, .int .i64 f] 23, .blk g2 #[.int .i64 0, .int .i64 0, .int .i64 0, .int .i64 0, .int .i64 0] 23, .blk g1 #[.int .i64 nx, .int .i64 t, .int .i64 k, .int .i64 i, .int .i64 f] 23, .blk p #[.slice none 0 0, .int .i64 ((room : Nat) : Int), .int .i64 (nx + 1), .bool lo] 98, .row (.slice none 0 0) 23 5 xs.length (List.flatMap recL xs)], H, hsShut, fun _ h => h.pick [1, 2] _ (by decide) (by kernel_rfl), fun _ h => h.pick [0, 1] _ (by decide) (by kernel_rfl), ?_⟩
    refine s_one 7 rfl (by kernel_rfl) rfl ?_
    clear H
    intro v9 H
    refine x_append H 4 (.slice none 0 0) 96 23 5 40 xs.length (.agg #[.int .i64 0, .int .i64 0, .int .i64 0, .int .i64 0, .int .i64 0]) (List.flatMap recL xs) ⟨g3, 0, none⟩ 1 1 [.int .i64 nx, .int .i64 t, .int .i64 k, .int .i64 i, .int .i64 f] rfl (by kernel_rfl) (by kernel_rfl) rfl (by decide) (by decide) rfl (fun j u hj => by rw [add_none]; exact cellOf (H.blk 0 rfl) (by simpa using hj)) (List.all_eq_true.1 (by kernel_rfl)) (by unfold maxLen; omega) (by omega) (by kernel_rfl) rfl (by kernel_rfl) ?_
    clear H
    intro v10 g4 c4 hc4 H
    rw [show (List.flatMap recL xs) ++ [.int .i64 nx, .int .i64 t, .int .i64 k, .int .i64 i, .int .i64 f] = (List.flatMap recL (xs ++ [(nx, t, k, i, f)])) from (by rw [List.flatMap_append]; rfl)] at H
    replace H : Hs (fps [.blk p #[.slice none 0 0, .int .i64 ((room : Nat) : Int), .int .i64 nx, .bool lo] 98, .row (.slice none 0 0) 23 5 xs.length (List.flatMap recL xs)]) w0 v10 [.blk g3 #[.int .i64 nx, .int .i64 t, .int .i64 k, .int .i64 i, .int .i64 f] 23, .blk g2 #[.int .i64 0, .int .i64 0, .int .i64 0, .int .i64 0, .int .i64 0] 23, .blk g1 #[.int .i64 nx, .int .i64 t, .int .i64 k, .int .i64 i, .int .i64 f] 23, .blk p #[.slice none 0 0, .int .i64 ((room : Nat) : Int), .int .i64 (nx + 1), .bool lo] 98, .row (.slice (some ⟨g4, 0, none⟩) (xs.length + 1) c4) 23 5 (xs.length + 1) (List.flatMap recL (xs ++ [(nx, t, k, i, f)]))] := H
    replace H := H.pick [1, 2, 3, 4] [.blk g2 #[.int .i64 0, .int .i64 0, .int .i64 0, .int .i64 0, .int .i64 0] 23, .blk g1 #[.int .i64 nx, .int .i64 t, .int .i64 k, .int .i64 i, .int .i64 f] 23, .blk p #[.slice none 0 0, .int .i64 ((room : Nat) : Int), .int .i64 (nx + 1), .bool lo] 98, .row (.slice (some ⟨g4, 0, none⟩) (xs.length + 1) c4) 23 5 (xs.length + 1) (List.flatMap recL (xs ++ [(nx, t, k, i, f)]))] (by decide) (by kernel_rfl)
    refine x_nil ?_
    refine x_then ?_
    refine ⟨fun w' => Hs (fps [.blk p #[.slice none 0 0, .int .i64 ((room : Nat) : Int), .int .i64 nx, .bool lo] 98, .row (.slice none 0 0) 23 5 xs.length (List.flatMap recL xs)]) w0 w' [.blk g2 #[.int .i64 0, .int .i64 0, .int .i64 0, .int .i64 0, .int .i64 0] 23, .blk g1 #[.int .i64 nx, .int .i64 t, .int .i64 k, .int .i64 i, .int .i64 f] 23, .row (.slice (some ⟨g4, 0, none⟩) (xs.length + 1) c4) 23 5 (xs.length + 1) (List.flatMap recL (xs ++ [(nx, t, k, i, f)]))], fun w' => Hs (fps [.blk p #[.slice none 0 0, .int .i64 ((room : Nat) : Int), .int .i64 nx, .bool lo] 98, .row (.slice none 0 0) 23 5 xs.length (List.flatMap recL xs)]) w0 w' [.blk g2 #[.int .i64 0, .int .i64 0, .int .i64 0, .int .i64 0, .int .i64 0] 23, .blk g1 #[.int .i64 nx, .int .i64 t, .int .i64 k, .int .i64 i, .int .i64 f] 23, .blk p #[.slice none 0 0, .int .i64 ((room : Nat) : Int), .int .i64 (nx + 1), .bool lo] 98, .row (.slice (some ⟨g4, 0, none⟩) (xs.length + 1) c4) 23 5 (xs.length + 1) (List.flatMap recL (xs ++ [(nx, t, k, i, f)]))], H, hsShut, fun _ h => h.pick [0, 1, 3] _ (by decide) (by kernel_rfl), fun _ h => h.pick [0, 1] _ (by decide) (by kernel_rfl), ?_⟩
    refine s_quiet 8 rfl (by kernel_rfl) (y_val (.pointer (some ⟨p, 0, none⟩)) (by kernel_rfl) (fun _ => by kernel_rfl)) ?_
    refine s_quiet 9 rfl (by kernel_rfl) (y_val (.pointer (some ⟨p, 0, none⟩)) (by kernel_rfl) (fun _ => by kernel_rfl)) ?_
    refine s_one 10 rfl (by kernel_rfl) rfl ?_
    clear H
    intro v11 H
    refine x_store (t := 96) (v := .slice (some ⟨g4, 0, none⟩) (xs.length + 1) c4) H 2 p 0 _ #[.slice (some ⟨g4, 0, none⟩) (xs.length + 1) c4, .int .i64 ((room : Nat) : Int), .int .i64 (nx + 1), .bool lo] 98 [.slice (some ⟨g4, 0, none⟩) (xs.length + 1) c4] _ rfl rfl (by kernel_rfl) (by kernel_rfl) (by kernel_rfl) rfl (by kernel_rfl) (by kernel_rfl) (by kernel_rfl) (by kernel_rfl) ?_
    clear H
    intro v12 H
    refine x_nil ?_
    refine x_then ?_
    refine ⟨fun w' => Hs (fps [.blk p #[.slice none 0 0, .int .i64 ((room : Nat) : Int), .int .i64 nx, .bool lo] 98, .row (.slice none 0 0) 23 5 xs.length (List.flatMap recL xs)]) w0 w' [.blk g2 #[.int .i64 0, .int .i64 0, .int .i64 0, .int .i64 0, .int .i64 0] 23, .blk g1 #[.int .i64 nx, .int .i64 t, .int .i64 k, .int .i64 i, .int .i64 f] 23, .blk p #[.slice (some ⟨g4, 0, none⟩) (xs.length + 1) c4, .int .i64 ((room : Nat) : Int), .int .i64 (nx + 1), .bool lo] 98, .row (.slice (some ⟨g4, 0, none⟩) (xs.length + 1) c4) 23 5 (xs.length + 1) (List.flatMap recL (xs ++ [(nx, t, k, i, f)]))], fun w' => Hs (fps [.blk p #[.slice none 0 0, .int .i64 ((room : Nat) : Int), .int .i64 nx, .bool lo] 98, .row (.slice none 0 0) 23 5 xs.length (List.flatMap recL xs)]) w0 w' [.blk g2 #[.int .i64 0, .int .i64 0, .int .i64 0, .int .i64 0, .int .i64 0] 23, .blk g1 #[.int .i64 nx, .int .i64 t, .int .i64 k, .int .i64 i, .int .i64 f] 23, .blk p #[.slice (some ⟨g4, 0, none⟩) (xs.length + 1) c4, .int .i64 ((room : Nat) : Int), .int .i64 (nx + 1), .bool lo] 98, .row (.slice (some ⟨g4, 0, none⟩) (xs.length + 1) c4) 23 5 (xs.length + 1) (List.flatMap recL (xs ++ [(nx, t, k, i, f)]))], H, hsShut, fun _ h => h.pick [0, 1, 2, 3] _ (by decide) (by kernel_rfl), fun _ h => h.pick [0, 1, 3] _ (by decide) (by kernel_rfl), ?_⟩
    refine s_done (by kernel_rfl) ?_
    clear H
    intro v13 H
    refine x_frame' { tmps := #[.pointer (some ⟨p, 0, none⟩), .agg #[.int .i64 s, .int .i64 t, .int .i64 k, .int .i64 i, .int .i64 f], undef, .pointer (some ⟨g1, 0, none⟩), .pointer (some ⟨g2, 0, none⟩), .bool false, undef, .pointer (some ⟨p, 0, none⟩), .pointer (some ⟨p, 0, none⟩), .pointer (some ⟨p, 2, none⟩), .int .i64 nx, .pointer (some ⟨g1, 0, none⟩), .pointer (some ⟨p, 0, none⟩), .pointer (some ⟨p, 0, none⟩), .pointer (some ⟨p, 2, none⟩), .int .i64 nx, .int .i64 (nx + 1), .pointer (some ⟨p, 0, none⟩), .pointer (some ⟨p, 2, none⟩), .pointer (some ⟨p, 0, none⟩), .pointer (some ⟨p, 0, none⟩), .pointer (some ⟨p, 0, none⟩), .slice none 0 0, .int .i64 0, .pointer (some ⟨p, 0, none⟩), .pointer (some ⟨p, 0, none⟩), .pointer (some ⟨p, 1, none⟩), .int .i64 ((room : Nat) : Int), .bool false, undef, undef, undef, undef, undef, undef, undef, undef, undef, undef, undef, undef, undef, undef, undef, undef, undef, undef, undef, undef, undef, undef, undef, undef, .pointer (some ⟨p, 0, none⟩), .pointer (some ⟨p, 0, none⟩), .pointer (some ⟨p, 0, none⟩), .pointer (some ⟨p, 0, none⟩), .slice none 0 0, .agg #[.int .i64 nx, .int .i64 t, .int .i64 k, .int .i64 i, .int .i64 f], .slice (some ⟨g3, 0, none⟩) 1 1, .slice (some ⟨g4, 0, none⟩) (xs.length + 1) c4, .pointer (some ⟨p, 0, none⟩), .pointer (some ⟨p, 0, none⟩), undef], defers := [] } (by kernel_rfl) ?_
    refine x_then ?_
    refine x_seq ?_
    refine x_region ?_
    refine x_loadn (t := 23) H 1 g1 0 _ _ [.int .i64 nx, .int .i64 t, .int .i64 k, .int .i64 i, .int .i64 f] rfl (by kernel_rfl) (by kernel_rfl) rfl (by kernel_rfl) (by kernel_rfl) ?_
    refine x_store (t := 23) (v := .agg #[.int .i64 nx, .int .i64 t, .int .i64 k, .int .i64 i, .int .i64 f]) H 0 g2 0 _ #[.int .i64 nx, .int .i64 t, .int .i64 k, .int .i64 i, .int .i64 f] 23 [.int .i64 nx, .int .i64 t, .int .i64 k, .int .i64 i, .int .i64 f] [.blk g2 #[.int .i64 nx, .int .i64 t, .int .i64 k, .int .i64 i, .int .i64 f] 23, .blk g1 #[.int .i64 nx, .int .i64 t, .int .i64 k, .int .i64 i, .int .i64 f] 23, .blk p #[.slice (some ⟨g4, 0, none⟩) (xs.length + 1) c4, .int .i64 ((room : Nat) : Int), .int .i64 (nx + 1), .bool lo] 98, .row (.slice (some ⟨g4, 0, none⟩) (xs.length + 1) c4) 23 5 (xs.length + 1) (List.flatMap recL (xs ++ [(nx, t, k, i, f)]))] rfl rfl (by kernel_rfl) (by kernel_rfl) (by kernel_rfl) (by kernel_rfl) (by kernel_rfl) (by kernel_rfl) (by kernel_rfl) (by kernel_rfl) ?_
    clear H
    intro v14 H
    refine x_val (.bool true) (by kernel_rfl) rfl (by kernel_rfl) ?_
    refine x_nil ?_
    refine x_then ?_
    refine x_retc ?_
    refine x_ret (.tuple #[.agg #[.int .i64 nx, .int .i64 t, .int .i64 k, .int .i64 i, .int .i64 f], .bool true]) (by kernel_rfl) (x_rescell H 0 g2 0 #[.int .i64 nx, .int .i64 t, .int .i64 k, .int .i64 i, .int .i64 f] 23 [.int .i64 nx, .int .i64 t, .int .i64 k, .int .i64 i, .int .i64 f] (fun x => .tuple #[x, .bool true]) (by kernel_rfl) (by kernel_rfl) (by kernel_rfl)) ?_
    replace H := H.pick [2, 3] [.blk p #[.slice (some ⟨g4, 0, none⟩) (xs.length + 1) c4, .int .i64 ((room : Nat) : Int), .int .i64 (nx + 1), .bool lo] 98, .row (.slice (some ⟨g4, 0, none⟩) (xs.length + 1) c4) 23 5 (xs.length + 1) (List.flatMap recL (xs ++ [(nx, t, k, i, f)]))] (by decide) (by kernel_rfl)
    exact ⟨_, rfl, H⟩
  · skip
    clear H
    intro v15 H
    refine x_box' H #[.int .i64 nx, .int .i64 t, .int .i64 k, .int .i64 i, .int .i64 f] 23 1 (by kernel_rfl) rfl (by kernel_rfl) ?_
    clear H
    intro v16 g5 H
    refine x_nil ?_
    refine x_then ?_
    refine ⟨fun w' => Hs (fps [.blk p #[.slice none 0 0, .int .i64 ((room : Nat) : Int), .int .i64 nx, .bool lo] 98, .row (.slice none 0 0) 23 5 xs.length (List.flatMap recL xs)]) w0 w' [.blk g2 #[.int .i64 0, .int .i64 0, .int .i64 0, .int .i64 0, .int .i64 0] 23, .blk g1 #[.int .i64 nx, .int .i64 t, .int .i64 k, .int .i64 i, .int .i64 f] 23], fun w' => Hs (fps [.blk p #[.slice none 0 0, .int .i64 ((room : Nat) : Int), .int .i64 nx, .bool lo] 98, .row (.slice none 0 0) 23 5 xs.length (List.flatMap recL xs)]) w0 w' [.blk g5 #[.int .i64 nx, .int .i64 t, .int .i64 k, .int .i64 i, .int .i64 f] 23, .blk g2 #[.int .i64 0, .int .i64 0, .int .i64 0, .int .i64 0, .int .i64 0] 23, .blk g1 #[.int .i64 nx, .int .i64 t, .int .i64 k, .int .i64 i, .int .i64 f] 23, .blk p #[.slice none 0 0, .int .i64 ((room : Nat) : Int), .int .i64 (nx + 1), .bool lo] 98, .row (.slice none 0 0) 23 5 xs.length (List.flatMap recL xs)], H, hsShut, fun _ h => h.pick [1, 2] _ (by decide) (by kernel_rfl), fun _ h => h.pick [0, 1] _ (by decide) (by kernel_rfl), ?_⟩
    refine s_one 4 rfl (by kernel_rfl) rfl ?_
    clear H
    intro v17 H
    refine x_load1 H 3 p 0 _ _ (.slice none 0 0) rfl (by kernel_rfl) (by kernel_rfl) rfl (by kernel_rfl) ?_
    refine x_nil ?_
    refine x_then ?_
    refine ⟨fun w' => Hs (fps [.blk p #[.slice none 0 0, .int .i64 ((room : Nat) : Int), .int .i64 nx, .bool lo] 98, .row (.slice none 0 0) 23 5 xs.length (List.flatMap recL xs)]) w0 w' [.blk g2 #[.int .i64 0, .int .i64 0, .int .i64 0, .int .i64 0, .int .i64 0] 23, .blk g1 #[.int .i64 nx, .int .i64 t, .int .i64 k, .int .i64 i, .int .i64 f] 23], fun w' => Hs (fps [.blk p #[.slice none 0 0, .int .i64 ((room : Nat) : Int), .int .i64 nx, .bool lo] 98, .row (.slice none 0 0) 23 5 xs.length (List.flatMap recL xs)]) w0 w' [.blk g5 #[.int .i64 nx, .int .i64 t, .int .i64 k, .int .i64 i, .int .i64 f] 23, .blk g2 #[.int .i64 0, .int .i64 0, .int .i64 0, .int .i64 0, .int .i64 0] 23, .blk g1 #[.int .i64 nx, .int .i64 t, .int .i64 k, .int .i64 i, .int .i64 f] 23, .blk p #[.slice none 0 0, .int .i64 ((room : Nat) : Int), .int .i64 (nx + 1), .bool lo] 98, .row (.slice none 0 0) 23 5 xs.length (List.flatMap recL xs)], H, hsShut, fun _ h => h.pick [1, 2] _ (by decide) (by kernel_rfl), fun _ h => h.pick [0, 1] _ (by decide) (by kernel_rfl), ?_⟩
    refine s_one 7 rfl (by kernel_rfl) rfl ?_
    clear H
    intro v18 H
    refine x_append H 4 (.slice none 0 0) 96 23 5 40 xs.length (.agg #[.int .i64 0, .int .i64 0, .int .i64 0, .int .i64 0, .int .i64 0]) (List.flatMap recL xs) ⟨g5, 0, none⟩ 1 1 [.int .i64 nx, .int .i64 t, .int .i64 k, .int .i64 i, .int .i64 f] rfl (by kernel_rfl) (by kernel_rfl) rfl (by decide) (by decide) rfl (fun j u hj => by rw [add_none]; exact cellOf (H.blk 0 rfl) (by simpa using hj)) (List.all_eq_true.1 (by kernel_rfl)) (by unfold maxLen; omega) (by omega) (by kernel_rfl) rfl (by kernel_rfl) ?_
    clear H
    intro v19 g6 c6 hc6 H
    rw [show (List.flatMap recL xs) ++ [.int .i64 nx, .int .i64 t, .int .i64 k, .int .i64 i, .int .i64 f] = (List.flatMap recL (xs ++ [(nx, t, k, i, f)])) from (by rw [List.flatMap_append]; rfl)] at H
    replace H : Hs (fps [.blk p #[.slice none 0 0, .int .i64 ((room : Nat) : Int), .int .i64 nx, .bool lo] 98, .row (.slice none 0 0) 23 5 xs.length (List.flatMap recL xs)]) w0 v19 [.blk g5 #[.int .i64 nx, .int .i64 t, .int .i64 k, .int .i64 i, .int .i64 f] 23, .blk g2 #[.int .i64 0, .int .i64 0, .int .i64 0, .int .i64 0, .int .i64 0] 23, .blk g1 #[.int .i64 nx, .int .i64 t, .int .i64 k, .int .i64 i, .int .i64 f] 23, .blk p #[.slice none 0 0, .int .i64 ((room : Nat) : Int), .int .i64 (nx + 1), .bool lo] 98, .row (.slice (some ⟨g6, 0, none⟩) (xs.length + 1) c6) 23 5 (xs.length + 1) (List.flatMap recL (xs ++ [(nx, t, k, i, f)]))] := H
    replace H := H.pick [1, 2, 3, 4] [.blk g2 #[.int .i64 0, .int .i64 0, .int .i64 0, .int .i64 0, .int .i64 0] 23, .blk g1 #[.int .i64 nx, .int .i64 t, .int .i64 k, .int .i64 i, .int .i64 f] 23, .blk p #[.slice none 0 0, .int .i64 ((room : Nat) : Int), .int .i64 (nx + 1), .bool lo] 98, .row (.slice (some ⟨g6, 0, none⟩) (xs.length + 1) c6) 23 5 (xs.length + 1) (List.flatMap recL (xs ++ [(nx, t, k, i, f)]))] (by decide) (by kernel_rfl)
    refine x_nil ?_
    refine x_then ?_
    refine ⟨fun w' => Hs (fps [.blk p #[.slice none 0 0, .int .i64 ((room : Nat) : Int), .int .i64 nx, .bool lo] 98, .row (.slice none 0 0) 23 5 xs.length (List.flatMap recL xs)]) w0 w' [.blk g2 #[.int .i64 0, .int .i64 0, .int .i64 0, .int .i64 0, .int .i64 0] 23, .blk g1 #[.int .i64 nx, .int .i64 t, .int .i64 k, .int .i64 i, .int .i64 f] 23], fun w' => Hs (fps [.blk p #[.slice none 0 0, .int .i64 ((room : Nat) : Int), .int .i64 nx, .bool lo] 98, .row (.slice none 0 0) 23 5 xs.length (List.flatMap recL xs)]) w0 w' [.blk g2 #[.int .i64 0, .int .i64 0, .int .i64 0, .int .i64 0, .int .i64 0] 23, .blk g1 #[.int .i64 nx, .int .i64 t, .int .i64 k, .int .i64 i, .int .i64 f] 23, .blk p #[.slice none 0 0, .int .i64 ((room : Nat) : Int), .int .i64 (nx + 1), .bool lo] 98, .row (.slice (some ⟨g6, 0, none⟩) (xs.length + 1) c6) 23 5 (xs.length + 1) (List.flatMap recL (xs ++ [(nx, t, k, i, f)]))], H, hsShut, fun _ h => h.pick [0, 1] _ (by decide) (by kernel_rfl), fun _ h => h.pick [0, 1] _ (by decide) (by kernel_rfl), ?_⟩
    refine s_quiet 8 rfl (by kernel_rfl) (y_val (.pointer (some ⟨p, 0, none⟩)) (by kernel_rfl) (fun _ => by kernel_rfl)) ?_
    refine s_quiet 9 rfl (by kernel_rfl) (y_val (.pointer (some ⟨p, 0, none⟩)) (by kernel_rfl) (fun _ => by kernel_rfl)) ?_
    refine s_one 10 rfl (by kernel_rfl) rfl ?_
    clear H
    intro v20 H
    refine x_store (t := 96) (v := .slice (some ⟨g6, 0, none⟩) (xs.length + 1) c6) H 2 p 0 _ #[.slice (some ⟨g6, 0, none⟩) (xs.length + 1) c6, .int .i64 ((room : Nat) : Int), .int .i64 (nx + 1), .bool lo] 98 [.slice (some ⟨g6, 0, none⟩) (xs.length + 1) c6] _ rfl rfl (by kernel_rfl) (by kernel_rfl) (by kernel_rfl) rfl (by kernel_rfl) (by kernel_rfl) (by kernel_rfl) (by kernel_rfl) ?_
    clear H
    intro v21 H
    refine x_nil ?_
    refine x_then ?_
    refine ⟨fun w' => Hs (fps [.blk p #[.slice none 0 0, .int .i64 ((room : Nat) : Int), .int .i64 nx, .bool lo] 98, .row (.slice none 0 0) 23 5 xs.length (List.flatMap recL xs)]) w0 w' [.blk g2 #[.int .i64 0, .int .i64 0, .int .i64 0, .int .i64 0, .int .i64 0] 23, .blk g1 #[.int .i64 nx, .int .i64 t, .int .i64 k, .int .i64 i, .int .i64 f] 23], fun w' => Hs (fps [.blk p #[.slice none 0 0, .int .i64 ((room : Nat) : Int), .int .i64 nx, .bool lo] 98, .row (.slice none 0 0) 23 5 xs.length (List.flatMap recL xs)]) w0 w' [.blk g2 #[.int .i64 0, .int .i64 0, .int .i64 0, .int .i64 0, .int .i64 0] 23, .blk g1 #[.int .i64 nx, .int .i64 t, .int .i64 k, .int .i64 i, .int .i64 f] 23, .blk p #[.slice (some ⟨g6, 0, none⟩) (xs.length + 1) c6, .int .i64 ((room : Nat) : Int), .int .i64 (nx + 1), .bool lo] 98, .row (.slice (some ⟨g6, 0, none⟩) (xs.length + 1) c6) 23 5 (xs.length + 1) (List.flatMap recL (xs ++ [(nx, t, k, i, f)]))], H, hsShut, fun _ h => h.pick [0, 1] _ (by decide) (by kernel_rfl), fun _ h => h.pick [0, 1] _ (by decide) (by kernel_rfl), ?_⟩
    refine s_done (by kernel_rfl) ?_
    clear H
    intro v22 H
    refine x_frame' { tmps := #[.pointer (some ⟨p, 0, none⟩), .agg #[.int .i64 s, .int .i64 t, .int .i64 k, .int .i64 i, .int .i64 f], undef, .pointer (some ⟨g1, 0, none⟩), .pointer (some ⟨g2, 0, none⟩), .bool false, undef, .pointer (some ⟨p, 0, none⟩), .pointer (some ⟨p, 0, none⟩), .pointer (some ⟨p, 2, none⟩), .int .i64 nx, .pointer (some ⟨g1, 0, none⟩), .pointer (some ⟨p, 0, none⟩), .pointer (some ⟨p, 0, none⟩), .pointer (some ⟨p, 2, none⟩), .int .i64 nx, .int .i64 (nx + 1), .pointer (some ⟨p, 0, none⟩), .pointer (some ⟨p, 2, none⟩), .pointer (some ⟨p, 0, none⟩), .pointer (some ⟨p, 0, none⟩), .pointer (some ⟨p, 0, none⟩), .slice none 0 0, .int .i64 0, .pointer (some ⟨p, 0, none⟩), .pointer (some ⟨p, 0, none⟩), .pointer (some ⟨p, 1, none⟩), .int .i64 ((room : Nat) : Int), .bool false, undef, undef, undef, undef, undef, undef, undef, undef, undef, undef, undef, undef, undef, undef, undef, undef, undef, undef, undef, undef, undef, undef, undef, undef, .pointer (some ⟨p, 0, none⟩), .pointer (some ⟨p, 0, none⟩), .pointer (some ⟨p, 0, none⟩), .pointer (some ⟨p, 0, none⟩), .slice none 0 0, .agg #[.int .i64 nx, .int .i64 t, .int .i64 k, .int .i64 i, .int .i64 f], .slice (some ⟨g5, 0, none⟩) 1 1, .slice (some ⟨g6, 0, none⟩) (xs.length + 1) c6, .pointer (some ⟨p, 0, none⟩), .pointer (some ⟨p, 0, none⟩), undef], defers := [] } (by kernel_rfl) ?_
    refine x_then ?_
    refine x_seq ?_
    refine x_region ?_
    refine x_loadn (t := 23) H 1 g1 0 _ _ [.int .i64 nx, .int .i64 t, .int .i64 k, .int .i64 i, .int .i64 f] rfl (by kernel_rfl) (by kernel_rfl) rfl (by kernel_rfl) (by kernel_rfl) ?_
    refine x_store (t := 23) (v := .agg #[.int .i64 nx, .int .i64 t, .int .i64 k, .int .i64 i, .int .i64 f]) H 0 g2 0 _ #[.int .i64 nx, .int .i64 t, .int .i64 k, .int .i64 i, .int .i64 f] 23 [.int .i64 nx, .int .i64 t, .int .i64 k, .int .i64 i, .int .i64 f] _ rfl rfl (by kernel_rfl) (by kernel_rfl) (by kernel_rfl) rfl (by kernel_rfl) (by kernel_rfl) (by kernel_rfl) (by kernel_rfl) ?_
    clear H
    intro v23 H
    refine x_val (.bool true) (by kernel_rfl) rfl (by kernel_rfl) ?_
    refine x_nil ?_
    refine x_then ?_
    refine x_retc ?_
    refine x_ret (.tuple #[.agg #[.int .i64 nx, .int .i64 t, .int .i64 k, .int .i64 i, .int .i64 f], .bool true]) (by kernel_rfl) (x_rescell H 0 g2 0 #[.int .i64 nx, .int .i64 t, .int .i64 k, .int .i64 i, .int .i64 f] 23 [.int .i64 nx, .int .i64 t, .int .i64 k, .int .i64 i, .int .i64 f] (fun x => .tuple #[x, .bool true]) (by kernel_rfl) (by kernel_rfl) (by kernel_rfl)) ?_
    replace H := H.pick [2, 3] [.blk p #[.slice (some ⟨g6, 0, none⟩) (xs.length + 1) c6, .int .i64 ((room : Nat) : Int), .int .i64 (nx + 1), .bool lo] 98, .row (.slice (some ⟨g6, 0, none⟩) (xs.length + 1) c6) 23 5 (xs.length + 1) (List.flatMap recL (xs ++ [(nx, t, k, i, f)]))] (by decide) (by kernel_rfl)
    exact ⟨_, rfl, H⟩

set_option maxRecDepth 100000 in
set_option maxHeartbeats 2000000 in
theorem Add_room_s {p : Nat} {xs : List Rec} {room : Nat} {nx : Int} {lo : Bool} {g cap : Nat} (s t k i f : Int) (hn : xs.length < room) (hr : room ≤ 4096) (hx : -1000 ≤ nx ∧ nx ≤ 9223372036854770000) (w0 : World) (H0 : Hs (fps [.blk p #[.slice (some ⟨g, 0, none⟩) xs.length cap, .int .i64 ((room : Nat) : Int), .int .i64 nx, .bool lo] 98, .row (.slice (some ⟨g, 0, none⟩) xs.length cap) 23 5 xs.length (List.flatMap recL xs)]) w0 w0 [.blk p #[.slice (some ⟨g, 0, none⟩) xs.length cap, .int .i64 ((room : Nat) : Int), .int .i64 nx, .bool lo] 98, .row (.slice (some ⟨g, 0, none⟩) xs.length cap) 23 5 xs.length (List.flatMap recL xs)]) :
    Calls Tryd.prog 23 #[.pointer (some ⟨p, 0, none⟩), .agg #[.int .i64 s, .int .i64 t, .int .i64 k, .int .i64 i, .int .i64 f]] w0 fun e w' => ∃ sv', e = .returned (.tuple #[.agg #[.int .i64 nx, .int .i64 t, .int .i64 k, .int .i64 i, .int .i64 f], .bool true]) ∧ Hs (fps [.blk p #[.slice (some ⟨g, 0, none⟩) xs.length cap, .int .i64 ((room : Nat) : Int), .int .i64 nx, .bool lo] 98, .row (.slice (some ⟨g, 0, none⟩) xs.length cap) 23 5 xs.length (List.flatMap recL xs)]) w0 w' [.blk p #[sv', .int .i64 ((room : Nat) : Int), .int .i64 (nx + 1), .bool lo] 98, .row (sv') 23 5 (xs.length + 1) (List.flatMap recL (xs ++ [(nx, t, k, i, f)]))] := by
  refine x_enter Tryd.func23 rfl #[.pointer (some ⟨p, 0, none⟩), .agg #[.int .i64 s, .int .i64 t, .int .i64 k, .int .i64 i, .int .i64 f], undef, undef, undef, undef, undef, undef, undef, undef, undef, undef, undef, undef, undef, undef, undef, undef, undef, undef, undef, undef, undef, undef, undef, undef, undef, undef, undef, undef, undef, undef, undef, undef, undef, undef, undef, undef, undef, undef, undef, undef, undef, undef, undef, undef, undef, undef, undef, undef, undef, undef, undef, undef, undef, undef, undef, undef, undef, undef, undef, undef, undef, undef] (by kernel_rfl) ?_
  have H := H0
  have q1 : decide (((xs.length : Nat) : Int) = ((room : Nat) : Int)) = false := by simp; omega
  refine x_seq ?_
  refine x_region ?_
  refine x_box H #[.int .i64 s, .int .i64 t, .int .i64 k, .int .i64 i, .int .i64 f] 23 (by kernel_rfl) rfl (by kernel_rfl) ?_
  clear H
  intro v1 g1 H
  refine x_box H #[.int .i64 0, .int .i64 0, .int .i64 0, .int .i64 0, .int .i64 0] 23 (by kernel_rfl) rfl (by kernel_rfl) ?_
  clear H
  intro v2 g2 H
  refine x_val (.bool false) (by kernel_rfl) rfl (by kernel_rfl) ?_
  refine x_nil ?_
  refine x_then ?_
  refine x_seq ?_
  refine x_region ?_
  refine x_val (.pointer (some ⟨p, 0, none⟩)) (by kernel_rfl) rfl (by kernel_rfl) ?_
  refine x_val (.pointer (some ⟨p, 0, none⟩)) (by kernel_rfl) rfl (by kernel_rfl) ?_
  refine x_val (.pointer (some ⟨p, 2, none⟩)) (by kernel_rfl) rfl (by kernel_rfl) ?_
  refine x_load1 H 2 p 2 _ _ (.int .i64 nx) rfl (by kernel_rfl) (by kernel_rfl) rfl (by kernel_rfl) ?_
  refine x_val (.pointer (some ⟨g1, 0, none⟩)) (by kernel_rfl) rfl (by kernel_rfl) ?_
  refine x_store (t := 3) (v := .int .i64 nx) H 1 g1 0 _ #[.int .i64 nx, .int .i64 t, .int .i64 k, .int .i64 i, .int .i64 f] 23 [.int .i64 nx] _ rfl rfl (by kernel_rfl) (by kernel_rfl) (by kernel_rfl) rfl (by kernel_rfl) (by kernel_rfl) (by kernel_rfl) (by kernel_rfl) ?_
  clear H
  intro v3 H
  refine x_nil ?_
  refine x_then ?_
  refine x_seq ?_
  refine x_region ?_
  refine x_val (.pointer (some ⟨p, 0, none⟩)) (by kernel_rfl) rfl (by kernel_rfl) ?_
  refine x_val (.pointer (some ⟨p, 0, none⟩)) (by kernel_rfl) rfl (by kernel_rfl) ?_
  refine x_val (.pointer (some ⟨p, 2, none⟩)) (by kernel_rfl) rfl (by kernel_rfl) ?_
  refine x_load1 H 2 p 2 _ _ (.int .i64 nx) rfl (by kernel_rfl) (by kernel_rfl) rfl (by kernel_rfl) ?_
  refine x_ar (nx + 1) ⟨by omega, by omega⟩ (by kernel_rfl) rfl (by kernel_rfl) ?_
  refine x_val (.pointer (some ⟨p, 0, none⟩)) (by kernel_rfl) rfl (by kernel_rfl) ?_
  refine x_val (.pointer (some ⟨p, 2, none⟩)) (by kernel_rfl) rfl (by kernel_rfl) ?_
  refine x_store (t := 3) (v := .int .i64 (nx + 1)) H 2 p 2 _ #[.slice (some ⟨g, 0, none⟩) xs.length cap, .int .i64 ((room : Nat) : Int), .int .i64 (nx + 1), .bool lo] 98 [.int .i64 (nx + 1)] _ rfl rfl (by kernel_rfl) (by kernel_rfl) (by kernel_rfl) rfl (by kernel_rfl) (by kernel_rfl) (by kernel_rfl) (by kernel_rfl) ?_
  clear H
  intro v4 H
  refine x_nil ?_
  refine x_then ?_
  refine x_seq ?_
  refine x_seq ?_
  refine x_region_whole (fun w' => Hs (fps [.blk p #[.slice (some ⟨g, 0, none⟩) xs.length cap, .int .i64 ((room : Nat) : Int), .int .i64 nx, .bool lo] 98, .row (.slice (some ⟨g, 0, none⟩) xs.length cap) 23 5 xs.length (List.flatMap recL xs)]) w0 w' [.blk g2 #[.int .i64 0, .int .i64 0, .int .i64 0, .int .i64 0, .int .i64 0] 23, .blk g1 #[.int .i64 nx, .int .i64 t, .int .i64 k, .int .i64 i, .int .i64 f] 23, .blk p #[.slice (some ⟨g, 0, none⟩) xs.length cap, .int .i64 ((room : Nat) : Int), .int .i64 (nx + 1), .bool lo] 98, .row (.slice (some ⟨g, 0, none⟩) xs.length cap) 23 5 xs.length (List.flatMap recL xs)]) (by kernel_rfl) (by kernel_rfl) (by kernel_rfl) H.drew ?_
  refine q_val (.pointer (some ⟨p, 0, none⟩)) (by kernel_rfl) (fun _ => by kernel_rfl) ?_
  refine q_val (.pointer (some ⟨p, 0, none⟩)) (by kernel_rfl) (fun _ => by kernel_rfl) ?_
  refine q_val (.pointer (some ⟨p, 0, none⟩)) (by kernel_rfl) (fun _ => by kernel_rfl) ?_
  refine q_load1 2 p 0 #[.slice (some ⟨g, 0, none⟩) xs.length cap, .int .i64 ((room : Nat) : Int), .int .i64 (nx + 1), .bool lo] 98 (.slice (some ⟨g, 0, none⟩) xs.length cap) (by kernel_rfl) (by kernel_rfl) (by kernel_rfl) (fun _ => by kernel_rfl) ?_
  refine q_val (.int .i64 ((xs.length : Nat) : Int)) (by kernel_rfl) (fun _ => by kernel_rfl) ?_
  refine q_val (.pointer (some ⟨p, 0, none⟩)) (by kernel_rfl) (fun _ => by kernel_rfl) ?_
  refine q_val (.pointer (some ⟨p, 0, none⟩)) (by kernel_rfl) (fun _ => by kernel_rfl) ?_
  refine q_val (.pointer (some ⟨p, 1, none⟩)) (by kernel_rfl) (fun _ => by kernel_rfl) ?_
  refine q_load1 2 p 1 #[.slice (some ⟨g, 0, none⟩) xs.length cap, .int .i64 ((room : Nat) : Int), .int .i64 (nx + 1), .bool lo] 98 (.int .i64 ((room : Nat) : Int)) (by kernel_rfl) (by kernel_rfl) (by kernel_rfl) (fun _ => by kernel_rfl) ?_
  refine q_val (.bool (decide (((xs.length : Nat) : Int) = ((room : Nat) : Int)))) (by kernel_rfl) (fun _ => by kernel_rfl) ?_
  refine q_nil ?_
  clear H
  intro v5 H
  refine x_then ?_
  rw [q1]
  refine x_f (by kernel_rfl) ?_
  refine x_skipc ?_
  refine x_then ?_
  refine x_seq ?_
  refine x_region_s 11 (fun w' => Hs (fps [.blk p #[.slice (some ⟨g, 0, none⟩) xs.length cap, .int .i64 ((room : Nat) : Int), .int .i64 nx, .bool lo] 98, .row (.slice (some ⟨g, 0, none⟩) xs.length cap) 23 5 xs.length (List.flatMap recL xs)]) w0 w' [.blk g2 #[.int .i64 0, .int .i64 0, .int .i64 0, .int .i64 0, .int .i64 0] 23, .blk g1 #[.int .i64 nx, .int .i64 t, .int .i64 k, .int .i64 i, .int .i64 f] 23]) (fun w' => Hs (fps [.blk p #[.slice (some ⟨g, 0, none⟩) xs.length cap, .int .i64 ((room : Nat) : Int), .int .i64 nx, .bool lo] 98, .row (.slice (some ⟨g, 0, none⟩) xs.length cap) 23 5 xs.length (List.flatMap recL xs)]) w0 w' [.blk g2 #[.int .i64 0, .int .i64 0, .int .i64 0, .int .i64 0, .int .i64 0] 23, .blk g1 #[.int .i64 nx, .int .i64 t, .int .i64 k, .int .i64 i, .int .i64 f] 23, .blk p #[.slice (some ⟨g, 0, none⟩) xs.length cap, .int .i64 ((room : Nat) : Int), .int .i64 (nx + 1), .bool lo] 98, .row (.slice (some ⟨g, 0, none⟩) xs.length cap) 23 5 xs.length (List.flatMap recL xs)]) (by kernel_rfl) (by kernel_rfl) (by kernel_rfl) hsShut (fun _ h => h.pick [0, 1] _ (by decide) (by kernel_rfl)) H.drew ?_
  refine s_quiet 0 rfl (by kernel_rfl) (y_val (.pointer (some ⟨p, 0, none⟩)) (by kernel_rfl) (fun _ => by kernel_rfl)) ?_
  refine s_quiet 1 rfl (by kernel_rfl) (y_val (.pointer (some ⟨p, 0, none⟩)) (by kernel_rfl) (fun _ => by kernel_rfl)) ?_
  refine s_quiet 2 rfl (by kernel_rfl) (y_val (.pointer (some ⟨p, 0, none⟩)) (by kernel_rfl) (fun _ => by kernel_rfl)) ?_
  refine s_quiet 3 rfl (by kernel_rfl) (y_val (.pointer (some ⟨p, 0, none⟩)) (by kernel_rfl) (fun _ => by kernel_rfl)) ?_
  refine s_quiet 5 rfl (by kernel_rfl) (y_loadn (t := 23) 1 g1 0 #[.int .i64 nx, .int .i64 t, .int .i64 k, .int .i64 i, .int .i64 f] 23 [.int .i64 nx, .int .i64 t, .int .i64 k, .int .i64 i, .int .i64 f] (by kernel_rfl) (by kernel_rfl) (by kernel_rfl) (by kernel_rfl) (by kernel_rfl)) ?_
  refine s_two 4 6 rfl rfl (by kernel_rfl) rfl rfl ?_ ?_
  · skip
    clear H
    intro v6 H
    refine x_load1 H 2 p 0 _ _ (.slice (some ⟨g, 0, none⟩) xs.length cap) rfl (by kernel_rfl) (by kernel_rfl) rfl (by kernel_rfl) ?_
    refine x_nil ?_
    refine x_then ?_
    refine ⟨fun w' => Hs (fps [.blk p #[.slice (some ⟨g, 0, none⟩) xs.length cap, .int .i64 ((room : Nat) : Int), .int .i64 nx, .bool lo] 98, .row (.slice (some ⟨g, 0, none⟩) xs.length cap) 23 5 xs.length (List.flatMap recL xs)]) w0 w' [.blk g2 #[.int .i64 0, .int .i64 0, .int .i64 0, .int .i64 0, .int .i64 0] 23, .blk g1 #[.int .i64 nx, .int .i64 t, .int .i64 k, .int .i64 i, .int .i64 f] 23], fun w' => Hs (fps [.blk p #[.slice (some ⟨g, 0, none⟩) xs.length cap, .int .i64 ((room : Nat) : Int), .int .i64 nx, .bool lo] 98, .row (.slice (some ⟨g, 0, none⟩) xs.length cap) 23 5 xs.length (List.flatMap recL xs)]) w0 w' [.blk g2 #[.int .i64 0, .int .i64 0, .int .i64 0, .int .i64 0, .int .i64 0] 23, .blk g1 #[.int .i64 nx, .int .i64 t, .int .i64 k, .int .i64 i, .int .i64 f] 23, .blk p #[.slice (some ⟨g, 0, none⟩) xs.length cap, .int .i64 ((room : Nat) : Int), .int .i64 (nx + 1), .bool lo] 98, .row (.slice (some ⟨g, 0, none⟩) xs.length cap) 23 5 xs.length (List.flatMap recL xs)], H, hsShut, fun _ h => h.pick [0, 1] _ (by decide) (by kernel_rfl), fun _ h => h.pick [0, 1] _ (by decide) (by kernel_rfl), ?_⟩
    refine s_one 6 rfl (by kernel_rfl) rfl ?_
    clear H
    intro v7 H
    refine x_box' H #[.int .i64 nx, .int .i64 t, .int .i64 k, .int .i64 i, .int .i64 f] 23 1 (by kernel_rfl) rfl (by kernel_rfl) ?_
    clear H
    intro v8 g3 H
    refine x_nil ?_
    refine x_then ?_
    refine ⟨fun w' => Hs (fps [.blk p #[.slice (some ⟨g, 0, none⟩) xs.length cap, .int .i64 ((room : Nat) : Int), .int .i64 nx, .bool lo] 98, .row (.slice (some ⟨g, 0, none⟩) xs.length cap) 23 5 xs.length (List.flatMap recL xs)]) w0 w' [.blk g2 #[.int .i64 0, .int .i64 0, .int .i64 0, .int .i64 0, .int .i64 0] 23, .blk g1 #[.int .i64 nx, .int .i64 t, .int .i64 k, .int .i64 i, .int .i64 f] 23], fun w' => Hs (fps [.blk p #[.slice (some ⟨g, 0, none⟩) xs.length cap, .int .i64 ((room : Nat) : Int), .int .i64 nx, .bool lo] 98, .row (.slice (some ⟨g, 0, none⟩) xs.length cap) 23 5 xs.length (List.flatMap recL xs)]) w0 w' [.blk g3 #[.int .i64 nx, .int .i64 t, .int .i64 k, .int .i64 i, .int .i64 f] 23, .blk g2 #[.int .i64 0, .int .i64 0, .int .i64 0, .int .i64 0, .int .i64 0] 23, .blk g1 #[.int .i64 nx, .int .i64 t, .int .i64 k, .int .i64 i, .int .i64 f] 23, .blk p #[.slice (some ⟨g, 0, none⟩) xs.length cap, .int .i64 ((room : Nat) : Int), .int .i64 (nx + 1), .bool lo] 98, .row (.slice (some ⟨g, 0, none⟩) xs.length cap) 23 5 xs.length (List.flatMap recL xs)], H, hsShut, fun _ h => h.pick [1, 2] _ (by decide) (by kernel_rfl), fun _ h => h.pick [0, 1] _ (by decide) (by kernel_rfl), ?_⟩
    refine s_one 7 rfl (by kernel_rfl) rfl ?_
    clear H
    intro v9 H
    refine x_append H 4 (.slice (some ⟨g, 0, none⟩) xs.length cap) 96 23 5 40 xs.length (.agg #[.int .i64 0, .int .i64 0, .int .i64 0, .int .i64 0, .int .i64 0]) (List.flatMap recL xs) ⟨g3, 0, none⟩ 1 1 [.int .i64 nx, .int .i64 t, .int .i64 k, .int .i64 i, .int .i64 f] rfl (by kernel_rfl) (by kernel_rfl) rfl (by decide) (by decide) rfl (fun j u hj => by rw [add_none]; exact cellOf (H.blk 0 rfl) (by simpa using hj)) (List.all_eq_true.1 (by kernel_rfl)) (by unfold maxLen; omega) (by omega) (by kernel_rfl) rfl (by kernel_rfl) ?_
    clear H
    intro v10 g4 c4 hc4 H
    rw [show (List.flatMap recL xs) ++ [.int .i64 nx, .int .i64 t, .int .i64 k, .int .i64 i, .int .i64 f] = (List.flatMap recL (xs ++ [(nx, t, k, i, f)])) from (by rw [List.flatMap_append]; rfl)] at H
    replace H : Hs (fps [.blk p #[.slice (some ⟨g, 0, none⟩) xs.length cap, .int .i64 ((room : Nat) : Int), .int .i64 nx, .bool lo] 98, .row (.slice (some ⟨g, 0, none⟩) xs.length cap) 23 5 xs.length (List.flatMap recL xs)]) w0 v10 [.blk g3 #[.int .i64 nx, .int .i64 t, .int .i64 k, .int .i64 i, .int .i64 f] 23, .blk g2 #[.int .i64 0, .int .i64 0, .int .i64 0, .int .i64 0, .int .i64 0] 23, .blk g1 #[.int .i64 nx, .int .i64 t, .int .i64 k, .int .i64 i, .int .i64 f] 23, .blk p #[.slice (some ⟨g, 0, none⟩) xs.length cap, .int .i64 ((room : Nat) : Int), .int .i64 (nx + 1), .bool lo] 98, .row (.slice (some ⟨g4, 0, none⟩) (xs.length + 1) c4) 23 5 (xs.length + 1) (List.flatMap recL (xs ++ [(nx, t, k, i, f)]))] := H
    replace H := H.pick [1, 2, 3, 4] [.blk g2 #[.int .i64 0, .int .i64 0, .int .i64 0, .int .i64 0, .int .i64 0] 23, .blk g1 #[.int .i64 nx, .int .i64 t, .int .i64 k, .int .i64 i, .int .i64 f] 23, .blk p #[.slice (some ⟨g, 0, none⟩) xs.length cap, .int .i64 ((room : Nat) : Int), .int .i64 (nx + 1), .bool lo] 98, .row (.slice (some ⟨g4, 0, none⟩) (xs.length + 1) c4) 23 5 (xs.length + 1) (List.flatMap recL (xs ++ [(nx, t, k, i, f)]))] (by decide) (by kernel_rfl)
    refine x_nil ?_
    refine x_then ?_
    refine ⟨fun w' => Hs (fps [.blk p #[.slice (some ⟨g, 0, none⟩) xs.length cap, .int .i64 ((room : Nat) : Int), .int .i64 nx, .bool lo] 98, .row (.slice (some ⟨g, 0, none⟩) xs.length cap) 23 5 xs.length (List.flatMap recL xs)]) w0 w' [.blk g2 #[.int .i64 0, .int .i64 0, .int .i64 0, .int .i64 0, .int .i64 0] 23, .blk g1 #[.int .i64 nx, .int .i64 t, .int .i64 k, .int .i64 i, .int .i64 f] 23, .row (.slice (some ⟨g4, 0, none⟩) (xs.length + 1) c4) 23 5 (xs.length + 1) (List.flatMap recL (xs ++ [(nx, t, k, i, f)]))], fun w' => Hs (fps [.blk p #[.slice (some ⟨g, 0, none⟩) xs.length cap, .int .i64 ((room : Nat) : Int), .int .i64 nx, .bool lo] 98, .row (.slice (some ⟨g, 0, none⟩) xs.length cap) 23 5 xs.length (List.flatMap recL xs)]) w0 w' [.blk g2 #[.int .i64 0, .int .i64 0, .int .i64 0, .int .i64 0, .int .i64 0] 23, .blk g1 #[.int .i64 nx, .int .i64 t, .int .i64 k, .int .i64 i, .int .i64 f] 23, .blk p #[.slice (some ⟨g, 0, none⟩) xs.length cap, .int .i64 ((room : Nat) : Int), .int .i64 (nx + 1), .bool lo] 98, .row (.slice (some ⟨g4, 0, none⟩) (xs.length + 1) c4) 23 5 (xs.length + 1) (List.flatMap recL (xs ++ [(nx, t, k, i, f)]))], H, hsShut, fun _ h => h.pick [0, 1, 3] _ (by decide) (by kernel_rfl), fun _ h => h.pick [0, 1] _ (by decide) (by kernel_rfl), ?_⟩
    refine s_quiet 8 rfl (by kernel_rfl) (y_val (.pointer (some ⟨p, 0, none⟩)) (by kernel_rfl) (fun _ => by kernel_rfl)) ?_
    refine s_quiet 9 rfl (by kernel_rfl) (y_val (.pointer (some ⟨p, 0, none⟩)) (by kernel_rfl) (fun _ => by kernel_rfl)) ?_
    refine s_one 10 rfl (by kernel_rfl) rfl ?_
    clear H
    intro v11 H
    refine x_store (t := 96) (v := .slice (some ⟨g4, 0, none⟩) (xs.length + 1) c4) H 2 p 0 _ #[.slice (some ⟨g4, 0, none⟩) (xs.length + 1) c4, .int .i64 ((room : Nat) : Int), .int .i64 (nx + 1), .bool lo] 98 [.slice (some ⟨g4, 0, none⟩) (xs.length + 1) c4] _ rfl rfl (by kernel_rfl) (by kernel_rfl) (by kernel_rfl) rfl (by kernel_rfl) (by kernel_rfl) (by kernel_rfl) (by kernel_rfl) ?_
    clear H
    intro v12 H
    refine x_nil ?_
    refine x_then ?_
    refine ⟨fun w' => Hs (fps [.blk p #[.slice (some ⟨g, 0, none⟩) xs.length cap, .int .i64 ((room : Nat) : Int), .int .i64 nx, .bool lo] 98, .row (.slice (some ⟨g, 0, none⟩) xs.length cap) 23 5 xs.length (List.flatMap recL xs)]) w0 w' [.blk g2 #[.int .i64 0, .int .i64 0, .int .i64 0, .int .i64 0, .int .i64 0] 23, .blk g1 #[.int .i64 nx, .int .i64 t, .int .i64 k, .int .i64 i, .int .i64 f] 23, .blk p #[.slice (some ⟨g4, 0, none⟩) (xs.length + 1) c4, .int .i64 ((room : Nat) : Int), .int .i64 (nx + 1), .bool lo] 98, .row (.slice (some ⟨g4, 0, none⟩) (xs.length + 1) c4) 23 5 (xs.length + 1) (List.flatMap recL (xs ++ [(nx, t, k, i, f)]))], fun w' => Hs (fps [.blk p #[.slice (some ⟨g, 0, none⟩) xs.length cap, .int .i64 ((room : Nat) : Int), .int .i64 nx, .bool lo] 98, .row (.slice (some ⟨g, 0, none⟩) xs.length cap) 23 5 xs.length (List.flatMap recL xs)]) w0 w' [.blk g2 #[.int .i64 0, .int .i64 0, .int .i64 0, .int .i64 0, .int .i64 0] 23, .blk g1 #[.int .i64 nx, .int .i64 t, .int .i64 k, .int .i64 i, .int .i64 f] 23, .blk p #[.slice (some ⟨g4, 0, none⟩) (xs.length + 1) c4, .int .i64 ((room : Nat) : Int), .int .i64 (nx + 1), .bool lo] 98, .row (.slice (some ⟨g4, 0, none⟩) (xs.length + 1) c4) 23 5 (xs.length + 1) (List.flatMap recL (xs ++ [(nx, t, k, i, f)]))], H, hsShut, fun _ h => h.pick [0, 1, 2, 3] _ (by decide) (by kernel_rfl), fun _ h => h.pick [0, 1, 3] _ (by decide) (by kernel_rfl), ?_⟩
    refine s_done (by kernel_rfl) ?_
    clear H
    intro v13 H
    refine x_frame' { tmps := #[.pointer (some ⟨p, 0, none⟩), .agg #[.int .i64 s, .int .i64 t, .int .i64 k, .int .i64 i, .int .i64 f], undef, .pointer (some ⟨g1, 0, none⟩), .pointer (some ⟨g2, 0, none⟩), .bool false, undef, .pointer (some ⟨p, 0, none⟩), .pointer (some ⟨p, 0, none⟩), .pointer (some ⟨p, 2, none⟩), .int .i64 nx, .pointer (some ⟨g1, 0, none⟩), .pointer (some ⟨p, 0, none⟩), .pointer (some ⟨p, 0, none⟩), .pointer (some ⟨p, 2, none⟩), .int .i64 nx, .int .i64 (nx + 1), .pointer (some ⟨p, 0, none⟩), .pointer (some ⟨p, 2, none⟩), .pointer (some ⟨p, 0, none⟩), .pointer (some ⟨p, 0, none⟩), .pointer (some ⟨p, 0, none⟩), .slice (some ⟨g, 0, none⟩) xs.length cap, .int .i64 ((xs.length : Nat) : Int), .pointer (some ⟨p, 0, none⟩), .pointer (some ⟨p, 0, none⟩), .pointer (some ⟨p, 1, none⟩), .int .i64 ((room : Nat) : Int), .bool false, undef, undef, undef, undef, undef, undef, undef, undef, undef, undef, undef, undef, undef, undef, undef, undef, undef, undef, undef, undef, undef, undef, undef, undef, .pointer (some ⟨p, 0, none⟩), .pointer (some ⟨p, 0, none⟩), .pointer (some ⟨p, 0, none⟩), .pointer (some ⟨p, 0, none⟩), .slice (some ⟨g, 0, none⟩) xs.length cap, .agg #[.int .i64 nx, .int .i64 t, .int .i64 k, .int .i64 i, .int .i64 f], .slice (some ⟨g3, 0, none⟩) 1 1, .slice (some ⟨g4, 0, none⟩) (xs.length + 1) c4, .pointer (some ⟨p, 0, none⟩), .pointer (some ⟨p, 0, none⟩), undef], defers := [] } (by kernel_rfl) ?_
    refine x_then ?_
    refine x_seq ?_
    refine x_region ?_
    refine x_loadn (t := 23) H 1 g1 0 _ _ [.int .i64 nx, .int .i64 t, .int .i64 k, .int .i64 i, .int .i64 f] rfl (by kernel_rfl) (by kernel_rfl) rfl (by kernel_rfl) (by kernel_rfl) ?_
    refine x_store (t := 23) (v := .agg #[.int .i64 nx, .int .i64 t, .int .i64 k, .int .i64 i, .int .i64 f]) H 0 g2 0 _ #[.int .i64 nx, .int .i64 t, .int .i64 k, .int .i64 i, .int .i64 f] 23 [.int .i64 nx, .int .i64 t, .int .i64 k, .int .i64 i, .int .i64 f] [.blk g2 #[.int .i64 nx, .int .i64 t, .int .i64 k, .int .i64 i, .int .i64 f] 23, .blk g1 #[.int .i64 nx, .int .i64 t, .int .i64 k, .int .i64 i, .int .i64 f] 23, .blk p #[.slice (some ⟨g4, 0, none⟩) (xs.length + 1) c4, .int .i64 ((room : Nat) : Int), .int .i64 (nx + 1), .bool lo] 98, .row (.slice (some ⟨g4, 0, none⟩) (xs.length + 1) c4) 23 5 (xs.length + 1) (List.flatMap recL (xs ++ [(nx, t, k, i, f)]))] rfl rfl (by kernel_rfl) (by kernel_rfl) (by kernel_rfl) (by kernel_rfl) (by kernel_rfl) (by kernel_rfl) (by kernel_rfl) (by kernel_rfl) ?_
    clear H
    intro v14 H
    refine x_val (.bool true) (by kernel_rfl) rfl (by kernel_rfl) ?_
    refine x_nil ?_
    refine x_then ?_
    refine x_retc ?_
    refine x_ret (.tuple #[.agg #[.int .i64 nx, .int .i64 t, .int .i64 k, .int .i64 i, .int .i64 f], .bool true]) (by kernel_rfl) (x_rescell H 0 g2 0 #[.int .i64 nx, .int .i64 t, .int .i64 k, .int .i64 i, .int .i64 f] 23 [.int .i64 nx, .int .i64 t, .int .i64 k, .int .i64 i, .int .i64 f] (fun x => .tuple #[x, .bool true]) (by kernel_rfl) (by kernel_rfl) (by kernel_rfl)) ?_
    replace H := H.pick [2, 3] [.blk p #[.slice (some ⟨g4, 0, none⟩) (xs.length + 1) c4, .int .i64 ((room : Nat) : Int), .int .i64 (nx + 1), .bool lo] 98, .row (.slice (some ⟨g4, 0, none⟩) (xs.length + 1) c4) 23 5 (xs.length + 1) (List.flatMap recL (xs ++ [(nx, t, k, i, f)]))] (by decide) (by kernel_rfl)
    exact ⟨_, rfl, H⟩
  · skip
    clear H
    intro v15 H
    refine x_box' H #[.int .i64 nx, .int .i64 t, .int .i64 k, .int .i64 i, .int .i64 f] 23 1 (by kernel_rfl) rfl (by kernel_rfl) ?_
    clear H
    intro v16 g5 H
    refine x_nil ?_
    refine x_then ?_
    refine ⟨fun w' => Hs (fps [.blk p #[.slice (some ⟨g, 0, none⟩) xs.length cap, .int .i64 ((room : Nat) : Int), .int .i64 nx, .bool lo] 98, .row (.slice (some ⟨g, 0, none⟩) xs.length cap) 23 5 xs.length (List.flatMap recL xs)]) w0 w' [.blk g2 #[.int .i64 0, .int .i64 0, .int .i64 0, .int .i64 0, .int .i64 0] 23, .blk g1 #[.int .i64 nx, .int .i64 t, .int .i64 k, .int .i64 i, .int .i64 f] 23], fun w' => Hs (fps [.blk p #[.slice (some ⟨g, 0, none⟩) xs.length cap, .int .i64 ((room : Nat) : Int), .int .i64 nx, .bool lo] 98, .row (.slice (some ⟨g, 0, none⟩) xs.length cap) 23 5 xs.length (List.flatMap recL xs)]) w0 w' [.blk g5 #[.int .i64 nx, .int .i64 t, .int .i64 k, .int .i64 i, .int .i64 f] 23, .blk g2 #[.int .i64 0, .int .i64 0, .int .i64 0, .int .i64 0, .int .i64 0] 23, .blk g1 #[.int .i64 nx, .int .i64 t, .int .i64 k, .int .i64 i, .int .i64 f] 23, .blk p #[.slice (some ⟨g, 0, none⟩) xs.length cap, .int .i64 ((room : Nat) : Int), .int .i64 (nx + 1), .bool lo] 98, .row (.slice (some ⟨g, 0, none⟩) xs.length cap) 23 5 xs.length (List.flatMap recL xs)], H, hsShut, fun _ h => h.pick [1, 2] _ (by decide) (by kernel_rfl), fun _ h => h.pick [0, 1] _ (by decide) (by kernel_rfl), ?_⟩
    refine s_one 4 rfl (by kernel_rfl) rfl ?_
    clear H
    intro v17 H
    refine x_load1 H 3 p 0 _ _ (.slice (some ⟨g, 0, none⟩) xs.length cap) rfl (by kernel_rfl) (by kernel_rfl) rfl (by kernel_rfl) ?_
    refine x_nil ?_
    refine x_then ?_
    refine ⟨fun w' => Hs (fps [.blk p #[.slice (some ⟨g, 0, none⟩) xs.length cap, .int .i64 ((room : Nat) : Int), .int .i64 nx, .bool lo] 98, .row (.slice (some ⟨g, 0, none⟩) xs.length cap) 23 5 xs.length (List.flatMap recL xs)]) w0 w' [.blk g2 #[.int .i64 0, .int .i64 0, .int .i64 0, .int .i64 0, .int .i64 0] 23, .blk g1 #[.int .i64 nx, .int .i64 t, .int .i64 k, .int .i64 i, .int .i64 f] 23], fun w' => Hs (fps [.blk p #[.slice (some ⟨g, 0, none⟩) xs.length cap, .int .i64 ((room : Nat) : Int), .int .i64 nx, .bool lo] 98, .row (.slice (some ⟨g, 0, none⟩) xs.length cap) 23 5 xs.length (List.flatMap recL xs)]) w0 w' [.blk g5 #[.int .i64 nx, .int .i64 t, .int .i64 k, .int .i64 i, .int .i64 f] 23, .blk g2 #[.int .i64 0, .int .i64 0, .int .i64 0, .int .i64 0, .int .i64 0] 23, .blk g1 #[.int .i64 nx, .int .i64 t, .int .i64 k, .int .i64 i, .int .i64 f] 23, .blk p #[.slice (some ⟨g, 0, none⟩) xs.length cap, .int .i64 ((room : Nat) : Int), .int .i64 (nx + 1), .bool lo] 98, .row (.slice (some ⟨g, 0, none⟩) xs.length cap) 23 5 xs.length (List.flatMap recL xs)], H, hsShut, fun _ h => h.pick [1, 2] _ (by decide) (by kernel_rfl), fun _ h => h.pick [0, 1] _ (by decide) (by kernel_rfl), ?_⟩
    refine s_one 7 rfl (by kernel_rfl) rfl ?_
    clear H
    intro v18 H
    refine x_append H 4 (.slice (some ⟨g, 0, none⟩) xs.length cap) 96 23 5 40 xs.length (.agg #[.int .i64 0, .int .i64 0, .int .i64 0, .int .i64 0, .int .i64 0]) (List.flatMap recL xs) ⟨g5, 0, none⟩ 1 1 [.int .i64 nx, .int .i64 t, .int .i64 k, .int .i64 i, .int .i64 f] rfl (by kernel_rfl) (by kernel_rfl) rfl (by decide) (by decide) rfl (fun j u hj => by rw [add_none]; exact cellOf (H.blk 0 rfl) (by simpa using hj)) (List.all_eq_true.1 (by kernel_rfl)) (by unfold maxLen; omega) (by omega) (by kernel_rfl) rfl (by kernel_rfl) ?_
    clear H
    intro v19 g6 c6 hc6 H
    rw [show (List.flatMap recL xs) ++ [.int .i64 nx, .int .i64 t, .int .i64 k, .int .i64 i, .int .i64 f] = (List.flatMap recL (xs ++ [(nx, t, k, i, f)])) from (by rw [List.flatMap_append]; rfl)] at H
    replace H : Hs (fps [.blk p #[.slice (some ⟨g, 0, none⟩) xs.length cap, .int .i64 ((room : Nat) : Int), .int .i64 nx, .bool lo] 98, .row (.slice (some ⟨g, 0, none⟩) xs.length cap) 23 5 xs.length (List.flatMap recL xs)]) w0 v19 [.blk g5 #[.int .i64 nx, .int .i64 t, .int .i64 k, .int .i64 i, .int .i64 f] 23, .blk g2 #[.int .i64 0, .int .i64 0, .int .i64 0, .int .i64 0, .int .i64 0] 23, .blk g1 #[.int .i64 nx, .int .i64 t, .int .i64 k, .int .i64 i, .int .i64 f] 23, .blk p #[.slice (some ⟨g, 0, none⟩) xs.length cap, .int .i64 ((room : Nat) : Int), .int .i64 (nx + 1), .bool lo] 98, .row (.slice (some ⟨g6, 0, none⟩) (xs.length + 1) c6) 23 5 (xs.length + 1) (List.flatMap recL (xs ++ [(nx, t, k, i, f)]))] := H
    replace H := H.pick [1, 2, 3, 4] [.blk g2 #[.int .i64 0, .int .i64 0, .int .i64 0, .int .i64 0, .int .i64 0] 23, .blk g1 #[.int .i64 nx, .int .i64 t, .int .i64 k, .int .i64 i, .int .i64 f] 23, .blk p #[.slice (some ⟨g, 0, none⟩) xs.length cap, .int .i64 ((room : Nat) : Int), .int .i64 (nx + 1), .bool lo] 98, .row (.slice (some ⟨g6, 0, none⟩) (xs.length + 1) c6) 23 5 (xs.length + 1) (List.flatMap recL (xs ++ [(nx, t, k, i, f)]))] (by decide) (by kernel_rfl)
    refine x_nil ?_
    refine x_then ?_
    refine ⟨fun w' => Hs (fps [.blk p #[.slice (some ⟨g, 0, none⟩) xs.length cap, .int .i64 ((room : Nat) : Int), .int .i64 nx, .bool lo] 98, .row (.slice (some ⟨g, 0, none⟩) xs.length cap) 23 5 xs.length (List.flatMap recL xs)]) w0 w' [.blk g2 #[.int .i64 0, .int .i64 0, .int .i64 0, .int .i64 0, .int .i64 0] 23, .blk g1 #[.int .i64 nx, .int .i64 t, .int .i64 k, .int .i64 i, .int .i64 f] 23], fun w' => Hs (fps [.blk p #[.slice (some ⟨g, 0, none⟩) xs.length cap, .int .i64 ((room : Nat) : Int), .int .i64 nx, .bool lo] 98, .row (.slice (some ⟨g, 0, none⟩) xs.length cap) 23 5 xs.length (List.flatMap recL xs)]) w0 w' [.blk g2 #[.int .i64 0, .int .i64 0, .int .i64 0, .int .i64 0, .int .i64 0] 23, .blk g1 #[.int .i64 nx, .int .i64 t, .int .i64 k, .int .i64 i, .int .i64 f] 23, .blk p #[.slice (some ⟨g, 0, none⟩) xs.length cap, .int .i64 ((room : Nat) : Int), .int .i64 (nx + 1), .bool lo] 98, .row (.slice (some ⟨g6, 0, none⟩) (xs.length + 1) c6) 23 5 (xs.length + 1) (List.flatMap recL (xs ++ [(nx, t, k, i, f)]))], H, hsShut, fun _ h => h.pick [0, 1] _ (by decide) (by kernel_rfl), fun _ h => h.pick [0, 1] _ (by decide) (by kernel_rfl), ?_⟩
    refine s_quiet 8 rfl (by kernel_rfl) (y_val (.pointer (some ⟨p, 0, none⟩)) (by kernel_rfl) (fun _ => by kernel_rfl)) ?_
    refine s_quiet 9 rfl (by kernel_rfl) (y_val (.pointer (some ⟨p, 0, none⟩)) (by kernel_rfl) (fun _ => by kernel_rfl)) ?_
    refine s_one 10 rfl (by kernel_rfl) rfl ?_
    clear H
    intro v20 H
    refine x_store (t := 96) (v := .slice (some ⟨g6, 0, none⟩) (xs.length + 1) c6) H 2 p 0 _ #[.slice (some ⟨g6, 0, none⟩) (xs.length + 1) c6, .int .i64 ((room : Nat) : Int), .int .i64 (nx + 1), .bool lo] 98 [.slice (some ⟨g6, 0, none⟩) (xs.length + 1) c6] _ rfl rfl (by kernel_rfl) (by kernel_rfl) (by kernel_rfl) rfl (by kernel_rfl) (by kernel_rfl) (by kernel_rfl) (by kernel_rfl) ?_
    clear H
    intro v21 H
    refine x_nil ?_
    refine x_then ?_
    refine ⟨fun w' => Hs (fps [.blk p #[.slice (some ⟨g, 0, none⟩) xs.length cap, .int .i64 ((room : Nat) : Int), .int .i64 nx, .bool lo] 98, .row (.slice (some ⟨g, 0, none⟩) xs.length cap) 23 5 xs.length (List.flatMap recL xs)]) w0 w' [.blk g2 #[.int .i64 0, .int .i64 0, .int .i64 0, .int .i64 0, .int .i64 0] 23, .blk g1 #[.int .i64 nx, .int .i64 t, .int .i64 k, .int .i64 i, .int .i64 f] 23], fun w' => Hs (fps [.blk p #[.slice (some ⟨g, 0, none⟩) xs.length cap, .int .i64 ((room : Nat) : Int), .int .i64 nx, .bool lo] 98, .row (.slice (some ⟨g, 0, none⟩) xs.length cap) 23 5 xs.length (List.flatMap recL xs)]) w0 w' [.blk g2 #[.int .i64 0, .int .i64 0, .int .i64 0, .int .i64 0, .int .i64 0] 23, .blk g1 #[.int .i64 nx, .int .i64 t, .int .i64 k, .int .i64 i, .int .i64 f] 23, .blk p #[.slice (some ⟨g6, 0, none⟩) (xs.length + 1) c6, .int .i64 ((room : Nat) : Int), .int .i64 (nx + 1), .bool lo] 98, .row (.slice (some ⟨g6, 0, none⟩) (xs.length + 1) c6) 23 5 (xs.length + 1) (List.flatMap recL (xs ++ [(nx, t, k, i, f)]))], H, hsShut, fun _ h => h.pick [0, 1] _ (by decide) (by kernel_rfl), fun _ h => h.pick [0, 1] _ (by decide) (by kernel_rfl), ?_⟩
    refine s_done (by kernel_rfl) ?_
    clear H
    intro v22 H
    refine x_frame' { tmps := #[.pointer (some ⟨p, 0, none⟩), .agg #[.int .i64 s, .int .i64 t, .int .i64 k, .int .i64 i, .int .i64 f], undef, .pointer (some ⟨g1, 0, none⟩), .pointer (some ⟨g2, 0, none⟩), .bool false, undef, .pointer (some ⟨p, 0, none⟩), .pointer (some ⟨p, 0, none⟩), .pointer (some ⟨p, 2, none⟩), .int .i64 nx, .pointer (some ⟨g1, 0, none⟩), .pointer (some ⟨p, 0, none⟩), .pointer (some ⟨p, 0, none⟩), .pointer (some ⟨p, 2, none⟩), .int .i64 nx, .int .i64 (nx + 1), .pointer (some ⟨p, 0, none⟩), .pointer (some ⟨p, 2, none⟩), .pointer (some ⟨p, 0, none⟩), .pointer (some ⟨p, 0, none⟩), .pointer (some ⟨p, 0, none⟩), .slice (some ⟨g, 0, none⟩) xs.length cap, .int .i64 ((xs.length : Nat) : Int), .pointer (some ⟨p, 0, none⟩), .pointer (some ⟨p, 0, none⟩), .pointer (some ⟨p, 1, none⟩), .int .i64 ((room : Nat) : Int), .bool false, undef, undef, undef, undef, undef, undef, undef, undef, undef, undef, undef, undef, undef, undef, undef, undef, undef, undef, undef, undef, undef, undef, undef, undef, .pointer (some ⟨p, 0, none⟩), .pointer (some ⟨p, 0, none⟩), .pointer (some ⟨p, 0, none⟩), .pointer (some ⟨p, 0, none⟩), .slice (some ⟨g, 0, none⟩) xs.length cap, .agg #[.int .i64 nx, .int .i64 t, .int .i64 k, .int .i64 i, .int .i64 f], .slice (some ⟨g5, 0, none⟩) 1 1, .slice (some ⟨g6, 0, none⟩) (xs.length + 1) c6, .pointer (some ⟨p, 0, none⟩), .pointer (some ⟨p, 0, none⟩), undef], defers := [] } (by kernel_rfl) ?_
    refine x_then ?_
    refine x_seq ?_
    refine x_region ?_
    refine x_loadn (t := 23) H 1 g1 0 _ _ [.int .i64 nx, .int .i64 t, .int .i64 k, .int .i64 i, .int .i64 f] rfl (by kernel_rfl) (by kernel_rfl) rfl (by kernel_rfl) (by kernel_rfl) ?_
    refine x_store (t := 23) (v := .agg #[.int .i64 nx, .int .i64 t, .int .i64 k, .int .i64 i, .int .i64 f]) H 0 g2 0 _ #[.int .i64 nx, .int .i64 t, .int .i64 k, .int .i64 i, .int .i64 f] 23 [.int .i64 nx, .int .i64 t, .int .i64 k, .int .i64 i, .int .i64 f] _ rfl rfl (by kernel_rfl) (by kernel_rfl) (by kernel_rfl) rfl (by kernel_rfl) (by kernel_rfl) (by kernel_rfl) (by kernel_rfl) ?_
    clear H
    intro v23 H
    refine x_val (.bool true) (by kernel_rfl) rfl (by kernel_rfl) ?_
    refine x_nil ?_
    refine x_then ?_
    refine x_retc ?_
    refine x_ret (.tuple #[.agg #[.int .i64 nx, .int .i64 t, .int .i64 k, .int .i64 i, .int .i64 f], .bool true]) (by kernel_rfl) (x_rescell H 0 g2 0 #[.int .i64 nx, .int .i64 t, .int .i64 k, .int .i64 i, .int .i64 f] 23 [.int .i64 nx, .int .i64 t, .int .i64 k, .int .i64 i, .int .i64 f] (fun x => .tuple #[x, .bool true]) (by kernel_rfl) (by kernel_rfl) (by kernel_rfl)) ?_
    replace H := H.pick [2, 3] [.blk p #[.slice (some ⟨g6, 0, none⟩) (xs.length + 1) c6, .int .i64 ((room : Nat) : Int), .int .i64 (nx + 1), .bool lo] 98, .row (.slice (some ⟨g6, 0, none⟩) (xs.length + 1) c6) 23 5 (xs.length + 1) (List.flatMap recL (xs ++ [(nx, t, k, i, f)]))] (by decide) (by kernel_rfl)
    exact ⟨_, rfl, H⟩

set_option maxRecDepth 100000 in
set_option maxHeartbeats 2000000 in
theorem Add_keep {p : Nat} {xs : List Rec} {room : Nat} {nx : Int} {lo : Bool} {g cap : Nat} (s t k i f : Int) (hn : xs.length = room) (hr : room ≤ 4096) (hx : -1000 ≤ nx ∧ nx ≤ 9223372036854770000) (hk : k = 2 → ¬ lq xs < xs.length) (w0 : World) (H0 : Hs (fps [.blk p #[.slice (some ⟨g, 0, none⟩) xs.length cap, .int .i64 ((room : Nat) : Int), .int .i64 nx, .bool lo] 98, .row (.slice (some ⟨g, 0, none⟩) xs.length cap) 23 5 xs.length (List.flatMap recL xs)]) w0 w0 [.blk p #[.slice (some ⟨g, 0, none⟩) xs.length cap, .int .i64 ((room : Nat) : Int), .int .i64 nx, .bool lo] 98, .row (.slice (some ⟨g, 0, none⟩) xs.length cap) 23 5 xs.length (List.flatMap recL xs)]) :
    Calls Tryd.prog 23 #[.pointer (some ⟨p, 0, none⟩), .agg #[.int .i64 s, .int .i64 t, .int .i64 k, .int .i64 i, .int .i64 f]] w0 fun e w' => ∃ sv', e = .returned (.tuple #[.agg #[.int .i64 nx, .int .i64 t, .int .i64 k, .int .i64 i, .int .i64 f], .bool false]) ∧ Hs (fps [.blk p #[.slice (some ⟨g, 0, none⟩) xs.length cap, .int .i64 ((room : Nat) : Int), .int .i64 nx, .bool lo] 98, .row (.slice (some ⟨g, 0, none⟩) xs.length cap) 23 5 xs.length (List.flatMap recL xs)]) w0 w' [.blk p #[sv', .int .i64 ((room : Nat) : Int), .int .i64 (nx + 1), .bool true] 98, .row (sv') 23 5 xs.length (List.flatMap recL xs)] := by
  refine x_enter Tryd.func23 rfl #[.pointer (some ⟨p, 0, none⟩), .agg #[.int .i64 s, .int .i64 t, .int .i64 k, .int .i64 i, .int .i64 f], undef, undef, undef, undef, undef, undef, undef, undef, undef, undef, undef, undef, undef, undef, undef, undef, undef, undef, undef, undef, undef, undef, undef, undef, undef, undef, undef, undef, undef, undef, undef, undef, undef, undef, undef, undef, undef, undef, undef, undef, undef, undef, undef, undef, undef, undef, undef, undef, undef, undef, undef, undef, undef, undef, undef, undef, undef, undef, undef, undef, undef, undef] (by kernel_rfl) ?_
  have H := H0
  have q1 : decide (((xs.length : Nat) : Int) = ((room : Nat) : Int)) = true := by simp; omega
  refine x_seq ?_
  refine x_region ?_
  refine x_box H #[.int .i64 s, .int .i64 t, .int .i64 k, .int .i64 i, .int .i64 f] 23 (by kernel_rfl) rfl (by kernel_rfl) ?_
  clear H
  intro v1 g1 H
  refine x_box H #[.int .i64 0, .int .i64 0, .int .i64 0, .int .i64 0, .int .i64 0] 23 (by kernel_rfl) rfl (by kernel_rfl) ?_
  clear H
  intro v2 g2 H
  refine x_val (.bool false) (by kernel_rfl) rfl (by kernel_rfl) ?_
  refine x_nil ?_
  refine x_then ?_
  refine x_seq ?_
  refine x_region ?_
  refine x_val (.pointer (some ⟨p, 0, none⟩)) (by kernel_rfl) rfl (by kernel_rfl) ?_
  refine x_val (.pointer (some ⟨p, 0, none⟩)) (by kernel_rfl) rfl (by kernel_rfl) ?_
  refine x_val (.pointer (some ⟨p, 2, none⟩)) (by kernel_rfl) rfl (by kernel_rfl) ?_
  refine x_load1 H 2 p 2 _ _ (.int .i64 nx) rfl (by kernel_rfl) (by kernel_rfl) rfl (by kernel_rfl) ?_
  refine x_val (.pointer (some ⟨g1, 0, none⟩)) (by kernel_rfl) rfl (by kernel_rfl) ?_
  refine x_store (t := 3) (v := .int .i64 nx) H 1 g1 0 _ #[.int .i64 nx, .int .i64 t, .int .i64 k, .int .i64 i, .int .i64 f] 23 [.int .i64 nx] _ rfl rfl (by kernel_rfl) (by kernel_rfl) (by kernel_rfl) rfl (by kernel_rfl) (by kernel_rfl) (by kernel_rfl) (by kernel_rfl) ?_
  clear H
  intro v3 H
  refine x_nil ?_
  refine x_then ?_
  refine x_seq ?_
  refine x_region ?_
  refine x_val (.pointer (some ⟨p, 0, none⟩)) (by kernel_rfl) rfl (by kernel_rfl) ?_
  refine x_val (.pointer (some ⟨p, 0, none⟩)) (by kernel_rfl) rfl (by kernel_rfl) ?_
  refine x_val (.pointer (some ⟨p, 2, none⟩)) (by kernel_rfl) rfl (by kernel_rfl) ?_
  refine x_load1 H 2 p 2 _ _ (.int .i64 nx) rfl (by kernel_rfl) (by kernel_rfl) rfl (by kernel_rfl) ?_
  refine x_ar (nx + 1) ⟨by omega, by omega⟩ (by kernel_rfl) rfl (by kernel_rfl) ?_
  refine x_val (.pointer (some ⟨p, 0, none⟩)) (by kernel_rfl) rfl (by kernel_rfl) ?_
  refine x_val (.pointer (some ⟨p, 2, none⟩)) (by kernel_rfl) rfl (by kernel_rfl) ?_
  refine x_store (t := 3) (v := .int .i64 (nx + 1)) H 2 p 2 _ #[.slice (some ⟨g, 0, none⟩) xs.length cap, .int .i64 ((room : Nat) : Int), .int .i64 (nx + 1), .bool lo] 98 [.int .i64 (nx + 1)] _ rfl rfl (by kernel_rfl) (by kernel_rfl) (by kernel_rfl) rfl (by kernel_rfl) (by kernel_rfl) (by kernel_rfl) (by kernel_rfl) ?_
  clear H
  intro v4 H
  refine x_nil ?_
  refine x_then ?_
  refine x_seq ?_
  refine x_seq ?_
  refine x_region_whole (fun w' => Hs (fps [.blk p #[.slice (some ⟨g, 0, none⟩) xs.length cap, .int .i64 ((room : Nat) : Int), .int .i64 nx, .bool lo] 98, .row (.slice (some ⟨g, 0, none⟩) xs.length cap) 23 5 xs.length (List.flatMap recL xs)]) w0 w' [.blk g2 #[.int .i64 0, .int .i64 0, .int .i64 0, .int .i64 0, .int .i64 0] 23, .blk g1 #[.int .i64 nx, .int .i64 t, .int .i64 k, .int .i64 i, .int .i64 f] 23, .blk p #[.slice (some ⟨g, 0, none⟩) xs.length cap, .int .i64 ((room : Nat) : Int), .int .i64 (nx + 1), .bool lo] 98, .row (.slice (some ⟨g, 0, none⟩) xs.length cap) 23 5 xs.length (List.flatMap recL xs)]) (by kernel_rfl) (by kernel_rfl) (by kernel_rfl) H.drew ?_
  refine q_val (.pointer (some ⟨p, 0, none⟩)) (by kernel_rfl) (fun _ => by kernel_rfl) ?_
  refine q_val (.pointer (some ⟨p, 0, none⟩)) (by kernel_rfl) (fun _ => by kernel_rfl) ?_
  refine q_val (.pointer (some ⟨p, 0, none⟩)) (by kernel_rfl) (fun _ => by kernel_rfl) ?_
  refine q_load1 2 p 0 #[.slice (some ⟨g, 0, none⟩) xs.length cap, .int .i64 ((room : Nat) : Int), .int .i64 (nx + 1), .bool lo] 98 (.slice (some ⟨g, 0, none⟩) xs.length cap) (by kernel_rfl) (by kernel_rfl) (by kernel_rfl) (fun _ => by kernel_rfl) ?_
  refine q_val (.int .i64 ((xs.length : Nat) : Int)) (by kernel_rfl) (fun _ => by kernel_rfl) ?_
  refine q_val (.pointer (some ⟨p, 0, none⟩)) (by kernel_rfl) (fun _ => by kernel_rfl) ?_
  refine q_val (.pointer (some ⟨p, 0, none⟩)) (by kernel_rfl) (fun _ => by kernel_rfl) ?_
  refine q_val (.pointer (some ⟨p, 1, none⟩)) (by kernel_rfl) (fun _ => by kernel_rfl) ?_
  refine q_load1 2 p 1 #[.slice (some ⟨g, 0, none⟩) xs.length cap, .int .i64 ((room : Nat) : Int), .int .i64 (nx + 1), .bool lo] 98 (.int .i64 ((room : Nat) : Int)) (by kernel_rfl) (by kernel_rfl) (by kernel_rfl) (fun _ => by kernel_rfl) ?_
  refine q_val (.bool (decide (((xs.length : Nat) : Int) = ((room : Nat) : Int)))) (by kernel_rfl) (fun _ => by kernel_rfl) ?_
  refine q_nil ?_
  clear H
  intro v5 H
  refine x_then ?_
  rw [q1]
  refine x_t (by kernel_rfl) ?_
  refine x_seq ?_
  refine x_region ?_
  refine x_val (.pointer (some ⟨p, 0, none⟩)) (by kernel_rfl) rfl (by kernel_rfl) ?_
  refine x_val (.pointer (some ⟨p, 0, none⟩)) (by kernel_rfl) rfl (by kernel_rfl) ?_
  refine x_val (.pointer (some ⟨p, 3, none⟩)) (by kernel_rfl) rfl (by kernel_rfl) ?_
  refine x_store (t := 4) (v := .bool true) H 2 p 3 _ #[.slice (some ⟨g, 0, none⟩) xs.length cap, .int .i64 ((room : Nat) : Int), .int .i64 (nx + 1), .bool true] 98 [.bool true] _ rfl rfl (by kernel_rfl) (by kernel_rfl) (by kernel_rfl) rfl (by kernel_rfl) (by kernel_rfl) (by kernel_rfl) (by kernel_rfl) ?_
  clear H
  intro v6 H
  refine x_nil ?_
  refine x_frame' { tmps := #[.pointer (some ⟨p, 0, none⟩), .agg #[.int .i64 s, .int .i64 t, .int .i64 k, .int .i64 i, .int .i64 f], undef, .pointer (some ⟨g1, 0, none⟩), .pointer (some ⟨g2, 0, none⟩), .bool false, undef, .pointer (some ⟨p, 0, none⟩), .pointer (some ⟨p, 0, none⟩), .pointer (some ⟨p, 2, none⟩), .int .i64 nx, .pointer (some ⟨g1, 0, none⟩), .pointer (some ⟨p, 0, none⟩), .pointer (some ⟨p, 0, none⟩), .pointer (some ⟨p, 2, none⟩), .int .i64 nx, .int .i64 (nx + 1), .pointer (some ⟨p, 0, none⟩), .pointer (some ⟨p, 2, none⟩), .pointer (some ⟨p, 0, none⟩), .pointer (some ⟨p, 0, none⟩), .pointer (some ⟨p, 0, none⟩), .slice (some ⟨g, 0, none⟩) xs.length cap, .int .i64 ((xs.length : Nat) : Int), .pointer (some ⟨p, 0, none⟩), .pointer (some ⟨p, 0, none⟩), .pointer (some ⟨p, 1, none⟩), .int .i64 ((room : Nat) : Int), .bool true, .pointer (some ⟨p, 0, none⟩), .pointer (some ⟨p, 0, none⟩), .pointer (some ⟨p, 3, none⟩), undef, undef, undef, undef, undef, undef, undef, undef, undef, undef, undef, undef, undef, undef, undef, undef, undef, undef, undef, undef, undef, undef, undef, undef, undef, undef, undef, undef, undef, undef, undef, undef], defers := [] } (by kernel_rfl) ?_
  refine x_then ?_
  refine x_seq ?_
  refine x_region ?_
  refine x_val (.pointer (some ⟨p, 0, none⟩)) (by kernel_rfl) rfl (by kernel_rfl) ?_
  refine x_callB (.int .i64 (lightI xs)) H (by kernel_rfl) rfl (by kernel_rfl) (light_at (by omega) _ (H.roOf [2, 3] [.blk p #[.slice (some ⟨g, 0, none⟩) xs.length cap, .int .i64 ((room : Nat) : Int), .int .i64 (nx + 1), .bool true] 98, .row (.slice (some ⟨g, 0, none⟩) xs.length cap) 23 5 xs.length (List.flatMap recL xs)] (by kernel_rfl))) ?_
  clear H
  intro v7 H
  refine x_val (.int .i64 (lightI xs)) (by kernel_rfl) rfl (by kernel_rfl) ?_
  refine x_nil ?_
  refine x_then ?_
  refine x_seq ?_
  refine x_seq ?_
  refine x_region ?_
  refine x_loadn (t := 23) H 1 g1 0 _ _ [.int .i64 nx, .int .i64 t, .int .i64 k, .int .i64 i, .int .i64 f] rfl (by kernel_rfl) (by kernel_rfl) rfl (by kernel_rfl) (by kernel_rfl) ?_
  refine x_callB (.bool (decide (k = 2))) H (by kernel_rfl) rfl (by kernel_rfl) (Grave_any nx t k i f _) ?_
  clear H
  intro v8 H
  refine x_val (.bool (!(decide (k = 2)))) (by kernel_rfl) rfl (by kernel_rfl) ?_
  refine x_val (.bool (!(decide (k = 2)))) (by kernel_rfl) rfl (by kernel_rfl) ?_
  cases h1 : decide (k = 2)
  · skip
    have h1p := of_decide_eq_false h1
    refine x_skip (by kernel_rfl) ?_
    refine x_skip (by kernel_rfl) ?_
    refine x_val (.bool true) (by kernel_rfl) rfl (by kernel_rfl) ?_
    refine x_nil ?_
    refine x_then ?_
    refine x_t (by kernel_rfl) ?_
    refine x_seq ?_
    refine x_region ?_
    refine x_loadn (t := 23) H 1 g1 0 _ _ [.int .i64 nx, .int .i64 t, .int .i64 k, .int .i64 i, .int .i64 f] rfl (by kernel_rfl) (by kernel_rfl) rfl (by kernel_rfl) (by kernel_rfl) ?_
    refine x_store (t := 23) (v := .agg #[.int .i64 nx, .int .i64 t, .int .i64 k, .int .i64 i, .int .i64 f]) H 0 g2 0 _ #[.int .i64 nx, .int .i64 t, .int .i64 k, .int .i64 i, .int .i64 f] 23 [.int .i64 nx, .int .i64 t, .int .i64 k, .int .i64 i, .int .i64 f] _ rfl rfl (by kernel_rfl) (by kernel_rfl) (by kernel_rfl) rfl (by kernel_rfl) (by kernel_rfl) (by kernel_rfl) (by kernel_rfl) ?_
    clear H
    intro v9 H
    refine x_val (.bool false) (by kernel_rfl) rfl (by kernel_rfl) ?_
    refine x_nil ?_
    refine x_then ?_
    refine x_retc ?_
    refine x_then_ret ?_
    refine x_then_ret ?_
    refine x_ret (.tuple #[.agg #[.int .i64 nx, .int .i64 t, .int .i64 k, .int .i64 i, .int .i64 f], .bool false]) (by kernel_rfl) (x_rescell H 0 g2 0 #[.int .i64 nx, .int .i64 t, .int .i64 k, .int .i64 i, .int .i64 f] 23 [.int .i64 nx, .int .i64 t, .int .i64 k, .int .i64 i, .int .i64 f] (fun x => .tuple #[x, .bool false]) (by kernel_rfl) (by kernel_rfl) (by kernel_rfl)) ?_
    replace H := H.pick [2, 3] [.blk p #[.slice (some ⟨g, 0, none⟩) xs.length cap, .int .i64 ((room : Nat) : Int), .int .i64 (nx + 1), .bool true] 98, .row (.slice (some ⟨g, 0, none⟩) xs.length cap) 23 5 xs.length (List.flatMap recL xs)] (by decide) (by kernel_rfl)
    exact ⟨_, rfl, H⟩
  · skip
    have h1p := of_decide_eq_true h1
    refine x_val (.int .i64 (lightI xs)) (by kernel_rfl) rfl (by kernel_rfl) ?_
    refine x_val (.bool (decide ((lightI xs) < 0))) (by kernel_rfl) rfl (by kernel_rfl) ?_
    refine x_val (.bool (decide ((lightI xs) < 0))) (by kernel_rfl) rfl (by kernel_rfl) ?_
    refine x_nil ?_
    refine x_then ?_
    cases h2 : decide ((lightI xs) < 0)
    · skip
      have h2p := of_decide_eq_false h2
      exact absurd (show lightI xs < 0 by unfold lightI; rw [if_neg (hk (of_decide_eq_true h1))]; decide) (of_decide_eq_false h2)
    · skip
      have h2p := of_decide_eq_true h2
      refine x_t (by kernel_rfl) ?_
      refine x_seq ?_
      refine x_region ?_
      refine x_loadn (t := 23) H 1 g1 0 _ _ [.int .i64 nx, .int .i64 t, .int .i64 k, .int .i64 i, .int .i64 f] rfl (by kernel_rfl) (by kernel_rfl) rfl (by kernel_rfl) (by kernel_rfl) ?_
      refine x_store (t := 23) (v := .agg #[.int .i64 nx, .int .i64 t, .int .i64 k, .int .i64 i, .int .i64 f]) H 0 g2 0 _ #[.int .i64 nx, .int .i64 t, .int .i64 k, .int .i64 i, .int .i64 f] 23 [.int .i64 nx, .int .i64 t, .int .i64 k, .int .i64 i, .int .i64 f] [.blk g2 #[.int .i64 nx, .int .i64 t, .int .i64 k, .int .i64 i, .int .i64 f] 23, .blk g1 #[.int .i64 nx, .int .i64 t, .int .i64 k, .int .i64 i, .int .i64 f] 23, .blk p #[.slice (some ⟨g, 0, none⟩) xs.length cap, .int .i64 ((room : Nat) : Int), .int .i64 (nx + 1), .bool true] 98, .row (.slice (some ⟨g, 0, none⟩) xs.length cap) 23 5 xs.length (List.flatMap recL xs)] rfl rfl (by kernel_rfl) (by kernel_rfl) (by kernel_rfl) (by kernel_rfl) (by kernel_rfl) (by kernel_rfl) (by kernel_rfl) (by kernel_rfl) ?_
      clear H
      intro v10 H
      refine x_val (.bool false) (by kernel_rfl) rfl (by kernel_rfl) ?_
      refine x_nil ?_
      refine x_then ?_
      refine x_retc ?_
      refine x_then_ret ?_
      refine x_then_ret ?_
      refine x_ret (.tuple #[.agg #[.int .i64 nx, .int .i64 t, .int .i64 k, .int .i64 i, .int .i64 f], .bool false]) (by kernel_rfl) (x_rescell H 0 g2 0 #[.int .i64 nx, .int .i64 t, .int .i64 k, .int .i64 i, .int .i64 f] 23 [.int .i64 nx, .int .i64 t, .int .i64 k, .int .i64 i, .int .i64 f] (fun x => .tuple #[x, .bool false]) (by kernel_rfl) (by kernel_rfl) (by kernel_rfl)) ?_
      replace H := H.pick [2, 3] [.blk p #[.slice (some ⟨g, 0, none⟩) xs.length cap, .int .i64 ((room : Nat) : Int), .int .i64 (nx + 1), .bool true] 98, .row (.slice (some ⟨g, 0, none⟩) xs.length cap) 23 5 xs.length (List.flatMap recL xs)] (by decide) (by kernel_rfl)
      exact ⟨_, rfl, H⟩

set_option maxRecDepth 100000 in
set_option maxHeartbeats 2000000 in
theorem Add_push {p : Nat} {xs : List Rec} {room : Nat} {nx : Int} {lo : Bool} {g cap : Nat} (s t k i f : Int) (hn : xs.length = room) (hr : room ≤ 4096) (hx : -1000 ≤ nx ∧ nx ≤ 9223372036854770000) (hk : k = 2) (hq : lq xs < xs.length) (w0 : World) (H0 : Hs (fps [.blk p #[.slice (some ⟨g, 0, none⟩) xs.length cap, .int .i64 ((room : Nat) : Int), .int .i64 nx, .bool lo] 98, .row (.slice (some ⟨g, 0, none⟩) xs.length cap) 23 5 xs.length (List.flatMap recL xs)]) w0 w0 [.blk p #[.slice (some ⟨g, 0, none⟩) xs.length cap, .int .i64 ((room : Nat) : Int), .int .i64 nx, .bool lo] 98, .row (.slice (some ⟨g, 0, none⟩) xs.length cap) 23 5 xs.length (List.flatMap recL xs)]) :
    Calls Tryd.prog 23 #[.pointer (some ⟨p, 0, none⟩), .agg #[.int .i64 s, .int .i64 t, .int .i64 k, .int .i64 i, .int .i64 f]] w0 fun e w' => ∃ sv', e = .returned (.tuple #[.agg #[.int .i64 nx, .int .i64 t, .int .i64 k, .int .i64 i, .int .i64 f], .bool true]) ∧ Hs (fps [.blk p #[.slice (some ⟨g, 0, none⟩) xs.length cap, .int .i64 ((room : Nat) : Int), .int .i64 nx, .bool lo] 98, .row (.slice (some ⟨g, 0, none⟩) xs.length cap) 23 5 xs.length (List.flatMap recL xs)]) w0 w' [.blk p #[sv', .int .i64 ((room : Nat) : Int), .int .i64 (nx + 1), .bool true] 98, .row (sv') 23 5 (xs.length - 1 + 1) (List.flatMap recL (xs.eraseIdx (lq xs) ++ [(nx, t, k, i, f)]))] := by
  refine x_enter Tryd.func23 rfl #[.pointer (some ⟨p, 0, none⟩), .agg #[.int .i64 s, .int .i64 t, .int .i64 k, .int .i64 i, .int .i64 f], undef, undef, undef, undef, undef, undef, undef, undef, undef, undef, undef, undef, undef, undef, undef, undef, undef, undef, undef, undef, undef, undef, undef, undef, undef, undef, undef, undef, undef, undef, undef, undef, undef, undef, undef, undef, undef, undef, undef, undef, undef, undef, undef, undef, undef, undef, undef, undef, undef, undef, undef, undef, undef, undef, undef, undef, undef, undef, undef, undef, undef, undef] (by kernel_rfl) ?_
  have H := H0
  have q1 : decide (((xs.length : Nat) : Int) = ((room : Nat) : Int)) = true := by simp; omega
  have q2 : decide (k = 2) = true := decide_eq_true hk
  have hl : lightI xs = ((lq xs : Nat) : Int) := by unfold lightI; rw [if_pos hq]
  have q3 : decide ((lightI xs) < 0) = false := by rw [hl]; exact decide_eq_false (by omega)
  refine x_seq ?_
  refine x_region ?_
  refine x_box H #[.int .i64 s, .int .i64 t, .int .i64 k, .int .i64 i, .int .i64 f] 23 (by kernel_rfl) rfl (by kernel_rfl) ?_
  clear H
  intro v1 g1 H
  refine x_box H #[.int .i64 0, .int .i64 0, .int .i64 0, .int .i64 0, .int .i64 0] 23 (by kernel_rfl) rfl (by kernel_rfl) ?_
  clear H
  intro v2 g2 H
  refine x_val (.bool false) (by kernel_rfl) rfl (by kernel_rfl) ?_
  refine x_nil ?_
  refine x_then ?_
  refine x_seq ?_
  refine x_region ?_
  refine x_val (.pointer (some ⟨p, 0, none⟩)) (by kernel_rfl) rfl (by kernel_rfl) ?_
  refine x_val (.pointer (some ⟨p, 0, none⟩)) (by kernel_rfl) rfl (by kernel_rfl) ?_
  refine x_val (.pointer (some ⟨p, 2, none⟩)) (by kernel_rfl) rfl (by kernel_rfl) ?_
  refine x_load1 H 2 p 2 _ _ (.int .i64 nx) rfl (by kernel_rfl) (by kernel_rfl) rfl (by kernel_rfl) ?_
  refine x_val (.pointer (some ⟨g1, 0, none⟩)) (by kernel_rfl) rfl (by kernel_rfl) ?_
  refine x_store (t := 3) (v := .int .i64 nx) H 1 g1 0 _ #[.int .i64 nx, .int .i64 t, .int .i64 k, .int .i64 i, .int .i64 f] 23 [.int .i64 nx] _ rfl rfl (by kernel_rfl) (by kernel_rfl) (by kernel_rfl) rfl (by kernel_rfl) (by kernel_rfl) (by kernel_rfl) (by kernel_rfl) ?_
  clear H
  intro v3 H
  refine x_nil ?_
  refine x_then ?_
  refine x_seq ?_
  refine x_region ?_
  refine x_val (.pointer (some ⟨p, 0, none⟩)) (by kernel_rfl) rfl (by kernel_rfl) ?_
  refine x_val (.pointer (some ⟨p, 0, none⟩)) (by kernel_rfl) rfl (by kernel_rfl) ?_
  refine x_val (.pointer (some ⟨p, 2, none⟩)) (by kernel_rfl) rfl (by kernel_rfl) ?_
  refine x_load1 H 2 p 2 _ _ (.int .i64 nx) rfl (by kernel_rfl) (by kernel_rfl) rfl (by kernel_rfl) ?_
  refine x_ar (nx + 1) ⟨by omega, by omega⟩ (by kernel_rfl) rfl (by kernel_rfl) ?_
  refine x_val (.pointer (some ⟨p, 0, none⟩)) (by kernel_rfl) rfl (by kernel_rfl) ?_
  refine x_val (.pointer (some ⟨p, 2, none⟩)) (by kernel_rfl) rfl (by kernel_rfl) ?_
  refine x_store (t := 3) (v := .int .i64 (nx + 1)) H 2 p 2 _ #[.slice (some ⟨g, 0, none⟩) xs.length cap, .int .i64 ((room : Nat) : Int), .int .i64 (nx + 1), .bool lo] 98 [.int .i64 (nx + 1)] _ rfl rfl (by kernel_rfl) (by kernel_rfl) (by kernel_rfl) rfl (by kernel_rfl) (by kernel_rfl) (by kernel_rfl) (by kernel_rfl) ?_
  clear H
  intro v4 H
  refine x_nil ?_
  refine x_then ?_
  refine x_seq ?_
  refine x_seq ?_
  refine x_region_whole (fun w' => Hs (fps [.blk p #[.slice (some ⟨g, 0, none⟩) xs.length cap, .int .i64 ((room : Nat) : Int), .int .i64 nx, .bool lo] 98, .row (.slice (some ⟨g, 0, none⟩) xs.length cap) 23 5 xs.length (List.flatMap recL xs)]) w0 w' [.blk g2 #[.int .i64 0, .int .i64 0, .int .i64 0, .int .i64 0, .int .i64 0] 23, .blk g1 #[.int .i64 nx, .int .i64 t, .int .i64 k, .int .i64 i, .int .i64 f] 23, .blk p #[.slice (some ⟨g, 0, none⟩) xs.length cap, .int .i64 ((room : Nat) : Int), .int .i64 (nx + 1), .bool lo] 98, .row (.slice (some ⟨g, 0, none⟩) xs.length cap) 23 5 xs.length (List.flatMap recL xs)]) (by kernel_rfl) (by kernel_rfl) (by kernel_rfl) H.drew ?_
  refine q_val (.pointer (some ⟨p, 0, none⟩)) (by kernel_rfl) (fun _ => by kernel_rfl) ?_
  refine q_val (.pointer (some ⟨p, 0, none⟩)) (by kernel_rfl) (fun _ => by kernel_rfl) ?_
  refine q_val (.pointer (some ⟨p, 0, none⟩)) (by kernel_rfl) (fun _ => by kernel_rfl) ?_
  refine q_load1 2 p 0 #[.slice (some ⟨g, 0, none⟩) xs.length cap, .int .i64 ((room : Nat) : Int), .int .i64 (nx + 1), .bool lo] 98 (.slice (some ⟨g, 0, none⟩) xs.length cap) (by kernel_rfl) (by kernel_rfl) (by kernel_rfl) (fun _ => by kernel_rfl) ?_
  refine q_val (.int .i64 ((xs.length : Nat) : Int)) (by kernel_rfl) (fun _ => by kernel_rfl) ?_
  refine q_val (.pointer (some ⟨p, 0, none⟩)) (by kernel_rfl) (fun _ => by kernel_rfl) ?_
  refine q_val (.pointer (some ⟨p, 0, none⟩)) (by kernel_rfl) (fun _ => by kernel_rfl) ?_
  refine q_val (.pointer (some ⟨p, 1, none⟩)) (by kernel_rfl) (fun _ => by kernel_rfl) ?_
  refine q_load1 2 p 1 #[.slice (some ⟨g, 0, none⟩) xs.length cap, .int .i64 ((room : Nat) : Int), .int .i64 (nx + 1), .bool lo] 98 (.int .i64 ((room : Nat) : Int)) (by kernel_rfl) (by kernel_rfl) (by kernel_rfl) (fun _ => by kernel_rfl) ?_
  refine q_val (.bool (decide (((xs.length : Nat) : Int) = ((room : Nat) : Int)))) (by kernel_rfl) (fun _ => by kernel_rfl) ?_
  refine q_nil ?_
  clear H
  intro v5 H
  refine x_then ?_
  rw [q1]
  refine x_t (by kernel_rfl) ?_
  refine x_seq ?_
  refine x_region ?_
  refine x_val (.pointer (some ⟨p, 0, none⟩)) (by kernel_rfl) rfl (by kernel_rfl) ?_
  refine x_val (.pointer (some ⟨p, 0, none⟩)) (by kernel_rfl) rfl (by kernel_rfl) ?_
  refine x_val (.pointer (some ⟨p, 3, none⟩)) (by kernel_rfl) rfl (by kernel_rfl) ?_
  refine x_store (t := 4) (v := .bool true) H 2 p 3 _ #[.slice (some ⟨g, 0, none⟩) xs.length cap, .int .i64 ((room : Nat) : Int), .int .i64 (nx + 1), .bool true] 98 [.bool true] _ rfl rfl (by kernel_rfl) (by kernel_rfl) (by kernel_rfl) rfl (by kernel_rfl) (by kernel_rfl) (by kernel_rfl) (by kernel_rfl) ?_
  clear H
  intro v6 H
  refine x_nil ?_
  refine x_frame' { tmps := #[.pointer (some ⟨p, 0, none⟩), .agg #[.int .i64 s, .int .i64 t, .int .i64 k, .int .i64 i, .int .i64 f], undef, .pointer (some ⟨g1, 0, none⟩), .pointer (some ⟨g2, 0, none⟩), .bool false, undef, .pointer (some ⟨p, 0, none⟩), .pointer (some ⟨p, 0, none⟩), .pointer (some ⟨p, 2, none⟩), .int .i64 nx, .pointer (some ⟨g1, 0, none⟩), .pointer (some ⟨p, 0, none⟩), .pointer (some ⟨p, 0, none⟩), .pointer (some ⟨p, 2, none⟩), .int .i64 nx, .int .i64 (nx + 1), .pointer (some ⟨p, 0, none⟩), .pointer (some ⟨p, 2, none⟩), .pointer (some ⟨p, 0, none⟩), .pointer (some ⟨p, 0, none⟩), .pointer (some ⟨p, 0, none⟩), .slice (some ⟨g, 0, none⟩) xs.length cap, .int .i64 ((xs.length : Nat) : Int), .pointer (some ⟨p, 0, none⟩), .pointer (some ⟨p, 0, none⟩), .pointer (some ⟨p, 1, none⟩), .int .i64 ((room : Nat) : Int), .bool true, .pointer (some ⟨p, 0, none⟩), .pointer (some ⟨p, 0, none⟩), .pointer (some ⟨p, 3, none⟩), undef, undef, undef, undef, undef, undef, undef, undef, undef, undef, undef, undef, undef, undef, undef, undef, undef, undef, undef, undef, undef, undef, undef, undef, undef, undef, undef, undef, undef, undef, undef, undef], defers := [] } (by kernel_rfl) ?_
  refine x_then ?_
  refine x_seq ?_
  refine x_region ?_
  refine x_val (.pointer (some ⟨p, 0, none⟩)) (by kernel_rfl) rfl (by kernel_rfl) ?_
  refine x_callB (.int .i64 (lightI xs)) H (by kernel_rfl) rfl (by kernel_rfl) (light_at (by omega) _ (H.roOf [2, 3] [.blk p #[.slice (some ⟨g, 0, none⟩) xs.length cap, .int .i64 ((room : Nat) : Int), .int .i64 (nx + 1), .bool true] 98, .row (.slice (some ⟨g, 0, none⟩) xs.length cap) 23 5 xs.length (List.flatMap recL xs)] (by kernel_rfl))) ?_
  clear H
  intro v7 H
  refine x_val (.int .i64 (lightI xs)) (by kernel_rfl) rfl (by kernel_rfl) ?_
  refine x_nil ?_
  refine x_then ?_
  refine x_seq ?_
  refine x_seq ?_
  refine x_region ?_
  refine x_loadn (t := 23) H 1 g1 0 _ _ [.int .i64 nx, .int .i64 t, .int .i64 k, .int .i64 i, .int .i64 f] rfl (by kernel_rfl) (by kernel_rfl) rfl (by kernel_rfl) (by kernel_rfl) ?_
  refine x_callB (.bool (decide (k = 2))) H (by kernel_rfl) rfl (by kernel_rfl) (Grave_any nx t k i f _) ?_
  clear H
  intro v8 H
  refine x_val (.bool (!(decide (k = 2)))) (by kernel_rfl) rfl (by kernel_rfl) ?_
  refine x_val (.bool (!(decide (k = 2)))) (by kernel_rfl) rfl (by kernel_rfl) ?_
  rw [q2]
  refine x_val (.int .i64 (lightI xs)) (by kernel_rfl) rfl (by kernel_rfl) ?_
  refine x_val (.bool (decide ((lightI xs) < 0))) (by kernel_rfl) rfl (by kernel_rfl) ?_
  refine x_val (.bool (decide ((lightI xs) < 0))) (by kernel_rfl) rfl (by kernel_rfl) ?_
  refine x_nil ?_
  refine x_then ?_
  rw [q3]
  refine x_f (by kernel_rfl) ?_
  refine x_skipc ?_
  refine x_then ?_
  refine x_region ?_
  refine x_val (.pointer (some ⟨p, 0, none⟩)) (by kernel_rfl) rfl (by kernel_rfl) ?_
  refine x_val (.pointer (some ⟨p, 0, none⟩)) (by kernel_rfl) rfl (by kernel_rfl) ?_
  refine x_val (.pointer (some ⟨p, 0, none⟩)) (by kernel_rfl) rfl (by kernel_rfl) ?_
  refine x_val (.pointer (some ⟨p, 0, none⟩)) (by kernel_rfl) rfl (by kernel_rfl) ?_
  refine x_load1 H 2 p 0 _ _ (.slice (some ⟨g, 0, none⟩) xs.length cap) rfl (by kernel_rfl) (by kernel_rfl) rfl (by kernel_rfl) ?_
  refine x_val (.int .i64 (lightI xs)) (by kernel_rfl) rfl (by kernel_rfl) ?_
  refine x_val (.int .i64 (lightI xs)) (by kernel_rfl) rfl (by kernel_rfl) ?_
  refine x_ar ((lightI xs) + 1) ⟨by omega, by omega⟩ (by kernel_rfl) rfl (by kernel_rfl) ?_
  refine x_callH (.slice (some ⟨g, 0, none⟩) (xs.length - 1) cap) [.row (.slice (some ⟨g, 0, none⟩) (xs.length - 1) cap) 23 5 (xs.length - 1) (List.flatMap recL (xs.eraseIdx (lq xs))), .blk g2 #[.int .i64 0, .int .i64 0, .int .i64 0, .int .i64 0, .int .i64 0] 23, .blk g1 #[.int .i64 nx, .int .i64 t, .int .i64 k, .int .i64 i, .int .i64 f] 23, .blk p #[.slice (some ⟨g, 0, none⟩) xs.length cap, .int .i64 ((room : Nat) : Int), .int .i64 (nx + 1), .bool true] 98] (by kernel_rfl) rfl (by kernel_rfl) (Hs.use (A := [.row (.slice (some ⟨g, 0, none⟩) xs.length cap) 23 5 xs.length (List.flatMap recL xs)]) (R := [.blk g2 #[.int .i64 0, .int .i64 0, .int .i64 0, .int .i64 0, .int .i64 0] 23, .blk g1 #[.int .i64 nx, .int .i64 t, .int .i64 k, .int .i64 i, .int .i64 f] 23, .blk p #[.slice (some ⟨g, 0, none⟩) xs.length cap, .int .i64 ((room : Nat) : Int), .int .i64 (nx + 1), .bool true] 98]) (H.pick [3, 0, 1, 2] _ (by decide) (by kernel_rfl)) (fun h => Delete_at xs (lq xs) hq (by omega) (lightI xs) (lightI xs + 1) hl (by rw [hl]) _ h)) ?_
  clear H
  intro v9 H
  refine x_val (.pointer (some ⟨p, 0, none⟩)) (by kernel_rfl) rfl (by kernel_rfl) ?_
  refine x_val (.pointer (some ⟨p, 0, none⟩)) (by kernel_rfl) rfl (by kernel_rfl) ?_
  refine x_store (t := 96) (v := .slice (some ⟨g, 0, none⟩) (xs.length - 1) cap) H 3 p 0 _ #[.slice (some ⟨g, 0, none⟩) (xs.length - 1) cap, .int .i64 ((room : Nat) : Int), .int .i64 (nx + 1), .bool true] 98 [.slice (some ⟨g, 0, none⟩) (xs.length - 1) cap] _ rfl rfl (by kernel_rfl) (by kernel_rfl) (by kernel_rfl) rfl (by kernel_rfl) (by kernel_rfl) (by kernel_rfl) (by kernel_rfl) ?_
  clear H
  intro v10 H
  refine x_nil ?_
  refine x_then ?_
  refine x_seq ?_
  refine x_region_s 11 (fun w' => Hs (fps [.blk p #[.slice (some ⟨g, 0, none⟩) xs.length cap, .int .i64 ((room : Nat) : Int), .int .i64 nx, .bool lo] 98, .row (.slice (some ⟨g, 0, none⟩) xs.length cap) 23 5 xs.length (List.flatMap recL xs)]) w0 w' [.blk g2 #[.int .i64 0, .int .i64 0, .int .i64 0, .int .i64 0, .int .i64 0] 23, .blk g1 #[.int .i64 nx, .int .i64 t, .int .i64 k, .int .i64 i, .int .i64 f] 23]) (fun w' => Hs (fps [.blk p #[.slice (some ⟨g, 0, none⟩) xs.length cap, .int .i64 ((room : Nat) : Int), .int .i64 nx, .bool lo] 98, .row (.slice (some ⟨g, 0, none⟩) xs.length cap) 23 5 xs.length (List.flatMap recL xs)]) w0 w' [.row (.slice (some ⟨g, 0, none⟩) (xs.length - 1) cap) 23 5 (xs.length - 1) (List.flatMap recL (xs.eraseIdx (lq xs))), .blk g2 #[.int .i64 0, .int .i64 0, .int .i64 0, .int .i64 0, .int .i64 0] 23, .blk g1 #[.int .i64 nx, .int .i64 t, .int .i64 k, .int .i64 i, .int .i64 f] 23, .blk p #[.slice (some ⟨g, 0, none⟩) (xs.length - 1) cap, .int .i64 ((room : Nat) : Int), .int .i64 (nx + 1), .bool true] 98]) (by kernel_rfl) (by kernel_rfl) (by kernel_rfl) hsShut (fun _ h => h.pick [1, 2] _ (by decide) (by kernel_rfl)) H.drew ?_
  refine s_quiet 0 rfl (by kernel_rfl) (y_val (.pointer (some ⟨p, 0, none⟩)) (by kernel_rfl) (fun _ => by kernel_rfl)) ?_
  refine s_quiet 1 rfl (by kernel_rfl) (y_val (.pointer (some ⟨p, 0, none⟩)) (by kernel_rfl) (fun _ => by kernel_rfl)) ?_
  refine s_quiet 2 rfl (by kernel_rfl) (y_val (.pointer (some ⟨p, 0, none⟩)) (by kernel_rfl) (fun _ => by kernel_rfl)) ?_
  refine s_quiet 3 rfl (by kernel_rfl) (y_val (.pointer (some ⟨p, 0, none⟩)) (by kernel_rfl) (fun _ => by kernel_rfl)) ?_
  refine s_quiet 5 rfl (by kernel_rfl) (y_loadn (t := 23) 1 g1 0 #[.int .i64 nx, .int .i64 t, .int .i64 k, .int .i64 i, .int .i64 f] 23 [.int .i64 nx, .int .i64 t, .int .i64 k, .int .i64 i, .int .i64 f] (by kernel_rfl) (by kernel_rfl) (by kernel_rfl) (by kernel_rfl) (by kernel_rfl)) ?_
  refine s_two 4 6 rfl rfl (by kernel_rfl) rfl rfl ?_ ?_
  · skip
    clear H
    intro v11 H
    refine x_load1 H 3 p 0 _ _ (.slice (some ⟨g, 0, none⟩) (xs.length - 1) cap) rfl (by kernel_rfl) (by kernel_rfl) rfl (by kernel_rfl) ?_
    refine x_nil ?_
    refine x_then ?_
    refine ⟨fun w' => Hs (fps [.blk p #[.slice (some ⟨g, 0, none⟩) xs.length cap, .int .i64 ((room : Nat) : Int), .int .i64 nx, .bool lo] 98, .row (.slice (some ⟨g, 0, none⟩) xs.length cap) 23 5 xs.length (List.flatMap recL xs)]) w0 w' [.blk g2 #[.int .i64 0, .int .i64 0, .int .i64 0, .int .i64 0, .int .i64 0] 23, .blk g1 #[.int .i64 nx, .int .i64 t, .int .i64 k, .int .i64 i, .int .i64 f] 23], fun w' => Hs (fps [.blk p #[.slice (some ⟨g, 0, none⟩) xs.length cap, .int .i64 ((room : Nat) : Int), .int .i64 nx, .bool lo] 98, .row (.slice (some ⟨g, 0, none⟩) xs.length cap) 23 5 xs.length (List.flatMap recL xs)]) w0 w' [.row (.slice (some ⟨g, 0, none⟩) (xs.length - 1) cap) 23 5 (xs.length - 1) (List.flatMap recL (xs.eraseIdx (lq xs))), .blk g2 #[.int .i64 0, .int .i64 0, .int .i64 0, .int .i64 0, .int .i64 0] 23, .blk g1 #[.int .i64 nx, .int .i64 t, .int .i64 k, .int .i64 i, .int .i64 f] 23, .blk p #[.slice (some ⟨g, 0, none⟩) (xs.length - 1) cap, .int .i64 ((room : Nat) : Int), .int .i64 (nx + 1), .bool true] 98], H, hsShut, fun _ h => h.pick [1, 2] _ (by decide) (by kernel_rfl), fun _ h => h.pick [0, 1] _ (by decide) (by kernel_rfl), ?_⟩
    refine s_one 6 rfl (by kernel_rfl) rfl ?_
    clear H
    intro v12 H
    refine x_box' H #[.int .i64 nx, .int .i64 t, .int .i64 k, .int .i64 i, .int .i64 f] 23 1 (by kernel_rfl) rfl (by kernel_rfl) ?_
    clear H
    intro v13 g3 H
    refine x_nil ?_
    refine x_then ?_
    refine ⟨fun w' => Hs (fps [.blk p #[.slice (some ⟨g, 0, none⟩) xs.length cap, .int .i64 ((room : Nat) : Int), .int .i64 nx, .bool lo] 98, .row (.slice (some ⟨g, 0, none⟩) xs.length cap) 23 5 xs.length (List.flatMap recL xs)]) w0 w' [.blk g2 #[.int .i64 0, .int .i64 0, .int .i64 0, .int .i64 0, .int .i64 0] 23, .blk g1 #[.int .i64 nx, .int .i64 t, .int .i64 k, .int .i64 i, .int .i64 f] 23], fun w' => Hs (fps [.blk p #[.slice (some ⟨g, 0, none⟩) xs.length cap, .int .i64 ((room : Nat) : Int), .int .i64 nx, .bool lo] 98, .row (.slice (some ⟨g, 0, none⟩) xs.length cap) 23 5 xs.length (List.flatMap recL xs)]) w0 w' [.blk g3 #[.int .i64 nx, .int .i64 t, .int .i64 k, .int .i64 i, .int .i64 f] 23, .row (.slice (some ⟨g, 0, none⟩) (xs.length - 1) cap) 23 5 (xs.length - 1) (List.flatMap recL (xs.eraseIdx (lq xs))), .blk g2 #[.int .i64 0, .int .i64 0, .int .i64 0, .int .i64 0, .int .i64 0] 23, .blk g1 #[.int .i64 nx, .int .i64 t, .int .i64 k, .int .i64 i, .int .i64 f] 23, .blk p #[.slice (some ⟨g, 0, none⟩) (xs.length - 1) cap, .int .i64 ((room : Nat) : Int), .int .i64 (nx + 1), .bool true] 98], H, hsShut, fun _ h => h.pick [2, 3] _ (by decide) (by kernel_rfl), fun _ h => h.pick [0, 1] _ (by decide) (by kernel_rfl), ?_⟩
    refine s_one 7 rfl (by kernel_rfl) rfl ?_
    clear H
    intro v14 H
    refine x_append H 1 (.slice (some ⟨g, 0, none⟩) (xs.length - 1) cap) 96 23 5 40 (xs.length - 1) (.agg #[.int .i64 0, .int .i64 0, .int .i64 0, .int .i64 0, .int .i64 0]) (List.flatMap recL (xs.eraseIdx (lq xs))) ⟨g3, 0, none⟩ 1 1 [.int .i64 nx, .int .i64 t, .int .i64 k, .int .i64 i, .int .i64 f] rfl (by kernel_rfl) (by kernel_rfl) rfl (by decide) (by decide) rfl (fun j u hj => by rw [add_none]; exact cellOf (H.blk 0 rfl) (by simpa using hj)) (List.all_eq_true.1 (by kernel_rfl)) (by unfold maxLen; omega) (by omega) (by kernel_rfl) rfl (by kernel_rfl) ?_
    clear H
    intro v15 g4 c4 hc4 H
    rw [show (List.flatMap recL (xs.eraseIdx (lq xs))) ++ [.int .i64 nx, .int .i64 t, .int .i64 k, .int .i64 i, .int .i64 f] = (List.flatMap recL (xs.eraseIdx (lq xs) ++ [(nx, t, k, i, f)])) from (by rw [List.flatMap_append]; rfl)] at H
    replace H : Hs (fps [.blk p #[.slice (some ⟨g, 0, none⟩) xs.length cap, .int .i64 ((room : Nat) : Int), .int .i64 nx, .bool lo] 98, .row (.slice (some ⟨g, 0, none⟩) xs.length cap) 23 5 xs.length (List.flatMap recL xs)]) w0 v15 [.blk g3 #[.int .i64 nx, .int .i64 t, .int .i64 k, .int .i64 i, .int .i64 f] 23, .row (.slice (some ⟨g4, 0, none⟩) ((xs.length - 1) + 1) c4) 23 5 ((xs.length - 1) + 1) (List.flatMap recL (xs.eraseIdx (lq xs) ++ [(nx, t, k, i, f)])), .blk g2 #[.int .i64 0, .int .i64 0, .int .i64 0, .int .i64 0, .int .i64 0] 23, .blk g1 #[.int .i64 nx, .int .i64 t, .int .i64 k, .int .i64 i, .int .i64 f] 23, .blk p #[.slice (some ⟨g, 0, none⟩) (xs.length - 1) cap, .int .i64 ((room : Nat) : Int), .int .i64 (nx + 1), .bool true] 98] := H
    replace H := H.pick [1, 2, 3, 4] [.row (.slice (some ⟨g4, 0, none⟩) ((xs.length - 1) + 1) c4) 23 5 ((xs.length - 1) + 1) (List.flatMap recL (xs.eraseIdx (lq xs) ++ [(nx, t, k, i, f)])), .blk g2 #[.int .i64 0, .int .i64 0, .int .i64 0, .int .i64 0, .int .i64 0] 23, .blk g1 #[.int .i64 nx, .int .i64 t, .int .i64 k, .int .i64 i, .int .i64 f] 23, .blk p #[.slice (some ⟨g, 0, none⟩) (xs.length - 1) cap, .int .i64 ((room : Nat) : Int), .int .i64 (nx + 1), .bool true] 98] (by decide) (by kernel_rfl)
    refine x_nil ?_
    refine x_then ?_
    refine ⟨fun w' => Hs (fps [.blk p #[.slice (some ⟨g, 0, none⟩) xs.length cap, .int .i64 ((room : Nat) : Int), .int .i64 nx, .bool lo] 98, .row (.slice (some ⟨g, 0, none⟩) xs.length cap) 23 5 xs.length (List.flatMap recL xs)]) w0 w' [.row (.slice (some ⟨g4, 0, none⟩) ((xs.length - 1) + 1) c4) 23 5 ((xs.length - 1) + 1) (List.flatMap recL (xs.eraseIdx (lq xs) ++ [(nx, t, k, i, f)])), .blk g2 #[.int .i64 0, .int .i64 0, .int .i64 0, .int .i64 0, .int .i64 0] 23, .blk g1 #[.int .i64 nx, .int .i64 t, .int .i64 k, .int .i64 i, .int .i64 f] 23], fun w' => Hs (fps [.blk p #[.slice (some ⟨g, 0, none⟩) xs.length cap, .int .i64 ((room : Nat) : Int), .int .i64 nx, .bool lo] 98, .row (.slice (some ⟨g, 0, none⟩) xs.length cap) 23 5 xs.length (List.flatMap recL xs)]) w0 w' [.row (.slice (some ⟨g4, 0, none⟩) ((xs.length - 1) + 1) c4) 23 5 ((xs.length - 1) + 1) (List.flatMap recL (xs.eraseIdx (lq xs) ++ [(nx, t, k, i, f)])), .blk g2 #[.int .i64 0, .int .i64 0, .int .i64 0, .int .i64 0, .int .i64 0] 23, .blk g1 #[.int .i64 nx, .int .i64 t, .int .i64 k, .int .i64 i, .int .i64 f] 23, .blk p #[.slice (some ⟨g, 0, none⟩) (xs.length - 1) cap, .int .i64 ((room : Nat) : Int), .int .i64 (nx + 1), .bool true] 98], H, hsShut, fun _ h => h.pick [0, 1, 2] _ (by decide) (by kernel_rfl), fun _ h => h.pick [1, 2] _ (by decide) (by kernel_rfl), ?_⟩
    refine s_quiet 8 rfl (by kernel_rfl) (y_val (.pointer (some ⟨p, 0, none⟩)) (by kernel_rfl) (fun _ => by kernel_rfl)) ?_
    refine s_quiet 9 rfl (by kernel_rfl) (y_val (.pointer (some ⟨p, 0, none⟩)) (by kernel_rfl) (fun _ => by kernel_rfl)) ?_
    refine s_one 10 rfl (by kernel_rfl) rfl ?_
    clear H
    intro v16 H
    refine x_store (t := 96) (v := .slice (some ⟨g4, 0, none⟩) ((xs.length - 1) + 1) c4) H 3 p 0 _ #[.slice (some ⟨g4, 0, none⟩) ((xs.length - 1) + 1) c4, .int .i64 ((room : Nat) : Int), .int .i64 (nx + 1), .bool true] 98 [.slice (some ⟨g4, 0, none⟩) ((xs.length - 1) + 1) c4] _ rfl rfl (by kernel_rfl) (by kernel_rfl) (by kernel_rfl) rfl (by kernel_rfl) (by kernel_rfl) (by kernel_rfl) (by kernel_rfl) ?_
    clear H
    intro v17 H
    refine x_nil ?_
    refine x_then ?_
    refine ⟨fun w' => Hs (fps [.blk p #[.slice (some ⟨g, 0, none⟩) xs.length cap, .int .i64 ((room : Nat) : Int), .int .i64 nx, .bool lo] 98, .row (.slice (some ⟨g, 0, none⟩) xs.length cap) 23 5 xs.length (List.flatMap recL xs)]) w0 w' [.row (.slice (some ⟨g4, 0, none⟩) ((xs.length - 1) + 1) c4) 23 5 ((xs.length - 1) + 1) (List.flatMap recL (xs.eraseIdx (lq xs) ++ [(nx, t, k, i, f)])), .blk g2 #[.int .i64 0, .int .i64 0, .int .i64 0, .int .i64 0, .int .i64 0] 23, .blk g1 #[.int .i64 nx, .int .i64 t, .int .i64 k, .int .i64 i, .int .i64 f] 23, .blk p #[.slice (some ⟨g4, 0, none⟩) ((xs.length - 1) + 1) c4, .int .i64 ((room : Nat) : Int), .int .i64 (nx + 1), .bool true] 98], fun w' => Hs (fps [.blk p #[.slice (some ⟨g, 0, none⟩) xs.length cap, .int .i64 ((room : Nat) : Int), .int .i64 nx, .bool lo] 98, .row (.slice (some ⟨g, 0, none⟩) xs.length cap) 23 5 xs.length (List.flatMap recL xs)]) w0 w' [.row (.slice (some ⟨g4, 0, none⟩) ((xs.length - 1) + 1) c4) 23 5 ((xs.length - 1) + 1) (List.flatMap recL (xs.eraseIdx (lq xs) ++ [(nx, t, k, i, f)])), .blk g2 #[.int .i64 0, .int .i64 0, .int .i64 0, .int .i64 0, .int .i64 0] 23, .blk g1 #[.int .i64 nx, .int .i64 t, .int .i64 k, .int .i64 i, .int .i64 f] 23, .blk p #[.slice (some ⟨g4, 0, none⟩) ((xs.length - 1) + 1) c4, .int .i64 ((room : Nat) : Int), .int .i64 (nx + 1), .bool true] 98], H, hsShut, fun _ h => h.pick [0, 1, 2, 3] _ (by decide) (by kernel_rfl), fun _ h => h.pick [0, 1, 2] _ (by decide) (by kernel_rfl), ?_⟩
    refine s_done (by kernel_rfl) ?_
    clear H
    intro v18 H
    refine x_frame' { tmps := #[.pointer (some ⟨p, 0, none⟩), .agg #[.int .i64 s, .int .i64 t, .int .i64 k, .int .i64 i, .int .i64 f], undef, .pointer (some ⟨g1, 0, none⟩), .pointer (some ⟨g2, 0, none⟩), .bool false, .int .i64 (lightI xs), .pointer (some ⟨p, 0, none⟩), .pointer (some ⟨p, 0, none⟩), .pointer (some ⟨p, 2, none⟩), .int .i64 nx, .pointer (some ⟨g1, 0, none⟩), .pointer (some ⟨p, 0, none⟩), .pointer (some ⟨p, 0, none⟩), .pointer (some ⟨p, 2, none⟩), .int .i64 nx, .int .i64 (nx + 1), .pointer (some ⟨p, 0, none⟩), .pointer (some ⟨p, 2, none⟩), .pointer (some ⟨p, 0, none⟩), .pointer (some ⟨p, 0, none⟩), .pointer (some ⟨p, 0, none⟩), .slice (some ⟨g, 0, none⟩) xs.length cap, .int .i64 ((xs.length : Nat) : Int), .pointer (some ⟨p, 0, none⟩), .pointer (some ⟨p, 0, none⟩), .pointer (some ⟨p, 1, none⟩), .int .i64 ((room : Nat) : Int), .bool true, .pointer (some ⟨p, 0, none⟩), .pointer (some ⟨p, 0, none⟩), .pointer (some ⟨p, 3, none⟩), .pointer (some ⟨p, 0, none⟩), .int .i64 (lightI xs), .agg #[.int .i64 nx, .int .i64 t, .int .i64 k, .int .i64 i, .int .i64 f], .bool true, .bool false, .bool false, .int .i64 (lightI xs), .bool false, .bool false, undef, .pointer (some ⟨p, 0, none⟩), .pointer (some ⟨p, 0, none⟩), .pointer (some ⟨p, 0, none⟩), .pointer (some ⟨p, 0, none⟩), .slice (some ⟨g, 0, none⟩) xs.length cap, .int .i64 (lightI xs), .int .i64 (lightI xs), .int .i64 ((lightI xs) + 1), .slice (some ⟨g, 0, none⟩) (xs.length - 1) cap, .pointer (some ⟨p, 0, none⟩), .pointer (some ⟨p, 0, none⟩), .pointer (some ⟨p, 0, none⟩), .pointer (some ⟨p, 0, none⟩), .pointer (some ⟨p, 0, none⟩), .pointer (some ⟨p, 0, none⟩), .slice (some ⟨g, 0, none⟩) (xs.length - 1) cap, .agg #[.int .i64 nx, .int .i64 t, .int .i64 k, .int .i64 i, .int .i64 f], .slice (some ⟨g3, 0, none⟩) 1 1, .slice (some ⟨g4, 0, none⟩) ((xs.length - 1) + 1) c4, .pointer (some ⟨p, 0, none⟩), .pointer (some ⟨p, 0, none⟩), undef], defers := [] } (by kernel_rfl) ?_
    refine x_then ?_
    refine x_seq ?_
    refine x_region ?_
    refine x_loadn (t := 23) H 2 g1 0 _ _ [.int .i64 nx, .int .i64 t, .int .i64 k, .int .i64 i, .int .i64 f] rfl (by kernel_rfl) (by kernel_rfl) rfl (by kernel_rfl) (by kernel_rfl) ?_
    refine x_store (t := 23) (v := .agg #[.int .i64 nx, .int .i64 t, .int .i64 k, .int .i64 i, .int .i64 f]) H 1 g2 0 _ #[.int .i64 nx, .int .i64 t, .int .i64 k, .int .i64 i, .int .i64 f] 23 [.int .i64 nx, .int .i64 t, .int .i64 k, .int .i64 i, .int .i64 f] _ rfl rfl (by kernel_rfl) (by kernel_rfl) (by kernel_rfl) rfl (by kernel_rfl) (by kernel_rfl) (by kernel_rfl) (by kernel_rfl) ?_
    clear H
    intro v19 H
    refine x_val (.bool true) (by kernel_rfl) rfl (by kernel_rfl) ?_
    refine x_nil ?_
    refine x_then ?_
    refine x_retc ?_
    refine x_ret (.tuple #[.agg #[.int .i64 nx, .int .i64 t, .int .i64 k, .int .i64 i, .int .i64 f], .bool true]) (by kernel_rfl) (x_rescell H 1 g2 0 #[.int .i64 nx, .int .i64 t, .int .i64 k, .int .i64 i, .int .i64 f] 23 [.int .i64 nx, .int .i64 t, .int .i64 k, .int .i64 i, .int .i64 f] (fun x => .tuple #[x, .bool true]) (by kernel_rfl) (by kernel_rfl) (by kernel_rfl)) ?_
    replace H := H.pick [3, 0] [.blk p #[.slice (some ⟨g4, 0, none⟩) ((xs.length - 1) + 1) c4, .int .i64 ((room : Nat) : Int), .int .i64 (nx + 1), .bool true] 98, .row (.slice (some ⟨g4, 0, none⟩) ((xs.length - 1) + 1) c4) 23 5 ((xs.length - 1) + 1) (List.flatMap recL (xs.eraseIdx (lq xs) ++ [(nx, t, k, i, f)]))] (by decide) (by kernel_rfl)
    exact ⟨_, rfl, H⟩
  · skip
    clear H
    intro v20 H
    refine x_box' H #[.int .i64 nx, .int .i64 t, .int .i64 k, .int .i64 i, .int .i64 f] 23 1 (by kernel_rfl) rfl (by kernel_rfl) ?_
    clear H
    intro v21 g5 H
    refine x_nil ?_
    refine x_then ?_
    refine ⟨fun w' => Hs (fps [.blk p #[.slice (some ⟨g, 0, none⟩) xs.length cap, .int .i64 ((room : Nat) : Int), .int .i64 nx, .bool lo] 98, .row (.slice (some ⟨g, 0, none⟩) xs.length cap) 23 5 xs.length (List.flatMap recL xs)]) w0 w' [.blk g2 #[.int .i64 0, .int .i64 0, .int .i64 0, .int .i64 0, .int .i64 0] 23, .blk g1 #[.int .i64 nx, .int .i64 t, .int .i64 k, .int .i64 i, .int .i64 f] 23], fun w' => Hs (fps [.blk p #[.slice (some ⟨g, 0, none⟩) xs.length cap, .int .i64 ((room : Nat) : Int), .int .i64 nx, .bool lo] 98, .row (.slice (some ⟨g, 0, none⟩) xs.length cap) 23 5 xs.length (List.flatMap recL xs)]) w0 w' [.blk g5 #[.int .i64 nx, .int .i64 t, .int .i64 k, .int .i64 i, .int .i64 f] 23, .row (.slice (some ⟨g, 0, none⟩) (xs.length - 1) cap) 23 5 (xs.length - 1) (List.flatMap recL (xs.eraseIdx (lq xs))), .blk g2 #[.int .i64 0, .int .i64 0, .int .i64 0, .int .i64 0, .int .i64 0] 23, .blk g1 #[.int .i64 nx, .int .i64 t, .int .i64 k, .int .i64 i, .int .i64 f] 23, .blk p #[.slice (some ⟨g, 0, none⟩) (xs.length - 1) cap, .int .i64 ((room : Nat) : Int), .int .i64 (nx + 1), .bool true] 98], H, hsShut, fun _ h => h.pick [2, 3] _ (by decide) (by kernel_rfl), fun _ h => h.pick [0, 1] _ (by decide) (by kernel_rfl), ?_⟩
    refine s_one 4 rfl (by kernel_rfl) rfl ?_
    clear H
    intro v22 H
    refine x_load1 H 4 p 0 _ _ (.slice (some ⟨g, 0, none⟩) (xs.length - 1) cap) rfl (by kernel_rfl) (by kernel_rfl) rfl (by kernel_rfl) ?_
    refine x_nil ?_
    refine x_then ?_
    refine ⟨fun w' => Hs (fps [.blk p #[.slice (some ⟨g, 0, none⟩) xs.length cap, .int .i64 ((room : Nat) : Int), .int .i64 nx, .bool lo] 98, .row (.slice (some ⟨g, 0, none⟩) xs.length cap) 23 5 xs.length (List.flatMap recL xs)]) w0 w' [.blk g2 #[.int .i64 0, .int .i64 0, .int .i64 0, .int .i64 0, .int .i64 0] 23, .blk g1 #[.int .i64 nx, .int .i64 t, .int .i64 k, .int .i64 i, .int .i64 f] 23], fun w' => Hs (fps [.blk p #[.slice (some ⟨g, 0, none⟩) xs.length cap, .int .i64 ((room : Nat) : Int), .int .i64 nx, .bool lo] 98, .row (.slice (some ⟨g, 0, none⟩) xs.length cap) 23 5 xs.length (List.flatMap recL xs)]) w0 w' [.blk g5 #[.int .i64 nx, .int .i64 t, .int .i64 k, .int .i64 i, .int .i64 f] 23, .row (.slice (some ⟨g, 0, none⟩) (xs.length - 1) cap) 23 5 (xs.length - 1) (List.flatMap recL (xs.eraseIdx (lq xs))), .blk g2 #[.int .i64 0, .int .i64 0, .int .i64 0, .int .i64 0, .int .i64 0] 23, .blk g1 #[.int .i64 nx, .int .i64 t, .int .i64 k, .int .i64 i, .int .i64 f] 23, .blk p #[.slice (some ⟨g, 0, none⟩) (xs.length - 1) cap, .int .i64 ((room : Nat) : Int), .int .i64 (nx + 1), .bool true] 98], H, hsShut, fun _ h => h.pick [2, 3] _ (by decide) (by kernel_rfl), fun _ h => h.pick [0, 1] _ (by decide) (by kernel_rfl), ?_⟩
    refine s_one 7 rfl (by kernel_rfl) rfl ?_
    clear H
    intro v23 H
    refine x_append H 1 (.slice (some ⟨g, 0, none⟩) (xs.length - 1) cap) 96 23 5 40 (xs.length - 1) (.agg #[.int .i64 0, .int .i64 0, .int .i64 0, .int .i64 0, .int .i64 0]) (List.flatMap recL (xs.eraseIdx (lq xs))) ⟨g5, 0, none⟩ 1 1 [.int .i64 nx, .int .i64 t, .int .i64 k, .int .i64 i, .int .i64 f] rfl (by kernel_rfl) (by kernel_rfl) rfl (by decide) (by decide) rfl (fun j u hj => by rw [add_none]; exact cellOf (H.blk 0 rfl) (by simpa using hj)) (List.all_eq_true.1 (by kernel_rfl)) (by unfold maxLen; omega) (by omega) (by kernel_rfl) rfl (by kernel_rfl) ?_
    clear H
    intro v24 g6 c6 hc6 H
    rw [show (List.flatMap recL (xs.eraseIdx (lq xs))) ++ [.int .i64 nx, .int .i64 t, .int .i64 k, .int .i64 i, .int .i64 f] = (List.flatMap recL (xs.eraseIdx (lq xs) ++ [(nx, t, k, i, f)])) from (by rw [List.flatMap_append]; rfl)] at H
    replace H : Hs (fps [.blk p #[.slice (some ⟨g, 0, none⟩) xs.length cap, .int .i64 ((room : Nat) : Int), .int .i64 nx, .bool lo] 98, .row (.slice (some ⟨g, 0, none⟩) xs.length cap) 23 5 xs.length (List.flatMap recL xs)]) w0 v24 [.blk g5 #[.int .i64 nx, .int .i64 t, .int .i64 k, .int .i64 i, .int .i64 f] 23, .row (.slice (some ⟨g6, 0, none⟩) ((xs.length - 1) + 1) c6) 23 5 ((xs.length - 1) + 1) (List.flatMap recL (xs.eraseIdx (lq xs) ++ [(nx, t, k, i, f)])), .blk g2 #[.int .i64 0, .int .i64 0, .int .i64 0, .int .i64 0, .int .i64 0] 23, .blk g1 #[.int .i64 nx, .int .i64 t, .int .i64 k, .int .i64 i, .int .i64 f] 23, .blk p #[.slice (some ⟨g, 0, none⟩) (xs.length - 1) cap, .int .i64 ((room : Nat) : Int), .int .i64 (nx + 1), .bool true] 98] := H
    replace H := H.pick [1, 2, 3, 4] [.row (.slice (some ⟨g6, 0, none⟩) ((xs.length - 1) + 1) c6) 23 5 ((xs.length - 1) + 1) (List.flatMap recL (xs.eraseIdx (lq xs) ++ [(nx, t, k, i, f)])), .blk g2 #[.int .i64 0, .int .i64 0, .int .i64 0, .int .i64 0, .int .i64 0] 23, .blk g1 #[.int .i64 nx, .int .i64 t, .int .i64 k, .int .i64 i, .int .i64 f] 23, .blk p #[.slice (some ⟨g, 0, none⟩) (xs.length - 1) cap, .int .i64 ((room : Nat) : Int), .int .i64 (nx + 1), .bool true] 98] (by decide) (by kernel_rfl)
    refine x_nil ?_
    refine x_then ?_
    refine ⟨fun w' => Hs (fps [.blk p #[.slice (some ⟨g, 0, none⟩) xs.length cap, .int .i64 ((room : Nat) : Int), .int .i64 nx, .bool lo] 98, .row (.slice (some ⟨g, 0, none⟩) xs.length cap) 23 5 xs.length (List.flatMap recL xs)]) w0 w' [.blk g2 #[.int .i64 0, .int .i64 0, .int .i64 0, .int .i64 0, .int .i64 0] 23, .blk g1 #[.int .i64 nx, .int .i64 t, .int .i64 k, .int .i64 i, .int .i64 f] 23], fun w' => Hs (fps [.blk p #[.slice (some ⟨g, 0, none⟩) xs.length cap, .int .i64 ((room : Nat) : Int), .int .i64 nx, .bool lo] 98, .row (.slice (some ⟨g, 0, none⟩) xs.length cap) 23 5 xs.length (List.flatMap recL xs)]) w0 w' [.row (.slice (some ⟨g6, 0, none⟩) ((xs.length - 1) + 1) c6) 23 5 ((xs.length - 1) + 1) (List.flatMap recL (xs.eraseIdx (lq xs) ++ [(nx, t, k, i, f)])), .blk g2 #[.int .i64 0, .int .i64 0, .int .i64 0, .int .i64 0, .int .i64 0] 23, .blk g1 #[.int .i64 nx, .int .i64 t, .int .i64 k, .int .i64 i, .int .i64 f] 23, .blk p #[.slice (some ⟨g, 0, none⟩) (xs.length - 1) cap, .int .i64 ((room : Nat) : Int), .int .i64 (nx + 1), .bool true] 98], H, hsShut, fun _ h => h.pick [1, 2] _ (by decide) (by kernel_rfl), fun _ h => h.pick [0, 1] _ (by decide) (by kernel_rfl), ?_⟩
    refine s_quiet 8 rfl (by kernel_rfl) (y_val (.pointer (some ⟨p, 0, none⟩)) (by kernel_rfl) (fun _ => by kernel_rfl)) ?_
    refine s_quiet 9 rfl (by kernel_rfl) (y_val (.pointer (some ⟨p, 0, none⟩)) (by kernel_rfl) (fun _ => by kernel_rfl)) ?_
    refine s_one 10 rfl (by kernel_rfl) rfl ?_
    clear H
    intro v25 H
    refine x_store (t := 96) (v := .slice (some ⟨g6, 0, none⟩) ((xs.length - 1) + 1) c6) H 3 p 0 _ #[.slice (some ⟨g6, 0, none⟩) ((xs.length - 1) + 1) c6, .int .i64 ((room : Nat) : Int), .int .i64 (nx + 1), .bool true] 98 [.slice (some ⟨g6, 0, none⟩) ((xs.length - 1) + 1) c6] _ rfl rfl (by kernel_rfl) (by kernel_rfl) (by kernel_rfl) rfl (by kernel_rfl) (by kernel_rfl) (by kernel_rfl) (by kernel_rfl) ?_
    clear H
    intro v26 H
    refine x_nil ?_
    refine x_then ?_
    refine ⟨fun w' => Hs (fps [.blk p #[.slice (some ⟨g, 0, none⟩) xs.length cap, .int .i64 ((room : Nat) : Int), .int .i64 nx, .bool lo] 98, .row (.slice (some ⟨g, 0, none⟩) xs.length cap) 23 5 xs.length (List.flatMap recL xs)]) w0 w' [.blk g2 #[.int .i64 0, .int .i64 0, .int .i64 0, .int .i64 0, .int .i64 0] 23, .blk g1 #[.int .i64 nx, .int .i64 t, .int .i64 k, .int .i64 i, .int .i64 f] 23], fun w' => Hs (fps [.blk p #[.slice (some ⟨g, 0, none⟩) xs.length cap, .int .i64 ((room : Nat) : Int), .int .i64 nx, .bool lo] 98, .row (.slice (some ⟨g, 0, none⟩) xs.length cap) 23 5 xs.length (List.flatMap recL xs)]) w0 w' [.row (.slice (some ⟨g6, 0, none⟩) ((xs.length - 1) + 1) c6) 23 5 ((xs.length - 1) + 1) (List.flatMap recL (xs.eraseIdx (lq xs) ++ [(nx, t, k, i, f)])), .blk g2 #[.int .i64 0, .int .i64 0, .int .i64 0, .int .i64 0, .int .i64 0] 23, .blk g1 #[.int .i64 nx, .int .i64 t, .int .i64 k, .int .i64 i, .int .i64 f] 23, .blk p #[.slice (some ⟨g6, 0, none⟩) ((xs.length - 1) + 1) c6, .int .i64 ((room : Nat) : Int), .int .i64 (nx + 1), .bool true] 98], H, hsShut, fun _ h => h.pick [1, 2] _ (by decide) (by kernel_rfl), fun _ h => h.pick [0, 1] _ (by decide) (by kernel_rfl), ?_⟩
    refine s_done (by kernel_rfl) ?_
    clear H
    intro v27 H
    refine x_frame' { tmps := #[.pointer (some ⟨p, 0, none⟩), .agg #[.int .i64 s, .int .i64 t, .int .i64 k, .int .i64 i, .int .i64 f], undef, .pointer (some ⟨g1, 0, none⟩), .pointer (some ⟨g2, 0, none⟩), .bool false, .int .i64 (lightI xs), .pointer (some ⟨p, 0, none⟩), .pointer (some ⟨p, 0, none⟩), .pointer (some ⟨p, 2, none⟩), .int .i64 nx, .pointer (some ⟨g1, 0, none⟩), .pointer (some ⟨p, 0, none⟩), .pointer (some ⟨p, 0, none⟩), .pointer (some ⟨p, 2, none⟩), .int .i64 nx, .int .i64 (nx + 1), .pointer (some ⟨p, 0, none⟩), .pointer (some ⟨p, 2, none⟩), .pointer (some ⟨p, 0, none⟩), .pointer (some ⟨p, 0, none⟩), .pointer (some ⟨p, 0, none⟩), .slice (some ⟨g, 0, none⟩) xs.length cap, .int .i64 ((xs.length : Nat) : Int), .pointer (some ⟨p, 0, none⟩), .pointer (some ⟨p, 0, none⟩), .pointer (some ⟨p, 1, none⟩), .int .i64 ((room : Nat) : Int), .bool true, .pointer (some ⟨p, 0, none⟩), .pointer (some ⟨p, 0, none⟩), .pointer (some ⟨p, 3, none⟩), .pointer (some ⟨p, 0, none⟩), .int .i64 (lightI xs), .agg #[.int .i64 nx, .int .i64 t, .int .i64 k, .int .i64 i, .int .i64 f], .bool true, .bool false, .bool false, .int .i64 (lightI xs), .bool false, .bool false, undef, .pointer (some ⟨p, 0, none⟩), .pointer (some ⟨p, 0, none⟩), .pointer (some ⟨p, 0, none⟩), .pointer (some ⟨p, 0, none⟩), .slice (some ⟨g, 0, none⟩) xs.length cap, .int .i64 (lightI xs), .int .i64 (lightI xs), .int .i64 ((lightI xs) + 1), .slice (some ⟨g, 0, none⟩) (xs.length - 1) cap, .pointer (some ⟨p, 0, none⟩), .pointer (some ⟨p, 0, none⟩), .pointer (some ⟨p, 0, none⟩), .pointer (some ⟨p, 0, none⟩), .pointer (some ⟨p, 0, none⟩), .pointer (some ⟨p, 0, none⟩), .slice (some ⟨g, 0, none⟩) (xs.length - 1) cap, .agg #[.int .i64 nx, .int .i64 t, .int .i64 k, .int .i64 i, .int .i64 f], .slice (some ⟨g5, 0, none⟩) 1 1, .slice (some ⟨g6, 0, none⟩) ((xs.length - 1) + 1) c6, .pointer (some ⟨p, 0, none⟩), .pointer (some ⟨p, 0, none⟩), undef], defers := [] } (by kernel_rfl) ?_
    refine x_then ?_
    refine x_seq ?_
    refine x_region ?_
    refine x_loadn (t := 23) H 2 g1 0 _ _ [.int .i64 nx, .int .i64 t, .int .i64 k, .int .i64 i, .int .i64 f] rfl (by kernel_rfl) (by kernel_rfl) rfl (by kernel_rfl) (by kernel_rfl) ?_
    refine x_store (t := 23) (v := .agg #[.int .i64 nx, .int .i64 t, .int .i64 k, .int .i64 i, .int .i64 f]) H 1 g2 0 _ #[.int .i64 nx, .int .i64 t, .int .i64 k, .int .i64 i, .int .i64 f] 23 [.int .i64 nx, .int .i64 t, .int .i64 k, .int .i64 i, .int .i64 f] _ rfl rfl (by kernel_rfl) (by kernel_rfl) (by kernel_rfl) rfl (by kernel_rfl) (by kernel_rfl) (by kernel_rfl) (by kernel_rfl) ?_
    clear H
    intro v28 H
    refine x_val (.bool true) (by kernel_rfl) rfl (by kernel_rfl) ?_
    refine x_nil ?_
    refine x_then ?_
    refine x_retc ?_
    refine x_ret (.tuple #[.agg #[.int .i64 nx, .int .i64 t, .int .i64 k, .int .i64 i, .int .i64 f], .bool true]) (by kernel_rfl) (x_rescell H 1 g2 0 #[.int .i64 nx, .int .i64 t, .int .i64 k, .int .i64 i, .int .i64 f] 23 [.int .i64 nx, .int .i64 t, .int .i64 k, .int .i64 i, .int .i64 f] (fun x => .tuple #[x, .bool true]) (by kernel_rfl) (by kernel_rfl) (by kernel_rfl)) ?_
    replace H := H.pick [3, 0] [.blk p #[.slice (some ⟨g6, 0, none⟩) ((xs.length - 1) + 1) c6, .int .i64 ((room : Nat) : Int), .int .i64 (nx + 1), .bool true] 98, .row (.slice (some ⟨g6, 0, none⟩) ((xs.length - 1) + 1) c6) 23 5 ((xs.length - 1) + 1) (List.flatMap recL (xs.eraseIdx (lq xs) ++ [(nx, t, k, i, f)]))] (by decide) (by kernel_rfl)
    exact ⟨_, rfl, H⟩

end
end Go.Proofs.YtjbaabffilejeaaDoor
