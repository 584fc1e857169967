/- The document's example of a log. -/
import Derived.Test.YtjbaabffilejeaaDoorRecB
namespace Go.Proofs.YtjbaabffilejeaaDoor
open Go Go.RowKit
set_option linter.unusedVariables false
set_option linter.unusedSimpArgs false

theorem Add_any {p : Nat} {sv : Value} {xs : List Rec} {room : Nat} {nx : Int} {lo : Bool} (s t k i f : Int) (hn : xs.length ≤ room) (h1 : 1 ≤ room) (hr : room ≤ 4096) (hx : -1000 ≤ nx ∧ nx ≤ 9223372036854770000) (w0 : World) (H0 : Hs (fps [.blk p #[sv, .int .i64 ((room : Nat) : Int), .int .i64 nx, .bool lo] 98, .row (sv) 23 5 xs.length (List.flatMap recL xs)]) w0 w0 [.blk p #[sv, .int .i64 ((room : Nat) : Int), .int .i64 nx, .bool lo] 98, .row (sv) 23 5 xs.length (List.flatMap recL xs)]) :
    Calls Tryd.prog 23 #[.pointer (some ⟨p, 0, none⟩), .agg #[.int .i64 s, .int .i64 t, .int .i64 k, .int .i64 i, .int .i64 f]] w0 fun e w' => ∃ sv', e = .returned (.tuple #[.agg #[.int .i64 nx, .int .i64 t, .int .i64 k, .int .i64 i, .int .i64 f], .bool (addS room xs (nx, t, k, i, f)).2]) ∧ Hs (fps [.blk p #[sv, .int .i64 ((room : Nat) : Int), .int .i64 nx, .bool lo] 98, .row (sv) 23 5 xs.length (List.flatMap recL xs)]) w0 w' [.blk p #[sv', .int .i64 ((room : Nat) : Int), .int .i64 (nx + 1), .bool (lo || !(decide (xs.length < room)))] 98, .row (sv') 23 5 ((addS room xs (nx, t, k, i, f)).1.length) (List.flatMap recL ((addS room xs (nx, t, k, i, f)).1))] := by
  rcases rowForm (H0.ok 1 _ rfl : w0.ownsRow 0 _ 5 sv _ _) with ⟨rfl, h0⟩ | ⟨g, cap, rfl, hc, _⟩
  · have e : addS room xs (nx, t, k, i, f) = (xs ++ [(nx, t, k, i, f)], true) := by unfold addS; rw [if_pos (by omega)]
    rw [e]
    have := Add_room_n s t k i f (by omega) hr hx w0 H0
    simpa [show xs.length < room by omega] using this
  · by_cases hlt : xs.length < room
    · have e : addS room xs (nx, t, k, i, f) = (xs ++ [(nx, t, k, i, f)], true) := by unfold addS; rw [if_pos hlt]
      rw [e]
      have := Add_room_s s t k i f hlt hr hx w0 H0
      simpa [hlt] using this
    · by_cases hp : k = 2 ∧ lq xs < xs.length
      · have e : addS room xs (nx, t, k, i, f) = (xs.eraseIdx (lq xs) ++ [(nx, t, k, i, f)], true) := by unfold addS; rw [if_neg hlt, if_pos hp]
        rw [e]
        have := Add_push s t k i f (by omega) hr hx hp.1 hp.2 w0 H0
        simpa [hlt, List.length_eraseIdx, hp.2] using this
      · have e : addS room xs (nx, t, k, i, f) = (xs, false) := by unfold addS; rw [if_neg hlt, if_neg hp]
        rw [e]
        have := Add_keep s t k i f (by omega) hr hx (fun hk hq => hp ⟨hk, hq⟩) w0 H0
        simpa [hlt] using this

theorem addS_len (room : Nat) (xs : List Rec) (r : Rec) (h : xs.length ≤ room) : (addS room xs r).1.length ≤ room := by
  unfold addS
  split
  · rw [List.length_append]; simp; omega
  · split
    · rename_i h2; rw [List.length_append, List.length_eraseIdx, if_pos h2.2]; simp; omega
    · exact h

set_option maxRecDepth 100000 in
set_option maxHeartbeats 2000000 in
theorem RNew_yes (room : Nat) (h1 : 1 ≤ room) (h2 : room ≤ 256) (w0 : World) :
    Calls Tryd.prog 22 #[.int .i64 ((room : Nat) : Int)] w0 fun e w' => ∃ p, e = .returned (.tuple #[.pointer (some ⟨p, 0, none⟩), .int .i64 0]) ∧ Hs [] w0 w' [.blk p #[.slice none 0 0, .int .i64 ((room : Nat) : Int), .int .i64 1, .bool false] 98, .row (.slice none 0 0) 23 5 (List.length ([] : List Rec)) (List.flatMap recL ([]))] := by
  refine x_enter Tryd.func22 rfl #[.int .i64 ((room : Nat) : Int), undef, undef, undef, undef, undef, undef, undef, undef, undef, undef, undef, undef] (by kernel_rfl) ?_
  have H := Hs.nil w0
  have q1 : decide (((room : Nat) : Int) < 1) = false := by simp; omega
  have q2 : decide (256 < ((room : Nat) : Int)) = false := by simp; omega
  refine x_seq ?_
  refine x_region ?_
  refine x_val (.pointer none) (by kernel_rfl) rfl (by kernel_rfl) ?_
  refine x_val (.int .i64 0) (by kernel_rfl) rfl (by kernel_rfl) ?_
  refine x_nil ?_
  refine x_then ?_
  refine x_seq ?_
  refine x_seq ?_
  refine x_region ?_
  refine x_val (.int .i64 ((room : Nat) : Int)) (by kernel_rfl) rfl (by kernel_rfl) ?_
  refine x_val (.bool (decide (((room : Nat) : Int) < 1))) (by kernel_rfl) rfl (by kernel_rfl) ?_
  refine x_val (.bool (decide (((room : Nat) : Int) < 1))) (by kernel_rfl) rfl (by kernel_rfl) ?_
  rw [q1]
  refine x_val (.int .i64 ((room : Nat) : Int)) (by kernel_rfl) rfl (by kernel_rfl) ?_
  refine x_val (.bool (decide (256 < ((room : Nat) : Int)))) (by kernel_rfl) rfl (by kernel_rfl) ?_
  refine x_val (.bool (decide (256 < ((room : Nat) : Int)))) (by kernel_rfl) rfl (by kernel_rfl) ?_
  refine x_nil ?_
  refine x_then ?_
  rw [q2]
  refine x_f (by kernel_rfl) ?_
  refine x_skipc ?_
  refine x_then ?_
  refine x_seq ?_
  refine x_region ?_
  refine x_val (.int .i64 ((room : Nat) : Int)) (by kernel_rfl) rfl (by kernel_rfl) ?_
  refine x_val (.agg #[.slice none 0 0, .int .i64 ((room : Nat) : Int), .int .i64 1, .bool false]) (by kernel_rfl) rfl (by kernel_rfl) ?_
  refine x_box H #[.slice none 0 0, .int .i64 ((room : Nat) : Int), .int .i64 1, .bool false] 98 (by kernel_rfl) rfl (by kernel_rfl) ?_
  clear H
  intro v1 g1 H
  refine x_val (.pointer (some ⟨g1, 0, none⟩)) (by kernel_rfl) rfl (by kernel_rfl) ?_
  refine x_val (.int .i64 0) (by kernel_rfl) rfl (by kernel_rfl) ?_
  refine x_nil ?_
  refine x_then ?_
  refine x_retc ?_
  refine x_ret (.tuple #[.pointer (some ⟨g1, 0, none⟩), .int .i64 0]) (by kernel_rfl) (by kernel_rfl) ?_
  replace H := H.nilRow 23 5
  exact ⟨_, rfl, H.pick [1, 0] _ (by decide) (by kernel_rfl)⟩

set_option maxRecDepth 100000 in
set_option maxHeartbeats 2000000 in
theorem RNew_no (room : Int) (h1 : room < 1 ∨ 256 < room) (w0 : World) :
    Calls Tryd.prog 22 #[.int .i64 room] w0 fun e w' => e = .returned (.tuple #[.pointer none, .int .i64 12]) ∧ Below w0.heap.size w0 w' := by
  refine x_enter Tryd.func22 rfl #[.int .i64 room, undef, undef, undef, undef, undef, undef, undef, undef, undef, undef, undef, undef] (by kernel_rfl) ?_
  have H := Hs.nil w0
  refine x_seq ?_
  refine x_region ?_
  refine x_val (.pointer none) (by kernel_rfl) rfl (by kernel_rfl) ?_
  refine x_val (.int .i64 0) (by kernel_rfl) rfl (by kernel_rfl) ?_
  refine x_nil ?_
  refine x_then ?_
  refine x_seq ?_
  refine x_seq ?_
  refine x_region ?_
  refine x_val (.int .i64 room) (by kernel_rfl) rfl (by kernel_rfl) ?_
  refine x_val (.bool (decide (room < 1))) (by kernel_rfl) rfl (by kernel_rfl) ?_
  refine x_val (.bool (decide (room < 1))) (by kernel_rfl) rfl (by kernel_rfl) ?_
  cases h1 : decide (room < 1)
  · skip
    have h1p := of_decide_eq_false h1
    refine x_val (.int .i64 room) (by kernel_rfl) rfl (by kernel_rfl) ?_
    refine x_val (.bool (decide (256 < room))) (by kernel_rfl) rfl (by kernel_rfl) ?_
    refine x_val (.bool (decide (256 < room))) (by kernel_rfl) rfl (by kernel_rfl) ?_
    refine x_nil ?_
    refine x_then ?_
    cases h2 : decide (256 < room)
    · skip
      have h2p := of_decide_eq_false h2
      refine x_f (by kernel_rfl) ?_
      refine x_skipc ?_
      refine x_then ?_
      refine x_seq ?_
      refine x_region ?_
      refine x_val (.int .i64 room) (by kernel_rfl) rfl (by kernel_rfl) ?_
      refine x_val (.agg #[.slice none 0 0, .int .i64 room, .int .i64 1, .bool false]) (by kernel_rfl) rfl (by kernel_rfl) ?_
      refine x_box H #[.slice none 0 0, .int .i64 room, .int .i64 1, .bool false] 98 (by kernel_rfl) rfl (by kernel_rfl) ?_
      clear H
      intro v1 g1 H
      refine x_val (.pointer (some ⟨g1, 0, none⟩)) (by kernel_rfl) rfl (by kernel_rfl) ?_
      refine x_val (.int .i64 0) (by kernel_rfl) rfl (by kernel_rfl) ?_
      refine x_nil ?_
      refine x_then ?_
      refine x_retc ?_
      refine x_ret (.tuple #[.pointer (some ⟨g1, 0, none⟩), .int .i64 0]) (by kernel_rfl) (by kernel_rfl) ?_
      exfalso; omega
    · skip
      have h2p := of_decide_eq_true h2
      refine x_t (by kernel_rfl) ?_
      refine x_seq ?_
      refine x_region ?_
      refine x_val (.pointer none) (by kernel_rfl) rfl (by kernel_rfl) ?_
      refine x_val (.int .i64 12) (by kernel_rfl) rfl (by kernel_rfl) ?_
      refine x_nil ?_
      refine x_then ?_
      refine x_retc ?_
      refine x_then_ret ?_
      refine x_ret (.tuple #[.pointer none, .int .i64 12]) (by kernel_rfl) (by kernel_rfl) ?_
      exact ⟨rfl, H.below⟩
  · skip
    have h1p := of_decide_eq_true h1
    refine x_skip (by kernel_rfl) ?_
    refine x_skip (by kernel_rfl) ?_
    refine x_val (.bool true) (by kernel_rfl) rfl (by kernel_rfl) ?_
    refine x_nil ?_
    refine x_then ?_
    refine x_t (by kernel_rfl) ?_
    refine x_seq ?_
    refine x_region ?_
    refine x_val (.pointer none) (by kernel_rfl) rfl (by kernel_rfl) ?_
    refine x_val (.int .i64 12) (by kernel_rfl) rfl (by kernel_rfl) ?_
    refine x_nil ?_
    refine x_then ?_
    refine x_retc ?_
    refine x_then_ret ?_
    refine x_ret (.tuple #[.pointer none, .int .i64 12]) (by kernel_rfl) (by kernel_rfl) ?_
    exact ⟨rfl, H.below⟩

set_option maxRecDepth 100000 in
set_option maxHeartbeats 2000000 in
theorem Lost_of {p : Nat} {sv : Value} {xs : List Rec} {room : Nat} {nx : Int} {lo : Bool} (w0 : World) (hR : Ro w0 [.blk p #[sv, .int .i64 ((room : Nat) : Int), .int .i64 nx, .bool lo] 98, .row (sv) 23 5 xs.length (List.flatMap recL xs)]) :
    Calls Tryd.prog 24 #[.pointer (some ⟨p, 0, none⟩)] w0 fun e w' => e = .returned (.bool lo) ∧ Below w0.heap.size w0 w' := by
  refine x_enter Tryd.func24 rfl #[.pointer (some ⟨p, 0, none⟩), undef, undef, undef, undef, undef, undef] (by kernel_rfl) ?_
  have H := Hs.nil w0
  have R0 := hR
  refine x_seq ?_
  refine x_region ?_
  refine x_val (.bool false) (by kernel_rfl) rfl (by kernel_rfl) ?_
  refine x_nil ?_
  refine x_then ?_
  refine x_seq ?_
  refine x_region ?_
  refine x_val (.pointer (some ⟨p, 0, none⟩)) (by kernel_rfl) rfl (by kernel_rfl) ?_
  refine x_val (.pointer (some ⟨p, 0, none⟩)) (by kernel_rfl) rfl (by kernel_rfl) ?_
  refine x_val (.pointer (some ⟨p, 3, none⟩)) (by kernel_rfl) rfl (by kernel_rfl) ?_
  refine x_loadc p 3 (.bool lo) ((H.ro R0).cell 0 rfl 3 rfl) (by kernel_rfl) rfl (by kernel_rfl) ?_
  refine x_val (.bool lo) (by kernel_rfl) rfl (by kernel_rfl) ?_
  refine x_nil ?_
  refine x_then ?_
  refine x_retc ?_
  refine x_ret (.bool lo) (by kernel_rfl) (by kernel_rfl) ?_
  exact ⟨rfl, H.below⟩

set_option maxRecDepth 100000 in
set_option maxHeartbeats 2000000 in
theorem Len_s {p : Nat} {xs : List Rec} {room : Nat} {nx : Int} {lo : Bool} {g cap : Nat} (w0 : World) (hR : Ro w0 [.blk p #[.slice (some ⟨g, 0, none⟩) xs.length cap, .int .i64 ((room : Nat) : Int), .int .i64 nx, .bool lo] 98, .row (.slice (some ⟨g, 0, none⟩) xs.length cap) 23 5 xs.length (List.flatMap recL xs)]) :
    Calls Tryd.prog 25 #[.pointer (some ⟨p, 0, none⟩)] w0 fun e w' => e = .returned (.int .i64 ((xs.length : Nat) : Int)) ∧ Below w0.heap.size w0 w' := by
  refine x_enter Tryd.func25 rfl #[.pointer (some ⟨p, 0, none⟩), undef, undef, undef, undef, undef, undef, undef] (by kernel_rfl) ?_
  have H := Hs.nil w0
  have R0 := hR
  refine x_seq ?_
  refine x_region ?_
  refine x_val (.int .i64 0) (by kernel_rfl) rfl (by kernel_rfl) ?_
  refine x_nil ?_
  refine x_then ?_
  refine x_seq ?_
  refine x_region ?_
  refine x_val (.pointer (some ⟨p, 0, none⟩)) (by kernel_rfl) rfl (by kernel_rfl) ?_
  refine x_val (.pointer (some ⟨p, 0, none⟩)) (by kernel_rfl) rfl (by kernel_rfl) ?_
  refine x_val (.pointer (some ⟨p, 0, none⟩)) (by kernel_rfl) rfl (by kernel_rfl) ?_
  refine x_loadc p 0 (.slice (some ⟨g, 0, none⟩) xs.length cap) ((H.ro R0).cell 0 rfl 0 rfl) (by kernel_rfl) rfl (by kernel_rfl) ?_
  refine x_val (.int .i64 ((xs.length : Nat) : Int)) (by kernel_rfl) rfl (by kernel_rfl) ?_
  refine x_val (.int .i64 ((xs.length : Nat) : Int)) (by kernel_rfl) rfl (by kernel_rfl) ?_
  refine x_nil ?_
  refine x_then ?_
  refine x_retc ?_
  refine x_ret (.int .i64 ((xs.length : Nat) : Int)) (by kernel_rfl) (by kernel_rfl) ?_
  exact ⟨rfl, H.below⟩

set_option maxRecDepth 100000 in
set_option maxHeartbeats 2000000 in
theorem Len_n {p : Nat} {xs : List Rec} {room : Nat} {nx : Int} {lo : Bool} (w0 : World) (hR : Ro w0 [.blk p #[.slice none 0 0, .int .i64 ((room : Nat) : Int), .int .i64 nx, .bool lo] 98, .row (.slice none 0 0) 23 5 xs.length (List.flatMap recL xs)]) :
    Calls Tryd.prog 25 #[.pointer (some ⟨p, 0, none⟩)] w0 fun e w' => e = .returned (.int .i64 0) ∧ Below w0.heap.size w0 w' := by
  refine x_enter Tryd.func25 rfl #[.pointer (some ⟨p, 0, none⟩), undef, undef, undef, undef, undef, undef, undef] (by kernel_rfl) ?_
  have H := Hs.nil w0
  have R0 := hR
  refine x_seq ?_
  refine x_region ?_
  refine x_val (.int .i64 0) (by kernel_rfl) rfl (by kernel_rfl) ?_
  refine x_nil ?_
  refine x_then ?_
  refine x_seq ?_
  refine x_region ?_
  refine x_val (.pointer (some ⟨p, 0, none⟩)) (by kernel_rfl) rfl (by kernel_rfl) ?_
  refine x_val (.pointer (some ⟨p, 0, none⟩)) (by kernel_rfl) rfl (by kernel_rfl) ?_
  refine x_val (.pointer (some ⟨p, 0, none⟩)) (by kernel_rfl) rfl (by kernel_rfl) ?_
  refine x_loadc p 0 (.slice none 0 0) ((H.ro R0).cell 0 rfl 0 rfl) (by kernel_rfl) rfl (by kernel_rfl) ?_
  refine x_val (.int .i64 0) (by kernel_rfl) rfl (by kernel_rfl) ?_
  refine x_val (.int .i64 0) (by kernel_rfl) rfl (by kernel_rfl) ?_
  refine x_nil ?_
  refine x_then ?_
  refine x_retc ?_
  refine x_ret (.int .i64 0) (by kernel_rfl) (by kernel_rfl) ?_
  exact ⟨rfl, H.below⟩

theorem Len_of {p : Nat} {sv : Value} {xs : List Rec} {room : Nat} {nx : Int} {lo : Bool} (w0 : World) (hR : Ro w0 [.blk p #[sv, .int .i64 ((room : Nat) : Int), .int .i64 nx, .bool lo] 98, .row (sv) 23 5 xs.length (List.flatMap recL xs)]) : Calls Tryd.prog 25 #[.pointer (some ⟨p, 0, none⟩)] w0 fun e w' => e = .returned (.int .i64 ((xs.length : Nat) : Int)) ∧ Below w0.heap.size w0 w' := by
  rcases rowForm (hR 1 _ rfl : w0.ownsRow 0 _ 5 sv _ _) with ⟨rfl, h0⟩ | ⟨g, cap, rfl, hc, _⟩
  · rw [h0]; exact Len_n w0 hR
  · exact Len_s w0 hR

set_option maxRecDepth 100000 in
set_option maxHeartbeats 2000000 in
theorem anchor17 (w0 : World) :
    Calls Tryd.prog 8 #[] w0 fun e w' => e = .returned (.bool true) ∧ Below w0.heap.size w0 w' := by
  refine x_enter Tryd.func8 rfl #[undef, undef, undef, undef, undef, undef, undef, undef, undef, undef, undef, undef, undef, undef, undef, undef, undef, undef, undef, undef, undef, undef, undef, undef, undef, undef, undef, undef, undef, undef, undef, undef, undef, undef, undef, undef, undef, undef, undef, undef, undef, undef, undef, undef, undef, undef, undef, undef, undef, undef, undef] (by kernel_rfl) ?_
  have H := Hs.nil w0
  refine x_seq ?_
  refine x_region ?_
  refine x_val (.bool false) (by kernel_rfl) rfl (by kernel_rfl) ?_
  refine x_nil ?_
  refine x_then ?_
  refine x_seq ?_
  refine x_region ?_
  refine x_call (by kernel_rfl) rfl (by kernel_rfl) (RNew_yes 1 (by omega) (by omega) _) ?_
  rintro _ v1 ⟨p, rfl, hN'⟩
  refine ⟨_, rfl, ?_⟩
  replace H := H.more hN'
  clear hN'
  replace H : Hs [] w0 _ [.blk p #[.slice none 0 0, .int .i64 ((1 : Nat) : Int), .int .i64 1, .bool false] 98, .row (.slice none 0 0) 23 5 (List.length ([] : List Rec)) (List.flatMap recL ([] : List Rec))] := H
  refine x_val (.tuple #[.pointer (some ⟨p, 0, none⟩), .int .i64 0]) (by kernel_rfl) rfl (by kernel_rfl) ?_
  refine x_val (.pointer (some ⟨p, 0, none⟩)) (by kernel_rfl) rfl (by kernel_rfl) ?_
  refine x_val (.int .i64 0) (by kernel_rfl) rfl (by kernel_rfl) ?_
  refine x_val (.pointer (some ⟨p, 0, none⟩)) (by kernel_rfl) rfl (by kernel_rfl) ?_
  refine x_val (.int .i64 0) (by kernel_rfl) rfl (by kernel_rfl) ?_
  refine x_nil ?_
  refine x_then ?_
  refine x_seq ?_
  refine x_seq ?_
  refine x_region ?_
  refine x_val (.int .i64 0) (by kernel_rfl) rfl (by kernel_rfl) ?_
  refine x_val (.bool false) (by kernel_rfl) rfl (by kernel_rfl) ?_
  refine x_val (.bool false) (by kernel_rfl) rfl (by kernel_rfl) ?_
  refine x_val (.pointer (some ⟨p, 0, none⟩)) (by kernel_rfl) rfl (by kernel_rfl) ?_
  refine x_val (.bool false) (by kernel_rfl) rfl (by kernel_rfl) ?_
  refine x_val (.bool false) (by kernel_rfl) rfl (by kernel_rfl) ?_
  refine x_nil ?_
  refine x_then ?_
  refine x_f (by kernel_rfl) ?_
  refine x_skipc ?_
  refine x_then ?_
  refine x_seq ?_
  refine x_region ?_
  refine x_val (.pointer (some ⟨p, 0, none⟩)) (by kernel_rfl) rfl (by kernel_rfl) ?_
  refine x_val (.agg #[.int .i64 0, .int .i64 0, .int .i64 1, .int .i64 0, .int .i64 0]) (by kernel_rfl) rfl (by kernel_rfl) ?_
  refine x_call (by kernel_rfl) rfl (by kernel_rfl) (Hs.useE (A := [.blk p #[.slice none 0 0, .int .i64 ((1 : Nat) : Int), .int .i64 1, .bool false] 98, .row (.slice none 0 0) 23 5 (List.length ([] : List Rec)) (List.flatMap recL ([] : List Rec))]) (R := []) (fun sv1 => [.blk p #[sv1, .int .i64 ((1 : Nat) : Int), .int .i64 (1 + 1), .bool (false || !(decide (List.length ([] : List Rec) < 1)))] 98, .row (sv1) 23 5 (List.length ((addS 1 ([] : List Rec) (1, 0, 1, 0, 0)).1)) (List.flatMap recL ((addS 1 ([] : List Rec) (1, 0, 1, 0, 0)).1))]) (fun _ => .tuple #[.agg #[.int .i64 1, .int .i64 0, .int .i64 1, .int .i64 0, .int .i64 0], .bool ((addS 1 ([] : List Rec) (1, 0, 1, 0, 0)).2)]) (H.pick [0, 1] _ (by decide) (by kernel_rfl)) (fun h => Add_any 0 0 1 0 0 (by first | omega | decide) (by omega) (by omega) (by omega) _ h)) ?_
  rintro _ v2 ⟨sv1, rfl, H'⟩
  refine ⟨_, rfl, ?_⟩
  clear H
  have H : Hs [] w0 _ [.blk p #[sv1, .int .i64 ((1 : Nat) : Int), .int .i64 (1 + 1), .bool (false || !(decide (List.length ([] : List Rec) < 1)))] 98, .row (sv1) 23 5 (List.length ((addS 1 ([] : List Rec) (1, 0, 1, 0, 0)).1)) (List.flatMap recL ((addS 1 ([] : List Rec) (1, 0, 1, 0, 0)).1))] := H'
  clear H'
  refine x_val (.tuple #[.agg #[.int .i64 1, .int .i64 0, .int .i64 1, .int .i64 0, .int .i64 0], .bool ((addS 1 ([] : List Rec) (1, 0, 1, 0, 0)).2)]) (by kernel_rfl) rfl (by kernel_rfl) ?_
  refine x_val (.agg #[.int .i64 1, .int .i64 0, .int .i64 1, .int .i64 0, .int .i64 0]) (by kernel_rfl) rfl (by kernel_rfl) ?_
  refine x_val (.bool ((addS 1 ([] : List Rec) (1, 0, 1, 0, 0)).2)) (by kernel_rfl) rfl (by kernel_rfl) ?_
  refine x_box H #[.int .i64 0, .int .i64 0, .int .i64 0, .int .i64 0, .int .i64 0] 23 (by kernel_rfl) rfl (by kernel_rfl) ?_
  clear H
  intro v3 g1 H
  refine x_store (t := 23) (v := .agg #[.int .i64 1, .int .i64 0, .int .i64 1, .int .i64 0, .int .i64 0]) H 0 g1 0 _ #[.int .i64 1, .int .i64 0, .int .i64 1, .int .i64 0, .int .i64 0] 23 [.int .i64 1, .int .i64 0, .int .i64 1, .int .i64 0, .int .i64 0] _ rfl rfl (by kernel_rfl) (by kernel_rfl) (by kernel_rfl) rfl (by kernel_rfl) (by kernel_rfl) (by kernel_rfl) (by kernel_rfl) ?_
  clear H
  intro v4 H
  refine x_val (.bool ((addS 1 ([] : List Rec) (1, 0, 1, 0, 0)).2)) (by kernel_rfl) rfl (by kernel_rfl) ?_
  refine x_nil ?_
  refine x_then ?_
  refine x_seq ?_
  refine x_region ?_
  refine x_val (.pointer (some ⟨p, 0, none⟩)) (by kernel_rfl) rfl (by kernel_rfl) ?_
  refine x_val (.agg #[.int .i64 0, .int .i64 0, .int .i64 2, .int .i64 0, .int .i64 0]) (by kernel_rfl) rfl (by kernel_rfl) ?_
  refine x_call (by kernel_rfl) rfl (by kernel_rfl) (Hs.useE (A := [.blk p #[sv1, .int .i64 ((1 : Nat) : Int), .int .i64 (1 + 1), .bool (false || !(decide (List.length ([] : List Rec) < 1)))] 98, .row (sv1) 23 5 (List.length ((addS 1 ([] : List Rec) (1, 0, 1, 0, 0)).1)) (List.flatMap recL ((addS 1 ([] : List Rec) (1, 0, 1, 0, 0)).1))]) (R := [.blk g1 #[.int .i64 1, .int .i64 0, .int .i64 1, .int .i64 0, .int .i64 0] 23]) (fun sv2 => [.blk p #[sv2, .int .i64 ((1 : Nat) : Int), .int .i64 ((1 + 1) + 1), .bool ((false || !(decide (List.length ([] : List Rec) < 1))) || !(decide (List.length ((addS 1 ([] : List Rec) (1, 0, 1, 0, 0)).1) < 1)))] 98, .row (sv2) 23 5 (List.length ((addS 1 ((addS 1 ([] : List Rec) (1, 0, 1, 0, 0)).1) (1 + 1, 0, 2, 0, 0)).1)) (List.flatMap recL ((addS 1 ((addS 1 ([] : List Rec) (1, 0, 1, 0, 0)).1) (1 + 1, 0, 2, 0, 0)).1))]) (fun _ => .tuple #[.agg #[.int .i64 (1 + 1), .int .i64 0, .int .i64 2, .int .i64 0, .int .i64 0], .bool ((addS 1 ((addS 1 ([] : List Rec) (1, 0, 1, 0, 0)).1) (1 + 1, 0, 2, 0, 0)).2)]) (H.pick [1, 2, 0] _ (by decide) (by kernel_rfl)) (fun h => Add_any 0 0 2 0 0 (by first | omega | decide) (by omega) (by omega) (by omega) _ h)) ?_
  rintro _ v5 ⟨sv2, rfl, H'⟩
  refine ⟨_, rfl, ?_⟩
  clear H
  have H : Hs [] w0 _ [.blk p #[sv2, .int .i64 ((1 : Nat) : Int), .int .i64 ((1 + 1) + 1), .bool ((false || !(decide (List.length ([] : List Rec) < 1))) || !(decide (List.length ((addS 1 ([] : List Rec) (1, 0, 1, 0, 0)).1) < 1)))] 98, .row (sv2) 23 5 (List.length ((addS 1 ((addS 1 ([] : List Rec) (1, 0, 1, 0, 0)).1) (1 + 1, 0, 2, 0, 0)).1)) (List.flatMap recL ((addS 1 ((addS 1 ([] : List Rec) (1, 0, 1, 0, 0)).1) (1 + 1, 0, 2, 0, 0)).1)), .blk g1 #[.int .i64 1, .int .i64 0, .int .i64 1, .int .i64 0, .int .i64 0] 23] := H'
  clear H'
  refine x_val (.tuple #[.agg #[.int .i64 (1 + 1), .int .i64 0, .int .i64 2, .int .i64 0, .int .i64 0], .bool ((addS 1 ((addS 1 ([] : List Rec) (1, 0, 1, 0, 0)).1) (1 + 1, 0, 2, 0, 0)).2)]) (by kernel_rfl) rfl (by kernel_rfl) ?_
  refine x_val (.agg #[.int .i64 (1 + 1), .int .i64 0, .int .i64 2, .int .i64 0, .int .i64 0]) (by kernel_rfl) rfl (by kernel_rfl) ?_
  refine x_val (.bool ((addS 1 ((addS 1 ([] : List Rec) (1, 0, 1, 0, 0)).1) (1 + 1, 0, 2, 0, 0)).2)) (by kernel_rfl) rfl (by kernel_rfl) ?_
  refine x_box H #[.int .i64 0, .int .i64 0, .int .i64 0, .int .i64 0, .int .i64 0] 23 (by kernel_rfl) rfl (by kernel_rfl) ?_
  clear H
  intro v6 g2 H
  refine x_store (t := 23) (v := .agg #[.int .i64 (1 + 1), .int .i64 0, .int .i64 2, .int .i64 0, .int .i64 0]) H 0 g2 0 _ #[.int .i64 (1 + 1), .int .i64 0, .int .i64 2, .int .i64 0, .int .i64 0] 23 [.int .i64 (1 + 1), .int .i64 0, .int .i64 2, .int .i64 0, .int .i64 0] _ rfl rfl (by kernel_rfl) (by kernel_rfl) (by kernel_rfl) rfl (by kernel_rfl) (by kernel_rfl) (by kernel_rfl) (by kernel_rfl) ?_
  clear H
  intro v7 H
  refine x_val (.bool ((addS 1 ((addS 1 ([] : List Rec) (1, 0, 1, 0, 0)).1) (1 + 1, 0, 2, 0, 0)).2)) (by kernel_rfl) rfl (by kernel_rfl) ?_
  refine x_nil ?_
  refine x_frame' { tmps := #[.bool false, .pointer (some ⟨p, 0, none⟩), .int .i64 0, .pointer (some ⟨g1, 0, none⟩), .bool ((addS 1 ([] : List Rec) (1, 0, 1, 0, 0)).2), .pointer (some ⟨g2, 0, none⟩), .bool ((addS 1 ((addS 1 ([] : List Rec) (1, 0, 1, 0, 0)).1) (1 + 1, 0, 2, 0, 0)).2), .tuple #[.pointer (some ⟨p, 0, none⟩), .int .i64 0], .tuple #[.pointer (some ⟨p, 0, none⟩), .int .i64 0], .pointer (some ⟨p, 0, none⟩), .int .i64 0, .int .i64 0, .bool false, .bool false, .pointer (some ⟨p, 0, none⟩), .bool false, .bool false, .tuple #[.agg #[.int .i64 1, .int .i64 0, .int .i64 1, .int .i64 0, .int .i64 0], .bool ((addS 1 ([] : List Rec) (1, 0, 1, 0, 0)).2)], .pointer (some ⟨p, 0, none⟩), .agg #[.int .i64 0, .int .i64 0, .int .i64 1, .int .i64 0, .int .i64 0], .tuple #[.agg #[.int .i64 1, .int .i64 0, .int .i64 1, .int .i64 0, .int .i64 0], .bool ((addS 1 ([] : List Rec) (1, 0, 1, 0, 0)).2)], .agg #[.int .i64 1, .int .i64 0, .int .i64 1, .int .i64 0, .int .i64 0], .bool ((addS 1 ([] : List Rec) (1, 0, 1, 0, 0)).2), .tuple #[.agg #[.int .i64 (1 + 1), .int .i64 0, .int .i64 2, .int .i64 0, .int .i64 0], .bool ((addS 1 ((addS 1 ([] : List Rec) (1, 0, 1, 0, 0)).1) (1 + 1, 0, 2, 0, 0)).2)], .pointer (some ⟨p, 0, none⟩), .agg #[.int .i64 0, .int .i64 0, .int .i64 2, .int .i64 0, .int .i64 0], .tuple #[.agg #[.int .i64 (1 + 1), .int .i64 0, .int .i64 2, .int .i64 0, .int .i64 0], .bool ((addS 1 ((addS 1 ([] : List Rec) (1, 0, 1, 0, 0)).1) (1 + 1, 0, 2, 0, 0)).2)], .agg #[.int .i64 (1 + 1), .int .i64 0, .int .i64 2, .int .i64 0, .int .i64 0], .bool ((addS 1 ((addS 1 ([] : List Rec) (1, 0, 1, 0, 0)).1) (1 + 1, 0, 2, 0, 0)).2), undef, undef, undef, undef, undef, undef, undef, undef, undef, undef, undef, undef, undef, undef, undef, undef, undef, undef, undef, undef, undef, undef], defers := [] } (by kernel_rfl) ?_
  refine x_then ?_
  refine x_seq ?_
  refine x_region ?_
  refine x_val (.bool ((addS 1 ([] : List Rec) (1, 0, 1, 0, 0)).2)) (by kernel_rfl) rfl (by kernel_rfl) ?_
  refine x_val (.bool ((addS 1 ([] : List Rec) (1, 0, 1, 0, 0)).2)) (by kernel_rfl) rfl (by kernel_rfl) ?_
  cases h1 : (addS 1 ([] : List Rec) (1, 0, 1, 0, 0)).2
  · skip
    exact absurd h1 (by decide)
  · skip
    refine x_val (.bool ((addS 1 ((addS 1 ([] : List Rec) (1, 0, 1, 0, 0)).1) (1 + 1, 0, 2, 0, 0)).2)) (by kernel_rfl) rfl (by kernel_rfl) ?_
    refine x_val (.bool ((addS 1 ((addS 1 ([] : List Rec) (1, 0, 1, 0, 0)).1) (1 + 1, 0, 2, 0, 0)).2)) (by kernel_rfl) rfl (by kernel_rfl) ?_
    refine x_val (.bool ((addS 1 ((addS 1 ([] : List Rec) (1, 0, 1, 0, 0)).1) (1 + 1, 0, 2, 0, 0)).2)) (by kernel_rfl) rfl (by kernel_rfl) ?_
    cases h2 : (addS 1 ((addS 1 ([] : List Rec) (1, 0, 1, 0, 0)).1) (1 + 1, 0, 2, 0, 0)).2
    · skip
      exact absurd h2 (by decide)
    · skip
      refine x_val (.pointer (some ⟨g2, 0, none⟩)) (by kernel_rfl) rfl (by kernel_rfl) ?_
      refine x_load1 H 0 g2 0 _ _ (.int .i64 (1 + 1)) rfl (by kernel_rfl) (by kernel_rfl) rfl (by kernel_rfl) ?_
      refine x_val (.bool (decide ((1 + 1) = 2))) (by kernel_rfl) rfl (by kernel_rfl) ?_
      refine x_val (.bool (decide ((1 + 1) = 2))) (by kernel_rfl) rfl (by kernel_rfl) ?_
      refine x_val (.bool (decide ((1 + 1) = 2))) (by kernel_rfl) rfl (by kernel_rfl) ?_
      cases h3 : decide ((1 + 1) = 2)
      · skip
        have h3p := of_decide_eq_false h3
        exact absurd h3 (by decide)
      · skip
        have h3p := of_decide_eq_true h3
        refine x_val (.pointer (some ⟨p, 0, none⟩)) (by kernel_rfl) rfl (by kernel_rfl) ?_
        refine x_callB (.bool ((false || !(decide (List.length ([] : List Rec) < 1))) || !(decide (List.length ((addS 1 ([] : List Rec) (1, 0, 1, 0, 0)).1) < 1)))) H (by kernel_rfl) rfl (by kernel_rfl) (Lost_of _ (H.roOf [1, 2] [.blk p #[sv2, .int .i64 ((1 : Nat) : Int), .int .i64 ((1 + 1) + 1), .bool ((false || !(decide (List.length ([] : List Rec) < 1))) || !(decide (List.length ((addS 1 ([] : List Rec) (1, 0, 1, 0, 0)).1) < 1)))] 98, .row (sv2) 23 5 (List.length ((addS 1 ((addS 1 ([] : List Rec) (1, 0, 1, 0, 0)).1) (1 + 1, 0, 2, 0, 0)).1)) (List.flatMap recL ((addS 1 ((addS 1 ([] : List Rec) (1, 0, 1, 0, 0)).1) (1 + 1, 0, 2, 0, 0)).1))] (by kernel_rfl))) ?_
        clear H
        intro v8 H
        refine x_val (.bool ((false || !(decide (List.length ([] : List Rec) < 1))) || !(decide (List.length ((addS 1 ([] : List Rec) (1, 0, 1, 0, 0)).1) < 1)))) (by kernel_rfl) rfl (by kernel_rfl) ?_
        refine x_val (.bool ((false || !(decide (List.length ([] : List Rec) < 1))) || !(decide (List.length ((addS 1 ([] : List Rec) (1, 0, 1, 0, 0)).1) < 1)))) (by kernel_rfl) rfl (by kernel_rfl) ?_
        cases h4 : ((false || !(decide (List.length ([] : List Rec) < 1))) || !(decide (List.length ((addS 1 ([] : List Rec) (1, 0, 1, 0, 0)).1) < 1)))
        · skip
          exact absurd h4 (by decide)
        · skip
          refine x_val (.pointer (some ⟨p, 0, none⟩)) (by kernel_rfl) rfl (by kernel_rfl) ?_
          refine x_callB (.int .i64 ((List.length ((addS 1 ((addS 1 ([] : List Rec) (1, 0, 1, 0, 0)).1) (1 + 1, 0, 2, 0, 0)).1) : Nat) : Int)) H (by kernel_rfl) rfl (by kernel_rfl) (Len_of _ (H.roOf [1, 2] [.blk p #[sv2, .int .i64 ((1 : Nat) : Int), .int .i64 ((1 + 1) + 1), .bool ((false || !(decide (List.length ([] : List Rec) < 1))) || !(decide (List.length ((addS 1 ([] : List Rec) (1, 0, 1, 0, 0)).1) < 1)))] 98, .row (sv2) 23 5 (List.length ((addS 1 ((addS 1 ([] : List Rec) (1, 0, 1, 0, 0)).1) (1 + 1, 0, 2, 0, 0)).1)) (List.flatMap recL ((addS 1 ((addS 1 ([] : List Rec) (1, 0, 1, 0, 0)).1) (1 + 1, 0, 2, 0, 0)).1))] (by kernel_rfl))) ?_
          clear H
          intro v9 H
          refine x_val (.bool (decide (((List.length ((addS 1 ((addS 1 ([] : List Rec) (1, 0, 1, 0, 0)).1) (1 + 1, 0, 2, 0, 0)).1) : Nat) : Int) = 1))) (by kernel_rfl) rfl (by kernel_rfl) ?_
          refine x_val (.bool (decide (((List.length ((addS 1 ((addS 1 ([] : List Rec) (1, 0, 1, 0, 0)).1) (1 + 1, 0, 2, 0, 0)).1) : Nat) : Int) = 1))) (by kernel_rfl) rfl (by kernel_rfl) ?_
          refine x_val (.bool (decide (((List.length ((addS 1 ((addS 1 ([] : List Rec) (1, 0, 1, 0, 0)).1) (1 + 1, 0, 2, 0, 0)).1) : Nat) : Int) = 1))) (by kernel_rfl) rfl (by kernel_rfl) ?_
          cases h5 : decide (((List.length ((addS 1 ((addS 1 ([] : List Rec) (1, 0, 1, 0, 0)).1) (1 + 1, 0, 2, 0, 0)).1) : Nat) : Int) = 1)
          · skip
            have h5p := of_decide_eq_false h5
            exact absurd h5 (by decide)
          · skip
            have h5p := of_decide_eq_true h5
            refine x_loadn (t := 23) H 0 g2 0 _ _ [.int .i64 (1 + 1), .int .i64 0, .int .i64 2, .int .i64 0, .int .i64 0] rfl (by kernel_rfl) (by kernel_rfl) rfl (by kernel_rfl) (by kernel_rfl) ?_
            refine x_callB (.bool (decide (2 = 2))) H (by kernel_rfl) rfl (by kernel_rfl) (Grave_any (1 + 1) 0 2 0 0 _) ?_
            clear H
            intro v10 H
            refine x_val (.bool (decide (2 = 2))) (by kernel_rfl) rfl (by kernel_rfl) ?_
            refine x_val (.bool (decide (2 = 2))) (by kernel_rfl) rfl (by kernel_rfl) ?_
            refine x_nil ?_
            refine x_then ?_
            refine x_retc ?_
            refine x_ret (.bool (decide (2 = 2))) (by kernel_rfl) (by kernel_rfl) ?_
            exact ⟨by rw [show (decide (2 = 2)) = true from by decide], H.below⟩

end Go.Proofs.YtjbaabffilejeaaDoor
