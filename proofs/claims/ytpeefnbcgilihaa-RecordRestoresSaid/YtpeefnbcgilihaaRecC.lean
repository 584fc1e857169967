/- Contracts of record.Log: all of it; its iterator. -/
import Derived.Test.YtpeefnbcgilihaaRecB
namespace Go.Proofs.Ytpeefnbcgilihaa
open Go Go.RowKit
set_option linter.unusedVariables false
set_option linter.unusedSimpArgs false

theorem Add_any {p : Nat} {sv : Value} {xs : List Rec} {room : Nat} {nx : Int} {lo : Bool} (s t k i f : Int) (hn : xs.length ≤ room) (h1 : 1 ≤ room) (hr : room ≤ 4096) (hx : -1000 ≤ nx ∧ nx ≤ 9223372036854770000) (w0 : World) (H0 : Hs (fps [.blk p #[sv, .int .i64 ((room : Nat) : Int), .int .i64 nx, .bool lo] 80, .row (sv) 29 5 xs.length (List.flatMap recL xs)]) w0 w0 [.blk p #[sv, .int .i64 ((room : Nat) : Int), .int .i64 nx, .bool lo] 80, .row (sv) 29 5 xs.length (List.flatMap recL xs)]) :
    Calls Try.prog 12 #[.pointer (some ⟨p, 0, none⟩), .agg #[.int .i64 s, .int .i64 t, .int .i64 k, .int .i64 i, .int .i64 f]] w0 fun e w' => ∃ sv', e = .returned (.tuple #[.agg #[.int .i64 nx, .int .i64 t, .int .i64 k, .int .i64 i, .int .i64 f], .bool (addS room xs (nx, t, k, i, f)).2]) ∧ Hs (fps [.blk p #[sv, .int .i64 ((room : Nat) : Int), .int .i64 nx, .bool lo] 80, .row (sv) 29 5 xs.length (List.flatMap recL xs)]) w0 w' [.blk p #[sv', .int .i64 ((room : Nat) : Int), .int .i64 (nx + 1), .bool (lo || !(decide (xs.length < room)))] 80, .row (sv') 29 5 ((addS room xs (nx, t, k, i, f)).1.length) (List.flatMap recL ((addS room xs (nx, t, k, i, f)).1))] := by
  rcases rowForm (H0.ok 1 _ rfl : w0.ownsRow 0 _ 5 sv _ _) with ⟨rfl, h0⟩ | ⟨g, cap, rfl, hc, _⟩
  · have e : addS room xs (nx, t, k, i, f) = (xs ++ [(nx, t, k, i, f)], true) := by unfold addS; rw [if_pos (by omega)]
    rw [e]
    have := Add_room_n s t k i f (by omega) hr hx w0 H0
    simpa [show xs.length < room by omega] using this
  · by_cases hlt : xs.length < room
    · have e : addS room xs (nx, t, k, i, f) = (xs ++ [(nx, t, k, i, f)], true) := by unfold addS; rw [if_pos hlt]
      rw [e]
      have := Add_room_s s t k i f hlt hr hx w0 H0
      simpa [hlt] using this
    · by_cases hp : k = 2 ∧ lq xs < xs.length
      · have e : addS room xs (nx, t, k, i, f) = (xs.eraseIdx (lq xs) ++ [(nx, t, k, i, f)], true) := by unfold addS; rw [if_neg hlt, if_pos hp]
        rw [e]
        have := Add_push s t k i f (by omega) hr hx hp.1 hp.2 w0 H0
        simpa [hlt, List.length_eraseIdx, hp.2] using this
      · have e : addS room xs (nx, t, k, i, f) = (xs, false) := by unfold addS; rw [if_neg hlt, if_neg hp]
        rw [e]
        have := Add_keep s t k i f (by omega) hr hx (fun hk hq => hp ⟨hk, hq⟩) w0 H0
        simpa [hlt] using this

theorem addS_len (room : Nat) (xs : List Rec) (r : Rec) (h : xs.length ≤ room) : (addS room xs r).1.length ≤ room := by
  unfold addS
  split
  · rw [List.length_append]; simp; omega
  · split
    · rename_i h2; rw [List.length_append, List.length_eraseIdx, if_pos h2.2]; simp; omega
    · exact h

set_option maxRecDepth 100000 in
set_option maxHeartbeats 2000000 in
theorem RNew_yes (room : Nat) (h1 : 1 ≤ room) (h2 : room ≤ 256) (w0 : World) :
    Calls Try.prog 11 #[.int .i64 ((room : Nat) : Int)] w0 fun e w' => ∃ p, e = .returned (.tuple #[.pointer (some ⟨p, 0, none⟩), .int .i64 0]) ∧ Hs [] w0 w' [.blk p #[.slice none 0 0, .int .i64 ((room : Nat) : Int), .int .i64 1, .bool false] 80, .row (.slice none 0 0) 29 5 (List.length ([] : List Rec)) (List.flatMap recL ([]))] := by
  refine x_enter Try.func11 rfl #[.int .i64 ((room : Nat) : Int), undef, undef, undef, undef, undef, undef, undef, undef, undef, undef, undef, undef] (by kernel_rfl) ?_
  have H := Hs.nil w0
  have q1 : decide (((room : Nat) : Int) < 1) = false := by simp; omega
  have q2 : decide (256 < ((room : Nat) : Int)) = false := by simp; omega
  refine x_seq ?_
  refine x_region ?_
  refine x_val (.pointer none) (by kernel_rfl) rfl (by kernel_rfl) ?_
  refine x_val (.int .i64 0) (by kernel_rfl) rfl (by kernel_rfl) ?_
  refine x_nil ?_
  refine x_then ?_
  refine x_seq ?_
  refine x_seq ?_
  refine x_region ?_
  refine x_val (.int .i64 ((room : Nat) : Int)) (by kernel_rfl) rfl (by kernel_rfl) ?_
  refine x_val (.bool (decide (((room : Nat) : Int) < 1))) (by kernel_rfl) rfl (by kernel_rfl) ?_
  refine x_val (.bool (decide (((room : Nat) : Int) < 1))) (by kernel_rfl) rfl (by kernel_rfl) ?_
  rw [q1]
  refine x_val (.int .i64 ((room : Nat) : Int)) (by kernel_rfl) rfl (by kernel_rfl) ?_
  refine x_val (.bool (decide (256 < ((room : Nat) : Int)))) (by kernel_rfl) rfl (by kernel_rfl) ?_
  refine x_val (.bool (decide (256 < ((room : Nat) : Int)))) (by kernel_rfl) rfl (by kernel_rfl) ?_
  refine x_nil ?_
  refine x_then ?_
  rw [q2]
  refine x_f (by kernel_rfl) ?_
  refine x_skipc ?_
  refine x_then ?_
  refine x_seq ?_
  refine x_region ?_
  refine x_val (.int .i64 ((room : Nat) : Int)) (by kernel_rfl) rfl (by kernel_rfl) ?_
  refine x_val (.agg #[.slice none 0 0, .int .i64 ((room : Nat) : Int), .int .i64 1, .bool false]) (by kernel_rfl) rfl (by kernel_rfl) ?_
  refine x_box H #[.slice none 0 0, .int .i64 ((room : Nat) : Int), .int .i64 1, .bool false] 80 (by kernel_rfl) rfl (by kernel_rfl) ?_
  clear H
  intro v1 g1 H
  refine x_val (.pointer (some ⟨g1, 0, none⟩)) (by kernel_rfl) rfl (by kernel_rfl) ?_
  refine x_val (.int .i64 0) (by kernel_rfl) rfl (by kernel_rfl) ?_
  refine x_nil ?_
  refine x_then ?_
  refine x_retc ?_
  refine x_ret (.tuple #[.pointer (some ⟨g1, 0, none⟩), .int .i64 0]) (by kernel_rfl) (by kernel_rfl) ?_
  replace H := H.nilRow 29 5
  exact ⟨_, rfl, H.pick [1, 0] _ (by decide) (by kernel_rfl)⟩

set_option maxRecDepth 100000 in
set_option maxHeartbeats 2000000 in
theorem RNew_no (room : Int) (h1 : room < 1 ∨ 256 < room) (w0 : World) :
    Calls Try.prog 11 #[.int .i64 room] w0 fun e w' => e = .returned (.tuple #[.pointer none, .int .i64 12]) ∧ Below w0.heap.size w0 w' := by
  refine x_enter Try.func11 rfl #[.int .i64 room, undef, undef, undef, undef, undef, undef, undef, undef, undef, undef, undef, undef] (by kernel_rfl) ?_
  have H := Hs.nil w0
  refine x_seq ?_
  refine x_region ?_
  refine x_val (.pointer none) (by kernel_rfl) rfl (by kernel_rfl) ?_
  refine x_val (.int .i64 0) (by kernel_rfl) rfl (by kernel_rfl) ?_
  refine x_nil ?_
  refine x_then ?_
  refine x_seq ?_
  refine x_seq ?_
  refine x_region ?_
  refine x_val (.int .i64 room) (by kernel_rfl) rfl (by kernel_rfl) ?_
  refine x_val (.bool (decide (room < 1))) (by kernel_rfl) rfl (by kernel_rfl) ?_
  refine x_val (.bool (decide (room < 1))) (by kernel_rfl) rfl (by kernel_rfl) ?_
  cases h1 : decide (room < 1)
  · skip
    have h1p := of_decide_eq_false h1
    refine x_val (.int .i64 room) (by kernel_rfl) rfl (by kernel_rfl) ?_
    refine x_val (.bool (decide (256 < room))) (by kernel_rfl) rfl (by kernel_rfl) ?_
    refine x_val (.bool (decide (256 < room))) (by kernel_rfl) rfl (by kernel_rfl) ?_
    refine x_nil ?_
    refine x_then ?_
    cases h2 : decide (256 < room)
    · skip
      have h2p := of_decide_eq_false h2
      refine x_f (by kernel_rfl) ?_
      refine x_skipc ?_
      refine x_then ?_
      refine x_seq ?_
      refine x_region ?_
      refine x_val (.int .i64 room) (by kernel_rfl) rfl (by kernel_rfl) ?_
      refine x_val (.agg #[.slice none 0 0, .int .i64 room, .int .i64 1, .bool false]) (by kernel_rfl) rfl (by kernel_rfl) ?_
      refine x_box H #[.slice none 0 0, .int .i64 room, .int .i64 1, .bool false] 80 (by kernel_rfl) rfl (by kernel_rfl) ?_
      clear H
      intro v1 g1 H
      refine x_val (.pointer (some ⟨g1, 0, none⟩)) (by kernel_rfl) rfl (by kernel_rfl) ?_
      refine x_val (.int .i64 0) (by kernel_rfl) rfl (by kernel_rfl) ?_
      refine x_nil ?_
      refine x_then ?_
      refine x_retc ?_
      refine x_ret (.tuple #[.pointer (some ⟨g1, 0, none⟩), .int .i64 0]) (by kernel_rfl) (by kernel_rfl) ?_
      exfalso; omega
    · skip
      have h2p := of_decide_eq_true h2
      refine x_t (by kernel_rfl) ?_
      refine x_seq ?_
      refine x_region ?_
      refine x_val (.pointer none) (by kernel_rfl) rfl (by kernel_rfl) ?_
      refine x_val (.int .i64 12) (by kernel_rfl) rfl (by kernel_rfl) ?_
      refine x_nil ?_
      refine x_then ?_
      refine x_retc ?_
      refine x_then_ret ?_
      refine x_ret (.tuple #[.pointer none, .int .i64 12]) (by kernel_rfl) (by kernel_rfl) ?_
      exact ⟨rfl, H.below⟩
  · skip
    have h1p := of_decide_eq_true h1
    refine x_skip (by kernel_rfl) ?_
    refine x_skip (by kernel_rfl) ?_
    refine x_val (.bool true) (by kernel_rfl) rfl (by kernel_rfl) ?_
    refine x_nil ?_
    refine x_then ?_
    refine x_t (by kernel_rfl) ?_
    refine x_seq ?_
    refine x_region ?_
    refine x_val (.pointer none) (by kernel_rfl) rfl (by kernel_rfl) ?_
    refine x_val (.int .i64 12) (by kernel_rfl) rfl (by kernel_rfl) ?_
    refine x_nil ?_
    refine x_then ?_
    refine x_retc ?_
    refine x_then_ret ?_
    refine x_ret (.tuple #[.pointer none, .int .i64 12]) (by kernel_rfl) (by kernel_rfl) ?_
    exact ⟨rfl, H.below⟩

set_option maxRecDepth 100000 in
set_option maxHeartbeats 2000000 in
theorem Lost_of {p : Nat} {sv : Value} {xs : List Rec} {room : Nat} {nx : Int} {lo : Bool} (w0 : World) (hR : Ro w0 [.blk p #[sv, .int .i64 ((room : Nat) : Int), .int .i64 nx, .bool lo] 80, .row (sv) 29 5 xs.length (List.flatMap recL xs)]) :
    Calls Try.prog 15 #[.pointer (some ⟨p, 0, none⟩)] w0 fun e w' => e = .returned (.bool lo) ∧ Below w0.heap.size w0 w' := by
  refine x_enter Try.func15 rfl #[.pointer (some ⟨p, 0, none⟩), undef, undef, undef, undef, undef, undef] (by kernel_rfl) ?_
  have H := Hs.nil w0
  have R0 := hR
  refine x_seq ?_
  refine x_region ?_
  refine x_val (.bool false) (by kernel_rfl) rfl (by kernel_rfl) ?_
  refine x_nil ?_
  refine x_then ?_
  refine x_seq ?_
  refine x_region ?_
  refine x_val (.pointer (some ⟨p, 0, none⟩)) (by kernel_rfl) rfl (by kernel_rfl) ?_
  refine x_val (.pointer (some ⟨p, 0, none⟩)) (by kernel_rfl) rfl (by kernel_rfl) ?_
  refine x_val (.pointer (some ⟨p, 3, none⟩)) (by kernel_rfl) rfl (by kernel_rfl) ?_
  refine x_loadc p 3 (.bool lo) ((H.ro R0).cell 0 rfl 3 rfl) (by kernel_rfl) rfl (by kernel_rfl) ?_
  refine x_val (.bool lo) (by kernel_rfl) rfl (by kernel_rfl) ?_
  refine x_nil ?_
  refine x_then ?_
  refine x_retc ?_
  refine x_ret (.bool lo) (by kernel_rfl) (by kernel_rfl) ?_
  exact ⟨rfl, H.below⟩

set_option maxRecDepth 100000 in
set_option maxHeartbeats 2000000 in
theorem RNext_of {p : Nat} {sv : Value} {xs : List Rec} {room : Nat} {nx : Int} {lo : Bool} (w0 : World) (hR : Ro w0 [.blk p #[sv, .int .i64 ((room : Nat) : Int), .int .i64 nx, .bool lo] 80, .row (sv) 29 5 xs.length (List.flatMap recL xs)]) :
    Calls Try.prog 17 #[.pointer (some ⟨p, 0, none⟩)] w0 fun e w' => e = .returned (.int .i64 nx) ∧ Below w0.heap.size w0 w' := by
  refine x_enter Try.func17 rfl #[.pointer (some ⟨p, 0, none⟩), undef, undef, undef, undef, undef, undef] (by kernel_rfl) ?_
  have H := Hs.nil w0
  have R0 := hR
  refine x_seq ?_
  refine x_region ?_
  refine x_val (.int .i64 0) (by kernel_rfl) rfl (by kernel_rfl) ?_
  refine x_nil ?_
  refine x_then ?_
  refine x_seq ?_
  refine x_region ?_
  refine x_val (.pointer (some ⟨p, 0, none⟩)) (by kernel_rfl) rfl (by kernel_rfl) ?_
  refine x_val (.pointer (some ⟨p, 0, none⟩)) (by kernel_rfl) rfl (by kernel_rfl) ?_
  refine x_val (.pointer (some ⟨p, 2, none⟩)) (by kernel_rfl) rfl (by kernel_rfl) ?_
  refine x_loadc p 2 (.int .i64 nx) ((H.ro R0).cell 0 rfl 2 rfl) (by kernel_rfl) rfl (by kernel_rfl) ?_
  refine x_val (.int .i64 nx) (by kernel_rfl) rfl (by kernel_rfl) ?_
  refine x_nil ?_
  refine x_then ?_
  refine x_retc ?_
  refine x_ret (.int .i64 nx) (by kernel_rfl) (by kernel_rfl) ?_
  exact ⟨rfl, H.below⟩

set_option maxRecDepth 100000 in
set_option maxHeartbeats 2000000 in
theorem Len_s {p : Nat} {xs : List Rec} {room : Nat} {nx : Int} {lo : Bool} {g cap : Nat} (w0 : World) (hR : Ro w0 [.blk p #[.slice (some ⟨g, 0, none⟩) xs.length cap, .int .i64 ((room : Nat) : Int), .int .i64 nx, .bool lo] 80, .row (.slice (some ⟨g, 0, none⟩) xs.length cap) 29 5 xs.length (List.flatMap recL xs)]) :
    Calls Try.prog 16 #[.pointer (some ⟨p, 0, none⟩)] w0 fun e w' => e = .returned (.int .i64 ((xs.length : Nat) : Int)) ∧ Below w0.heap.size w0 w' := by
  refine x_enter Try.func16 rfl #[.pointer (some ⟨p, 0, none⟩), undef, undef, undef, undef, undef, undef, undef] (by kernel_rfl) ?_
  have H := Hs.nil w0
  have R0 := hR
  refine x_seq ?_
  refine x_region ?_
  refine x_val (.int .i64 0) (by kernel_rfl) rfl (by kernel_rfl) ?_
  refine x_nil ?_
  refine x_then ?_
  refine x_seq ?_
  refine x_region ?_
  refine x_val (.pointer (some ⟨p, 0, none⟩)) (by kernel_rfl) rfl (by kernel_rfl) ?_
  refine x_val (.pointer (some ⟨p, 0, none⟩)) (by kernel_rfl) rfl (by kernel_rfl) ?_
  refine x_val (.pointer (some ⟨p, 0, none⟩)) (by kernel_rfl) rfl (by kernel_rfl) ?_
  refine x_loadc p 0 (.slice (some ⟨g, 0, none⟩) xs.length cap) ((H.ro R0).cell 0 rfl 0 rfl) (by kernel_rfl) rfl (by kernel_rfl) ?_
  refine x_val (.int .i64 ((xs.length : Nat) : Int)) (by kernel_rfl) rfl (by kernel_rfl) ?_
  refine x_val (.int .i64 ((xs.length : Nat) : Int)) (by kernel_rfl) rfl (by kernel_rfl) ?_
  refine x_nil ?_
  refine x_then ?_
  refine x_retc ?_
  refine x_ret (.int .i64 ((xs.length : Nat) : Int)) (by kernel_rfl) (by kernel_rfl) ?_
  exact ⟨rfl, H.below⟩

set_option maxRecDepth 100000 in
set_option maxHeartbeats 2000000 in
theorem Len_n {p : Nat} {xs : List Rec} {room : Nat} {nx : Int} {lo : Bool} (w0 : World) (hR : Ro w0 [.blk p #[.slice none 0 0, .int .i64 ((room : Nat) : Int), .int .i64 nx, .bool lo] 80, .row (.slice none 0 0) 29 5 xs.length (List.flatMap recL xs)]) :
    Calls Try.prog 16 #[.pointer (some ⟨p, 0, none⟩)] w0 fun e w' => e = .returned (.int .i64 0) ∧ Below w0.heap.size w0 w' := by
  refine x_enter Try.func16 rfl #[.pointer (some ⟨p, 0, none⟩), undef, undef, undef, undef, undef, undef, undef] (by kernel_rfl) ?_
  have H := Hs.nil w0
  have R0 := hR
  refine x_seq ?_
  refine x_region ?_
  refine x_val (.int .i64 0) (by kernel_rfl) rfl (by kernel_rfl) ?_
  refine x_nil ?_
  refine x_then ?_
  refine x_seq ?_
  refine x_region ?_
  refine x_val (.pointer (some ⟨p, 0, none⟩)) (by kernel_rfl) rfl (by kernel_rfl) ?_
  refine x_val (.pointer (some ⟨p, 0, none⟩)) (by kernel_rfl) rfl (by kernel_rfl) ?_
  refine x_val (.pointer (some ⟨p, 0, none⟩)) (by kernel_rfl) rfl (by kernel_rfl) ?_
  refine x_loadc p 0 (.slice none 0 0) ((H.ro R0).cell 0 rfl 0 rfl) (by kernel_rfl) rfl (by kernel_rfl) ?_
  refine x_val (.int .i64 0) (by kernel_rfl) rfl (by kernel_rfl) ?_
  refine x_val (.int .i64 0) (by kernel_rfl) rfl (by kernel_rfl) ?_
  refine x_nil ?_
  refine x_then ?_
  refine x_retc ?_
  refine x_ret (.int .i64 0) (by kernel_rfl) (by kernel_rfl) ?_
  exact ⟨rfl, H.below⟩

theorem Len_of {p : Nat} {sv : Value} {xs : List Rec} {room : Nat} {nx : Int} {lo : Bool} (w0 : World) (hR : Ro w0 [.blk p #[sv, .int .i64 ((room : Nat) : Int), .int .i64 nx, .bool lo] 80, .row (sv) 29 5 xs.length (List.flatMap recL xs)]) : Calls Try.prog 16 #[.pointer (some ⟨p, 0, none⟩)] w0 fun e w' => e = .returned (.int .i64 ((xs.length : Nat) : Int)) ∧ Below w0.heap.size w0 w' := by
  rcases rowForm (hR 1 _ rfl : w0.ownsRow 0 _ 5 sv _ _) with ⟨rfl, h0⟩ | ⟨g, cap, rfl, hc, _⟩
  · rw [h0]; exact Len_n w0 hR
  · exact Len_s w0 hR

set_option maxRecDepth 100000 in
set_option maxHeartbeats 2000000 in
theorem Clear_s {p : Nat} {xs : List Rec} {room : Nat} {nx : Int} {lo : Bool} {g cap : Nat} (w0 : World) (H0 : Hs (fps [.blk p #[.slice (some ⟨g, 0, none⟩) xs.length cap, .int .i64 ((room : Nat) : Int), .int .i64 nx, .bool lo] 80, .row (.slice (some ⟨g, 0, none⟩) xs.length cap) 29 5 xs.length (List.flatMap recL xs)]) w0 w0 [.blk p #[.slice (some ⟨g, 0, none⟩) xs.length cap, .int .i64 ((room : Nat) : Int), .int .i64 nx, .bool lo] 80, .row (.slice (some ⟨g, 0, none⟩) xs.length cap) 29 5 xs.length (List.flatMap recL xs)]) :
    Calls Try.prog 18 #[.pointer (some ⟨p, 0, none⟩)] w0 fun e w' => e = .returned (.int .i64 ((xs.length : Nat) : Int)) ∧ Hs (fps [.blk p #[.slice (some ⟨g, 0, none⟩) xs.length cap, .int .i64 ((room : Nat) : Int), .int .i64 nx, .bool lo] 80, .row (.slice (some ⟨g, 0, none⟩) xs.length cap) 29 5 xs.length (List.flatMap recL xs)]) w0 w' [.blk p #[.slice none 0 0, .int .i64 ((room : Nat) : Int), .int .i64 nx, .bool false] 80, .row (.slice none 0 0) 29 5 (List.length ([] : List Rec)) (List.flatMap recL ([]))] := by
  refine x_enter Try.func18 rfl #[.pointer (some ⟨p, 0, none⟩), undef, undef, undef, undef, undef, undef, undef, undef, undef, undef, undef, undef, undef, undef, undef] (by kernel_rfl) ?_
  have H := H0
  refine x_seq ?_
  refine x_region ?_
  refine x_val (.int .i64 0) (by kernel_rfl) rfl (by kernel_rfl) ?_
  refine x_nil ?_
  refine x_then ?_
  refine x_seq ?_
  refine x_region ?_
  refine x_val (.pointer (some ⟨p, 0, none⟩)) (by kernel_rfl) rfl (by kernel_rfl) ?_
  refine x_val (.pointer (some ⟨p, 0, none⟩)) (by kernel_rfl) rfl (by kernel_rfl) ?_
  refine x_val (.pointer (some ⟨p, 0, none⟩)) (by kernel_rfl) rfl (by kernel_rfl) ?_
  refine x_load1 H 0 p 0 #[.slice (some ⟨g, 0, none⟩) xs.length cap, .int .i64 ((room : Nat) : Int), .int .i64 nx, .bool lo] 80 (.slice (some ⟨g, 0, none⟩) xs.length cap) (by kernel_rfl) (by kernel_rfl) (by kernel_rfl) rfl (by kernel_rfl) ?_
  refine x_val (.int .i64 ((xs.length : Nat) : Int)) (by kernel_rfl) rfl (by kernel_rfl) ?_
  refine x_val (.int .i64 ((xs.length : Nat) : Int)) (by kernel_rfl) rfl (by kernel_rfl) ?_
  refine x_nil ?_
  refine x_then ?_
  refine x_seq ?_
  refine x_region ?_
  refine x_val (.pointer (some ⟨p, 0, none⟩)) (by kernel_rfl) rfl (by kernel_rfl) ?_
  refine x_val (.pointer (some ⟨p, 0, none⟩)) (by kernel_rfl) rfl (by kernel_rfl) ?_
  refine x_val (.pointer (some ⟨p, 0, none⟩)) (by kernel_rfl) rfl (by kernel_rfl) ?_
  refine x_val (.pointer (some ⟨p, 0, none⟩)) (by kernel_rfl) rfl (by kernel_rfl) ?_
  refine x_store (t := 22) (v := .slice none 0 0) H 0 p 0 #[.slice (some ⟨g, 0, none⟩) xs.length cap, .int .i64 ((room : Nat) : Int), .int .i64 nx, .bool lo] #[.slice none 0 0, .int .i64 ((room : Nat) : Int), .int .i64 nx, .bool lo] 80 [.slice none 0 0] [.blk p #[.slice none 0 0, .int .i64 ((room : Nat) : Int), .int .i64 nx, .bool lo] 80, .row (.slice (some ⟨g, 0, none⟩) xs.length cap) 29 5 xs.length (List.flatMap recL xs)] (by kernel_rfl) rfl (by kernel_rfl) (by kernel_rfl) (by kernel_rfl) (by kernel_rfl) (by kernel_rfl) (by kernel_rfl) (by kernel_rfl) (by kernel_rfl) ?_
  clear H
  intro v1 H
  refine x_val (.pointer (some ⟨p, 0, none⟩)) (by kernel_rfl) rfl (by kernel_rfl) ?_
  refine x_val (.pointer (some ⟨p, 3, none⟩)) (by kernel_rfl) rfl (by kernel_rfl) ?_
  refine x_store (t := 4) (v := .bool false) H 0 p 3 #[.slice none 0 0, .int .i64 ((room : Nat) : Int), .int .i64 nx, .bool lo] #[.slice none 0 0, .int .i64 ((room : Nat) : Int), .int .i64 nx, .bool false] 80 [.bool false] [.blk p #[.slice none 0 0, .int .i64 ((room : Nat) : Int), .int .i64 nx, .bool false] 80, .row (.slice (some ⟨g, 0, none⟩) xs.length cap) 29 5 xs.length (List.flatMap recL xs)] (by kernel_rfl) rfl (by kernel_rfl) (by kernel_rfl) (by kernel_rfl) (by kernel_rfl) (by kernel_rfl) (by kernel_rfl) (by kernel_rfl) (by kernel_rfl) ?_
  clear H
  intro v2 H
  refine x_nil ?_
  refine x_then ?_
  refine x_seq ?_
  refine x_region ?_
  refine x_val (.int .i64 ((xs.length : Nat) : Int)) (by kernel_rfl) rfl (by kernel_rfl) ?_
  refine x_val (.int .i64 ((xs.length : Nat) : Int)) (by kernel_rfl) rfl (by kernel_rfl) ?_
  refine x_nil ?_
  refine x_then ?_
  refine x_retc ?_
  refine x_ret (.int .i64 ((xs.length : Nat) : Int)) (by kernel_rfl) (by kernel_rfl) ?_
  replace H := H.nilRow 29 5
  exact ⟨rfl, H.pick [1, 0] _ (by decide) (by kernel_rfl)⟩

set_option maxRecDepth 100000 in
set_option maxHeartbeats 2000000 in
theorem Clear_n {p : Nat} {xs : List Rec} {room : Nat} {nx : Int} {lo : Bool} (w0 : World) (H0 : Hs (fps [.blk p #[.slice none 0 0, .int .i64 ((room : Nat) : Int), .int .i64 nx, .bool lo] 80, .row (.slice none 0 0) 29 5 xs.length (List.flatMap recL xs)]) w0 w0 [.blk p #[.slice none 0 0, .int .i64 ((room : Nat) : Int), .int .i64 nx, .bool lo] 80, .row (.slice none 0 0) 29 5 xs.length (List.flatMap recL xs)]) :
    Calls Try.prog 18 #[.pointer (some ⟨p, 0, none⟩)] w0 fun e w' => e = .returned (.int .i64 0) ∧ Hs (fps [.blk p #[.slice none 0 0, .int .i64 ((room : Nat) : Int), .int .i64 nx, .bool lo] 80, .row (.slice none 0 0) 29 5 xs.length (List.flatMap recL xs)]) w0 w' [.blk p #[.slice none 0 0, .int .i64 ((room : Nat) : Int), .int .i64 nx, .bool false] 80, .row (.slice none 0 0) 29 5 (List.length ([] : List Rec)) (List.flatMap recL ([]))] := by
  refine x_enter Try.func18 rfl #[.pointer (some ⟨p, 0, none⟩), undef, undef, undef, undef, undef, undef, undef, undef, undef, undef, undef, undef, undef, undef, undef] (by kernel_rfl) ?_
  have H := H0
  refine x_seq ?_
  refine x_region ?_
  refine x_val (.int .i64 0) (by kernel_rfl) rfl (by kernel_rfl) ?_
  refine x_nil ?_
  refine x_then ?_
  refine x_seq ?_
  refine x_region ?_
  refine x_val (.pointer (some ⟨p, 0, none⟩)) (by kernel_rfl) rfl (by kernel_rfl) ?_
  refine x_val (.pointer (some ⟨p, 0, none⟩)) (by kernel_rfl) rfl (by kernel_rfl) ?_
  refine x_val (.pointer (some ⟨p, 0, none⟩)) (by kernel_rfl) rfl (by kernel_rfl) ?_
  refine x_load1 H 0 p 0 #[.slice none 0 0, .int .i64 ((room : Nat) : Int), .int .i64 nx, .bool lo] 80 (.slice none 0 0) (by kernel_rfl) (by kernel_rfl) (by kernel_rfl) rfl (by kernel_rfl) ?_
  refine x_val (.int .i64 0) (by kernel_rfl) rfl (by kernel_rfl) ?_
  refine x_val (.int .i64 0) (by kernel_rfl) rfl (by kernel_rfl) ?_
  refine x_nil ?_
  refine x_then ?_
  refine x_seq ?_
  refine x_region ?_
  refine x_val (.pointer (some ⟨p, 0, none⟩)) (by kernel_rfl) rfl (by kernel_rfl) ?_
  refine x_val (.pointer (some ⟨p, 0, none⟩)) (by kernel_rfl) rfl (by kernel_rfl) ?_
  refine x_val (.pointer (some ⟨p, 0, none⟩)) (by kernel_rfl) rfl (by kernel_rfl) ?_
  refine x_val (.pointer (some ⟨p, 0, none⟩)) (by kernel_rfl) rfl (by kernel_rfl) ?_
  refine x_store (t := 22) (v := .slice none 0 0) H 0 p 0 #[.slice none 0 0, .int .i64 ((room : Nat) : Int), .int .i64 nx, .bool lo] #[.slice none 0 0, .int .i64 ((room : Nat) : Int), .int .i64 nx, .bool lo] 80 [.slice none 0 0] [.blk p #[.slice none 0 0, .int .i64 ((room : Nat) : Int), .int .i64 nx, .bool lo] 80, .row (.slice none 0 0) 29 5 xs.length (List.flatMap recL xs)] (by kernel_rfl) rfl (by kernel_rfl) (by kernel_rfl) (by kernel_rfl) (by kernel_rfl) (by kernel_rfl) (by kernel_rfl) (by kernel_rfl) (by kernel_rfl) ?_
  clear H
  intro v1 H
  refine x_val (.pointer (some ⟨p, 0, none⟩)) (by kernel_rfl) rfl (by kernel_rfl) ?_
  refine x_val (.pointer (some ⟨p, 3, none⟩)) (by kernel_rfl) rfl (by kernel_rfl) ?_
  refine x_store (t := 4) (v := .bool false) H 0 p 3 #[.slice none 0 0, .int .i64 ((room : Nat) : Int), .int .i64 nx, .bool lo] #[.slice none 0 0, .int .i64 ((room : Nat) : Int), .int .i64 nx, .bool false] 80 [.bool false] [.blk p #[.slice none 0 0, .int .i64 ((room : Nat) : Int), .int .i64 nx, .bool false] 80, .row (.slice none 0 0) 29 5 xs.length (List.flatMap recL xs)] (by kernel_rfl) rfl (by kernel_rfl) (by kernel_rfl) (by kernel_rfl) (by kernel_rfl) (by kernel_rfl) (by kernel_rfl) (by kernel_rfl) (by kernel_rfl) ?_
  clear H
  intro v2 H
  refine x_nil ?_
  refine x_then ?_
  refine x_seq ?_
  refine x_region ?_
  refine x_val (.int .i64 0) (by kernel_rfl) rfl (by kernel_rfl) ?_
  refine x_val (.int .i64 0) (by kernel_rfl) rfl (by kernel_rfl) ?_
  refine x_nil ?_
  refine x_then ?_
  refine x_retc ?_
  refine x_ret (.int .i64 0) (by kernel_rfl) (by kernel_rfl) ?_
  replace H := H.nilRow 29 5
  exact ⟨rfl, H.pick [1, 0] _ (by decide) (by kernel_rfl)⟩

theorem Clear_of {p : Nat} {sv : Value} {xs : List Rec} {room : Nat} {nx : Int} {lo : Bool} (w0 : World) (H0 : Hs (fps [.blk p #[sv, .int .i64 ((room : Nat) : Int), .int .i64 nx, .bool lo] 80, .row (sv) 29 5 xs.length (List.flatMap recL xs)]) w0 w0 [.blk p #[sv, .int .i64 ((room : Nat) : Int), .int .i64 nx, .bool lo] 80, .row (sv) 29 5 xs.length (List.flatMap recL xs)]) : Calls Try.prog 18 #[.pointer (some ⟨p, 0, none⟩)] w0 fun e w' => e = .returned (.int .i64 ((xs.length : Nat) : Int)) ∧ Hs (fps [.blk p #[sv, .int .i64 ((room : Nat) : Int), .int .i64 nx, .bool lo] 80, .row (sv) 29 5 xs.length (List.flatMap recL xs)]) w0 w' [.blk p #[.slice none 0 0, .int .i64 ((room : Nat) : Int), .int .i64 nx, .bool false] 80, .row (.slice none 0 0) 29 5 (List.length ([] : List Rec)) (List.flatMap recL ([]))] := by
  rcases rowForm (H0.ok 1 _ rfl : w0.ownsRow 0 _ 5 sv _ _) with ⟨rfl, h0⟩ | ⟨g, cap, rfl, hc, _⟩
  · obtain rfl := List.length_eq_zero_iff.1 h0; exact Clear_n w0 H0
  · exact Clear_s w0 H0

theorem take_next (xs : List Rec) (k : Nat) (h : k < xs.length) : xs.take (k + 1) = xs.take k ++ [xs.getD k (0, 0, 0, 0, 0)] := by
  rw [List.take_succ_eq_append_getElem h]; simp [List.getD, h]

set_option maxRecDepth 100000 in
set_option maxHeartbeats 2000000 in
theorem Values_s {g cap n : Nat} (w0 : World) :
    Calls Try.prog 36 #[.slice (some ⟨g, 0, none⟩) n cap] w0 fun e w' => ∃ q, e = .returned (.func (.func 52) #[] #[.pointer (some ⟨q, 0, none⟩)]) ∧ Hs [] w0 w' [.blk q #[.slice (some ⟨g, 0, none⟩) n cap] 22] := by
  refine x_enter Try.func36 rfl #[.slice (some ⟨g, 0, none⟩) n cap, undef, undef, undef] (by kernel_rfl) ?_
  have H := Hs.nil w0
  refine x_seq ?_
  refine x_region ?_
  refine x_box H #[.slice (some ⟨g, 0, none⟩) n cap] 22 (by kernel_rfl) rfl (by kernel_rfl) ?_
  clear H
  intro v1 g1 H
  refine x_val (.nilFunc) (by kernel_rfl) rfl (by kernel_rfl) ?_
  refine x_nil ?_
  refine x_then ?_
  refine x_seq ?_
  refine x_region ?_
  refine x_val (.func (.func 52) #[] #[.pointer (some ⟨g1, 0, none⟩)]) (by kernel_rfl) rfl (by kernel_rfl) ?_
  refine x_val (.func (.func 52) #[] #[.pointer (some ⟨g1, 0, none⟩)]) (by kernel_rfl) rfl (by kernel_rfl) ?_
  refine x_nil ?_
  refine x_then ?_
  refine x_retc ?_
  refine x_ret (.func (.func 52) #[] #[.pointer (some ⟨g1, 0, none⟩)]) (by kernel_rfl) (by kernel_rfl) ?_
  exact ⟨_, rfl, H⟩

set_option maxRecDepth 100000 in
set_option maxHeartbeats 2000000 in
theorem All_s {p : Nat} {xs : List Rec} {room : Nat} {nx : Int} {lo : Bool} {g cap : Nat} (w0 : World) (hR : Ro w0 [.blk p #[.slice (some ⟨g, 0, none⟩) xs.length cap, .int .i64 ((room : Nat) : Int), .int .i64 nx, .bool lo] 80, .row (.slice (some ⟨g, 0, none⟩) xs.length cap) 29 5 xs.length (List.flatMap recL xs)]) :
    Calls Try.prog 14 #[.pointer (some ⟨p, 0, none⟩)] w0 fun e w' => ∃ q, e = .returned (.func (.func 52) #[] #[.pointer (some ⟨q, 0, none⟩)]) ∧ Hs [] w0 w' [.blk q #[.slice (some ⟨g, 0, none⟩) xs.length cap] 22] := by
  refine x_enter Try.func14 rfl #[.pointer (some ⟨p, 0, none⟩), undef, undef, undef, undef, undef, undef, undef] (by kernel_rfl) ?_
  have H := Hs.nil w0
  have R0 := hR
  refine x_seq ?_
  refine x_region ?_
  refine x_val (.nilFunc) (by kernel_rfl) rfl (by kernel_rfl) ?_
  refine x_nil ?_
  refine x_then ?_
  refine x_seq ?_
  refine x_region ?_
  refine x_val (.pointer (some ⟨p, 0, none⟩)) (by kernel_rfl) rfl (by kernel_rfl) ?_
  refine x_val (.pointer (some ⟨p, 0, none⟩)) (by kernel_rfl) rfl (by kernel_rfl) ?_
  refine x_val (.pointer (some ⟨p, 0, none⟩)) (by kernel_rfl) rfl (by kernel_rfl) ?_
  refine x_loadc p 0 (.slice (some ⟨g, 0, none⟩) xs.length cap) ((H.ro R0).cell 0 rfl 0 rfl) (by kernel_rfl) rfl (by kernel_rfl) ?_
  refine x_call (by kernel_rfl) rfl (by kernel_rfl) (Values_s (g := g) (n := xs.length) (cap := cap) _) ?_
  rintro _ v1 ⟨q, rfl, hN'⟩
  refine ⟨_, rfl, ?_⟩
  replace H := H.more hN'
  clear hN'
  replace H : Hs [] w0 _ [.blk q #[.slice (some ⟨g, 0, none⟩) xs.length cap] 22] := H
  refine x_val (.func (.func 52) #[] #[.pointer (some ⟨q, 0, none⟩)]) (by kernel_rfl) rfl (by kernel_rfl) ?_
  refine x_nil ?_
  refine x_then ?_
  refine x_retc ?_
  refine x_ret (.func (.func 52) #[] #[.pointer (some ⟨q, 0, none⟩)]) (by kernel_rfl) (by kernel_rfl) ?_
  exact ⟨_, rfl, H⟩

set_option maxRecDepth 100000 in
set_option maxHeartbeats 2000000 in
theorem vals_s {q : Nat} {g cap : Nat} {xs : List Rec} (hn : xs.length ≤ 4096) (W0 : World) (hR : Ro W0 [.blk q #[.slice (some ⟨g, 0, none⟩) xs.length cap] 22, .row (.slice (some ⟨g, 0, none⟩) xs.length cap) 29 5 xs.length (List.flatMap recL xs)]) :
    SeqStopsK (FW none) 0 Try.prog 52 #[.pointer (some ⟨q, 0, none⟩)] (fun x : Rec => #[.agg #[.int .i64 x.1, .int .i64 x.2.1, .int .i64 x.2.2.1, .int .i64 x.2.2.2.1, .int .i64 x.2.2.2.2]]) (KpOf [.blk q #[.slice (some ⟨g, 0, none⟩) xs.length cap] 22, .row (.slice (some ⟨g, 0, none⟩) xs.length cap) 29 5 xs.length (List.flatMap recL xs)]) (fun ys => ys = xs) (fun pre => pre <+: xs) xs.length W0 := fun l J Jx W hW hJ hJx hY h0 => callsFW.2 (by
  refine x_enter Try.func52 rfl #[.func (.yield l) #[] #[], .pointer (some ⟨q, 0, none⟩), undef, undef, undef, undef, undef, undef, undef, undef, undef, undef, undef, undef, undef, undef] (by kernel_rfl) ?_
  have H := Hs.nil W
  have R0 : Ro W [.blk q #[.slice (some ⟨g, 0, none⟩) xs.length cap] 22, .row (.slice (some ⟨g, 0, none⟩) xs.length cap) 29 5 xs.length (List.flatMap recL xs)] := fun i r hi => Res.keep (hR i r hi) fun g hg => hW.block g (Res.lt (hR i r hi) g hg)
  refine x_seq ?_
  refine x_region ?_
  refine x_loadc q 0 (.slice (some ⟨g, 0, none⟩) xs.length cap) ((H.ro R0).cell 0 rfl 0 rfl) (by kernel_rfl) rfl (by kernel_rfl) ?_
  refine x_val (.int .i64 ((xs.length : Nat) : Int)) (by kernel_rfl) rfl (by kernel_rfl) ?_
  refine x_val (.int .i64 0) (by kernel_rfl) rfl (by kernel_rfl) ?_
  refine x_nil ?_
  refine x_then ?_
  refine x_block ?_
  refine x_loop (G := Nat × World) (fun gh a w' => match gh with | (k, wb) => ∃ uf1 : Nat → Value, a = { tmps := #[.func (.yield l) #[] #[], .pointer (some ⟨q, 0, none⟩), undef, undef, (uf1 0), .slice (some ⟨g, 0, none⟩) xs.length cap, .int .i64 ((xs.length : Nat) : Int), .int .i64 ((k : Nat) : Int), (uf1 1), (uf1 2), (uf1 3), (uf1 4), (uf1 5), (uf1 6), (uf1 7), (uf1 8)], defers := [] } ∧ Hs [] wb w' [] ∧ (k ≤ xs.length) ∧ (J (xs.take k) wb) ∧ (Ro wb [.blk q #[.slice (some ⟨g, 0, none⟩) xs.length cap] 22, .row (.slice (some ⟨g, 0, none⟩) xs.length cap) 29 5 xs.length (List.flatMap recL xs)])) (fun gh => match gh with | (k, wb) => xs.length - k) (0, W) ⟨(nthV [undef, undef, undef, undef, undef, undef, undef, undef, undef]), (by kernel_rfl), H, (Nat.zero_le _), (by simpa using h0), R0⟩ ?_
  clear H
  rintro ⟨k, wb⟩ _ v1 ⟨uf1, rfl, H, r1, r2, r3⟩
  have hJ1 := r2
  have R0 := r3
  refine x_seq ?_
  refine x_region ?_
  refine x_val (.bool (decide (((k : Nat) : Int) < ((xs.length : Nat) : Int)))) (by kernel_rfl) rfl (by kernel_rfl) ?_
  refine x_nil ?_
  refine x_then ?_
  refine x_seq ?_
  cases h1 : decide (((k : Nat) : Int) < ((xs.length : Nat) : Int))
  · skip
    have h1p := of_decide_eq_false h1
    refine x_f (by kernel_rfl) ?_
    refine x_exit ?_
    refine x_then_exit ?_
    refine x_then_exit ?_
    refine x_blk_exit ?_
    refine x_end (.tuple #[]) (by kernel_rfl) (by kernel_rfl) ?_
    have hk : k = xs.length := by omega
    have HJ2 := hJ _ _ _ none hJ1 (below_grown H.below) (fun r e => by cases e)
    rw [hk, List.take_length] at HJ2
    exact ⟨⟨_, rfl⟩, .inl ⟨_, rfl, HJ2⟩⟩
  · skip
    have h1p := of_decide_eq_true h1
    refine x_t (by kernel_rfl) ?_
    refine x_skipc ?_
    refine x_then ?_
    refine x_seq ?_
    refine x_block ?_
    refine x_seq ?_
    refine x_region ?_
    refine x_ix (t := 22) g 0 k xs.length cap 29 5 (k * 5) (by omega) (by omega) (by kernel_rfl) (by kernel_rfl) (by kernel_rfl) rfl (by kernel_rfl) ?_
    refine x_loadcn (t := 29) g (k * 5) [.int .i64 ((xs.getD k (0, 0, 0, 0, 0)).1), .int .i64 ((xs.getD k (0, 0, 0, 0, 0)).2.1), .int .i64 ((xs.getD k (0, 0, 0, 0, 0)).2.2.1), .int .i64 ((xs.getD k (0, 0, 0, 0, 0)).2.2.2.1), .int .i64 ((xs.getD k (0, 0, 0, 0, 0)).2.2.2.2)] ((H.ro R0).rowCells 1 rfl (k * 5) (flatAt recLen (0, 0, 0, 0, 0) _ (by omega))) (by kernel_rfl) rfl (by kernel_rfl) (by kernel_rfl) ?_
    refine x_box H #[.int .i64 0, .int .i64 0, .int .i64 0, .int .i64 0, .int .i64 0] 29 (by kernel_rfl) rfl (by kernel_rfl) ?_
    clear H
    intro v2 g1 H
    refine x_store (t := 29) (v := .agg #[.int .i64 ((xs.getD k (0, 0, 0, 0, 0)).1), .int .i64 ((xs.getD k (0, 0, 0, 0, 0)).2.1), .int .i64 ((xs.getD k (0, 0, 0, 0, 0)).2.2.1), .int .i64 ((xs.getD k (0, 0, 0, 0, 0)).2.2.2.1), .int .i64 ((xs.getD k (0, 0, 0, 0, 0)).2.2.2.2)]) H 0 g1 0 #[.int .i64 0, .int .i64 0, .int .i64 0, .int .i64 0, .int .i64 0] #[.int .i64 ((xs.getD k (0, 0, 0, 0, 0)).1), .int .i64 ((xs.getD k (0, 0, 0, 0, 0)).2.1), .int .i64 ((xs.getD k (0, 0, 0, 0, 0)).2.2.1), .int .i64 ((xs.getD k (0, 0, 0, 0, 0)).2.2.2.1), .int .i64 ((xs.getD k (0, 0, 0, 0, 0)).2.2.2.2)] 29 [.int .i64 ((xs.getD k (0, 0, 0, 0, 0)).1), .int .i64 ((xs.getD k (0, 0, 0, 0, 0)).2.1), .int .i64 ((xs.getD k (0, 0, 0, 0, 0)).2.2.1), .int .i64 ((xs.getD k (0, 0, 0, 0, 0)).2.2.2.1), .int .i64 ((xs.getD k (0, 0, 0, 0, 0)).2.2.2.2)] [.blk g1 #[.int .i64 ((xs.getD k (0, 0, 0, 0, 0)).1), .int .i64 ((xs.getD k (0, 0, 0, 0, 0)).2.1), .int .i64 ((xs.getD k (0, 0, 0, 0, 0)).2.2.1), .int .i64 ((xs.getD k (0, 0, 0, 0, 0)).2.2.2.1), .int .i64 ((xs.getD k (0, 0, 0, 0, 0)).2.2.2.2)] 29] (by kernel_rfl) rfl (by kernel_rfl) (by kernel_rfl) (by kernel_rfl) (by kernel_rfl) (by kernel_rfl) (by kernel_rfl) (by kernel_rfl) (by kernel_rfl) ?_
    clear H
    intro v3 H
    refine x_nil ?_
    refine x_then ?_
    refine x_seq ?_
    refine x_region ?_
    refine x_val (.func (.yield l) #[] #[]) (by kernel_rfl) rfl (by kernel_rfl) ?_
    refine x_loadn (t := 29) H 0 g1 0 #[.int .i64 ((xs.getD k (0, 0, 0, 0, 0)).1), .int .i64 ((xs.getD k (0, 0, 0, 0, 0)).2.1), .int .i64 ((xs.getD k (0, 0, 0, 0, 0)).2.2.1), .int .i64 ((xs.getD k (0, 0, 0, 0, 0)).2.2.2.1), .int .i64 ((xs.getD k (0, 0, 0, 0, 0)).2.2.2.2)] 29 [.int .i64 ((xs.getD k (0, 0, 0, 0, 0)).1), .int .i64 ((xs.getD k (0, 0, 0, 0, 0)).2.1), .int .i64 ((xs.getD k (0, 0, 0, 0, 0)).2.2.1), .int .i64 ((xs.getD k (0, 0, 0, 0, 0)).2.2.2.1), .int .i64 ((xs.getD k (0, 0, 0, 0, 0)).2.2.2.2)] (by kernel_rfl) (by kernel_rfl) (by kernel_rfl) rfl (by kernel_rfl) (by kernel_rfl) ?_
    have HJ2 := hJ _ _ _ none hJ1 (below_grown H.below) (fun r e => by cases e)
    refine x_yield (hY _ (xs.getD k (0, 0, 0, 0, 0)) _ HJ2 (by rw [List.length_take]; omega)) (by kernel_rfl) rfl (by kernel_rfl) ?_
    rintro e v2 (⟨rfl, hJ3, hKp⟩ | ⟨rfl, hJx3⟩)
    · skip
      refine ⟨_, rfl, ?_⟩
      have R3 := hKp (H.ro R0)
      clear H
      have H := Hs.nil v2
      refine x_val (.bool false) (by kernel_rfl) rfl (by kernel_rfl) ?_
      refine x_nil ?_
      refine x_then ?_
      refine x_f (by kernel_rfl) ?_
      refine x_skipc ?_
      refine x_blk ?_
      refine x_then ?_
      refine x_region ?_
      refine x_ar (((k : Nat) : Int) + 1) ⟨by omega, by omega⟩ (by kernel_rfl) rfl (by kernel_rfl) ?_
      refine x_val (.int .i64 (((k : Nat) : Int) + 1)) (by kernel_rfl) rfl (by kernel_rfl) ?_
      refine x_nil ?_
      refine x_then ?_
      exact ⟨(k + 1, v2), (by dsimp only; omega), (nthV [.pointer (some ⟨g1, 0, none⟩), .bool true, .pointer (some ⟨g, k * 5, none⟩), .agg #[.int .i64 ((xs.getD k (0, 0, 0, 0, 0)).1), .int .i64 ((xs.getD k (0, 0, 0, 0, 0)).2.1), .int .i64 ((xs.getD k (0, 0, 0, 0, 0)).2.2.1), .int .i64 ((xs.getD k (0, 0, 0, 0, 0)).2.2.2.1), .int .i64 ((xs.getD k (0, 0, 0, 0, 0)).2.2.2.2)], .func (.yield l) #[] #[], .agg #[.int .i64 ((xs.getD k (0, 0, 0, 0, 0)).1), .int .i64 ((xs.getD k (0, 0, 0, 0, 0)).2.1), .int .i64 ((xs.getD k (0, 0, 0, 0, 0)).2.2.1), .int .i64 ((xs.getD k (0, 0, 0, 0, 0)).2.2.2.1), .int .i64 ((xs.getD k (0, 0, 0, 0, 0)).2.2.2.2)], .bool true, .bool false, .int .i64 (((k : Nat) : Int) + 1)]), (by kernel_rfl), H, (by omega), (by rw [take_next xs k (by omega)]; exact hJ3), R3⟩
    · skip
      refine ⟨_, rfl, ?_⟩
      clear H
      have H := Hs.nil v2
      refine x_val (.bool true) (by kernel_rfl) rfl (by kernel_rfl) ?_
      refine x_nil ?_
      refine x_then ?_
      refine x_t (by kernel_rfl) ?_
      refine x_retc ?_
      refine x_blk_ret ?_
      refine x_then_ret ?_
      refine x_then_ret ?_
      refine x_blk_ret ?_
      refine x_ret (.tuple #[]) (by kernel_rfl) (by kernel_rfl) ?_
      exact ⟨⟨_, rfl⟩, .inr ⟨_, by rw [← take_next xs k (by omega)]; exact List.take_prefix _ _, hJx3⟩⟩)

set_option maxRecDepth 100000 in
set_option maxHeartbeats 2000000 in
theorem Values_n (w0 : World) :
    Calls Try.prog 36 #[.slice none 0 0] w0 fun e w' => ∃ q, e = .returned (.func (.func 52) #[] #[.pointer (some ⟨q, 0, none⟩)]) ∧ Hs [] w0 w' [.blk q #[.slice none 0 0] 22] := by
  refine x_enter Try.func36 rfl #[.slice none 0 0, undef, undef, undef] (by kernel_rfl) ?_
  have H := Hs.nil w0
  refine x_seq ?_
  refine x_region ?_
  refine x_box H #[.slice none 0 0] 22 (by kernel_rfl) rfl (by kernel_rfl) ?_
  clear H
  intro v1 g1 H
  refine x_val (.nilFunc) (by kernel_rfl) rfl (by kernel_rfl) ?_
  refine x_nil ?_
  refine x_then ?_
  refine x_seq ?_
  refine x_region ?_
  refine x_val (.func (.func 52) #[] #[.pointer (some ⟨g1, 0, none⟩)]) (by kernel_rfl) rfl (by kernel_rfl) ?_
  refine x_val (.func (.func 52) #[] #[.pointer (some ⟨g1, 0, none⟩)]) (by kernel_rfl) rfl (by kernel_rfl) ?_
  refine x_nil ?_
  refine x_then ?_
  refine x_retc ?_
  refine x_ret (.func (.func 52) #[] #[.pointer (some ⟨g1, 0, none⟩)]) (by kernel_rfl) (by kernel_rfl) ?_
  exact ⟨_, rfl, H⟩

set_option maxRecDepth 100000 in
set_option maxHeartbeats 2000000 in
theorem All_n {p : Nat} {xs : List Rec} {room : Nat} {nx : Int} {lo : Bool} (w0 : World) (hR : Ro w0 [.blk p #[.slice none 0 0, .int .i64 ((room : Nat) : Int), .int .i64 nx, .bool lo] 80, .row (.slice none 0 0) 29 5 xs.length (List.flatMap recL xs)]) :
    Calls Try.prog 14 #[.pointer (some ⟨p, 0, none⟩)] w0 fun e w' => ∃ q, e = .returned (.func (.func 52) #[] #[.pointer (some ⟨q, 0, none⟩)]) ∧ Hs [] w0 w' [.blk q #[.slice none 0 0] 22] := by
  refine x_enter Try.func14 rfl #[.pointer (some ⟨p, 0, none⟩), undef, undef, undef, undef, undef, undef, undef] (by kernel_rfl) ?_
  have H := Hs.nil w0
  have R0 := hR
  refine x_seq ?_
  refine x_region ?_
  refine x_val (.nilFunc) (by kernel_rfl) rfl (by kernel_rfl) ?_
  refine x_nil ?_
  refine x_then ?_
  refine x_seq ?_
  refine x_region ?_
  refine x_val (.pointer (some ⟨p, 0, none⟩)) (by kernel_rfl) rfl (by kernel_rfl) ?_
  refine x_val (.pointer (some ⟨p, 0, none⟩)) (by kernel_rfl) rfl (by kernel_rfl) ?_
  refine x_val (.pointer (some ⟨p, 0, none⟩)) (by kernel_rfl) rfl (by kernel_rfl) ?_
  refine x_loadc p 0 (.slice none 0 0) ((H.ro R0).cell 0 rfl 0 rfl) (by kernel_rfl) rfl (by kernel_rfl) ?_
  refine x_call (by kernel_rfl) rfl (by kernel_rfl) (Values_n _) ?_
  rintro _ v1 ⟨q, rfl, hN'⟩
  refine ⟨_, rfl, ?_⟩
  replace H := H.more hN'
  clear hN'
  replace H : Hs [] w0 _ [.blk q #[.slice none 0 0] 22] := H
  refine x_val (.func (.func 52) #[] #[.pointer (some ⟨q, 0, none⟩)]) (by kernel_rfl) rfl (by kernel_rfl) ?_
  refine x_nil ?_
  refine x_then ?_
  refine x_retc ?_
  refine x_ret (.func (.func 52) #[] #[.pointer (some ⟨q, 0, none⟩)]) (by kernel_rfl) (by kernel_rfl) ?_
  exact ⟨_, rfl, H⟩

set_option maxRecDepth 100000 in
set_option maxHeartbeats 2000000 in
theorem vals_n {q : Nat} {xs : List Rec} (hn : xs.length ≤ 4096) (W0 : World) (hR : Ro W0 [.blk q #[.slice none 0 0] 22, .row (.slice none 0 0) 29 5 xs.length (List.flatMap recL xs)]) :
    SeqStopsK (FW none) 0 Try.prog 52 #[.pointer (some ⟨q, 0, none⟩)] (fun x : Rec => #[.agg #[.int .i64 x.1, .int .i64 x.2.1, .int .i64 x.2.2.1, .int .i64 x.2.2.2.1, .int .i64 x.2.2.2.2]]) (KpOf [.blk q #[.slice none 0 0] 22, .row (.slice none 0 0) 29 5 xs.length (List.flatMap recL xs)]) (fun ys => ys = xs) (fun pre => pre <+: xs) xs.length W0 := fun l J Jx W hW hJ hJx hY h0 => callsFW.2 (by
  refine x_enter Try.func52 rfl #[.func (.yield l) #[] #[], .pointer (some ⟨q, 0, none⟩), undef, undef, undef, undef, undef, undef, undef, undef, undef, undef, undef, undef, undef, undef] (by kernel_rfl) ?_
  have H := Hs.nil W
  have R0 : Ro W [.blk q #[.slice none 0 0] 22, .row (.slice none 0 0) 29 5 xs.length (List.flatMap recL xs)] := fun i r hi => Res.keep (hR i r hi) fun g hg => hW.block g (Res.lt (hR i r hi) g hg)
  have hx0 : xs.length = 0 := by rcases rowForm (hR 1 _ rfl : W0.ownsRow 0 _ 5 _ _ _) with ⟨_, h⟩ | ⟨g, cap, h, _⟩ <;> first | exact h | simp at h
  refine x_seq ?_
  refine x_region ?_
  refine x_loadc q 0 (.slice none 0 0) ((H.ro R0).cell 0 rfl 0 rfl) (by kernel_rfl) rfl (by kernel_rfl) ?_
  refine x_val (.int .i64 0) (by kernel_rfl) rfl (by kernel_rfl) ?_
  refine x_val (.int .i64 0) (by kernel_rfl) rfl (by kernel_rfl) ?_
  refine x_nil ?_
  refine x_then ?_
  refine x_block ?_
  refine x_loop (G := Nat × World) (fun gh a w' => match gh with | (k, wb) => ∃ uf1 : Nat → Value, a = { tmps := #[.func (.yield l) #[] #[], .pointer (some ⟨q, 0, none⟩), undef, undef, (uf1 0), .slice none 0 0, .int .i64 0, .int .i64 ((k : Nat) : Int), (uf1 1), (uf1 2), (uf1 3), (uf1 4), (uf1 5), (uf1 6), (uf1 7), (uf1 8)], defers := [] } ∧ Hs [] wb w' [] ∧ (k ≤ xs.length) ∧ (J (xs.take k) wb) ∧ (Ro wb [.blk q #[.slice none 0 0] 22, .row (.slice none 0 0) 29 5 xs.length (List.flatMap recL xs)])) (fun gh => match gh with | (k, wb) => xs.length - k) (0, W) ⟨(nthV [undef, undef, undef, undef, undef, undef, undef, undef, undef]), (by kernel_rfl), H, (Nat.zero_le _), (by simpa using h0), R0⟩ ?_
  clear H
  rintro ⟨k, wb⟩ _ v1 ⟨uf1, rfl, H, r1, r2, r3⟩
  have hJ1 := r2
  have R0 := r3
  refine x_seq ?_
  refine x_region ?_
  refine x_val (.bool (decide (((k : Nat) : Int) < 0))) (by kernel_rfl) rfl (by kernel_rfl) ?_
  refine x_nil ?_
  refine x_then ?_
  refine x_seq ?_
  cases h1 : decide (((k : Nat) : Int) < 0)
  · skip
    have h1p := of_decide_eq_false h1
    refine x_f (by kernel_rfl) ?_
    refine x_exit ?_
    refine x_then_exit ?_
    refine x_then_exit ?_
    refine x_blk_exit ?_
    refine x_end (.tuple #[]) (by kernel_rfl) (by kernel_rfl) ?_
    have hk : k = xs.length := by omega
    have HJ2 := hJ _ _ _ none hJ1 (below_grown H.below) (fun r e => by cases e)
    rw [hk, List.take_length] at HJ2
    exact ⟨⟨_, rfl⟩, .inl ⟨_, rfl, HJ2⟩⟩
  · skip
    have h1p := of_decide_eq_true h1
    exact absurd h1p (by omega))

theorem Clear_ex {p : Nat} {sv : Value} {xs : List Rec} {room : Nat} {nx : Int} {lo : Bool} (w0 : World) (H0 : Hs (fps [.blk p #[sv, .int .i64 ((room : Nat) : Int), .int .i64 nx, .bool lo] 80, .row (sv) 29 5 xs.length (List.flatMap recL xs)]) w0 w0 [.blk p #[sv, .int .i64 ((room : Nat) : Int), .int .i64 nx, .bool lo] 80, .row (sv) 29 5 xs.length (List.flatMap recL xs)]) : Calls Try.prog 18 #[.pointer (some ⟨p, 0, none⟩)] w0 fun e w' => ∃ sv', e = .returned (.int .i64 ((xs.length : Nat) : Int)) ∧ Hs (fps [.blk p #[sv, .int .i64 ((room : Nat) : Int), .int .i64 nx, .bool lo] 80, .row (sv) 29 5 xs.length (List.flatMap recL xs)]) w0 w' [.blk p #[sv', .int .i64 ((room : Nat) : Int), .int .i64 nx, .bool false] 80, .row (sv') 29 5 (List.length ([] : List Rec)) (List.flatMap recL ([]))] :=
  (Clear_of w0 H0).mono fun e w' ⟨h1, h2⟩ => ⟨_, h1, h2⟩
theorem addS_room {room : Nat} {xs : List Rec} {r : Rec} (h : xs.length < room) : addS room xs r = (xs ++ [r], true) := by unfold addS; rw [if_pos h]
theorem addS_full {room : Nat} {xs : List Rec} {r : Rec} (h : ¬ xs.length < room) (hk : ¬ r.2.2.1 = 2) : addS room xs r = (xs, false) := by unfold addS; rw [if_neg h, if_neg (fun x => hk x.1)]

theorem Add_in {p : Nat} {sv : Value} {xs : List Rec} {room : Nat} {nx : Int} {lo : Bool} (s t k i f : Int) (hn : xs.length ≤ room) (h1 : 1 ≤ room) (hr : room ≤ 4096) (hx : -1000 ≤ nx ∧ nx ≤ 9223372036854770000) (hlt : xs.length < room) (w0 : World) (H0 : Hs (fps [.blk p #[sv, .int .i64 ((room : Nat) : Int), .int .i64 nx, .bool lo] 80, .row (sv) 29 5 xs.length (List.flatMap recL xs)]) w0 w0 [.blk p #[sv, .int .i64 ((room : Nat) : Int), .int .i64 nx, .bool lo] 80, .row (sv) 29 5 xs.length (List.flatMap recL xs)]) :
    Calls Try.prog 12 #[.pointer (some ⟨p, 0, none⟩), .agg #[.int .i64 s, .int .i64 t, .int .i64 k, .int .i64 i, .int .i64 f]] w0 fun e w' => ∃ sv', e = .returned (.tuple #[.agg #[.int .i64 nx, .int .i64 t, .int .i64 k, .int .i64 i, .int .i64 f], .bool true]) ∧ Hs (fps [.blk p #[sv, .int .i64 ((room : Nat) : Int), .int .i64 nx, .bool lo] 80, .row (sv) 29 5 xs.length (List.flatMap recL xs)]) w0 w' [.blk p #[sv', .int .i64 ((room : Nat) : Int), .int .i64 (nx + 1), .bool lo] 80, .row (sv') 29 5 (List.length (xs ++ [(nx, t, k, i, f)])) (List.flatMap recL (xs ++ [(nx, t, k, i, f)]))] := by
  have q := Add_any s t k i f hn h1 hr hx w0 H0
  rw [addS_room hlt] at q
  simpa only [hlt, decide_true, decide_false, Bool.not_true, Bool.not_false, Bool.or_false, Bool.or_true] using q

theorem Add_out {p : Nat} {sv : Value} {xs : List Rec} {room : Nat} {nx : Int} {lo : Bool} (s t k i f : Int) (hn : xs.length ≤ room) (h1 : 1 ≤ room) (hr : room ≤ 4096) (hx : -1000 ≤ nx ∧ nx ≤ 9223372036854770000) (hlt : ¬ xs.length < room) (hk : ¬ k = 2) (w0 : World) (H0 : Hs (fps [.blk p #[sv, .int .i64 ((room : Nat) : Int), .int .i64 nx, .bool lo] 80, .row (sv) 29 5 xs.length (List.flatMap recL xs)]) w0 w0 [.blk p #[sv, .int .i64 ((room : Nat) : Int), .int .i64 nx, .bool lo] 80, .row (sv) 29 5 xs.length (List.flatMap recL xs)]) :
    Calls Try.prog 12 #[.pointer (some ⟨p, 0, none⟩), .agg #[.int .i64 s, .int .i64 t, .int .i64 k, .int .i64 i, .int .i64 f]] w0 fun e w' => ∃ sv', e = .returned (.tuple #[.agg #[.int .i64 nx, .int .i64 t, .int .i64 k, .int .i64 i, .int .i64 f], .bool false]) ∧ Hs (fps [.blk p #[sv, .int .i64 ((room : Nat) : Int), .int .i64 nx, .bool lo] 80, .row (sv) 29 5 xs.length (List.flatMap recL xs)]) w0 w' [.blk p #[sv', .int .i64 ((room : Nat) : Int), .int .i64 (nx + 1), .bool true] 80, .row (sv') 29 5 (List.length xs) (List.flatMap recL xs)] := by
  have q := Add_any s t k i f hn h1 hr hx w0 H0
  rw [addS_full (r := (nx, t, k, i, f)) hlt hk] at q
  simpa only [hlt, decide_true, decide_false, Bool.not_true, Bool.not_false, Bool.or_false, Bool.or_true] using q

theorem All_of {p : Nat} {sv : Value} {xs : List Rec} {room : Nat} {nx : Int} {lo : Bool} (w0 : World) (hR : Ro w0 [.blk p #[sv, .int .i64 ((room : Nat) : Int), .int .i64 nx, .bool lo] 80, .row (sv) 29 5 xs.length (List.flatMap recL xs)]) : Calls Try.prog 14 #[.pointer (some ⟨p, 0, none⟩)] w0 fun e w' => ∃ q, e = .returned (.func (.func 52) #[] #[.pointer (some ⟨q, 0, none⟩)]) ∧ Hs [] w0 w' [.blk q #[sv] 22] := by
  rcases rowForm (hR 1 _ rfl : w0.ownsRow 0 _ 5 sv _ _) with ⟨rfl, h0⟩ | ⟨g, cap, rfl, hc, _⟩
  · exact All_n w0 hR
  · exact All_s w0 hR
theorem vals_of {q : Nat} {sv : Value} {xs : List Rec} (hn : xs.length ≤ 4096) (W0 : World) (hR : Ro W0 [.blk q #[sv] 22, .row (sv) 29 5 xs.length (List.flatMap recL xs)]) :
    SeqStopsK (FW none) 0 Try.prog 52 #[.pointer (some ⟨q, 0, none⟩)] (fun x : Rec => #[.agg #[.int .i64 x.1, .int .i64 x.2.1, .int .i64 x.2.2.1, .int .i64 x.2.2.2.1, .int .i64 x.2.2.2.2]]) (KpOf [.blk q #[sv] 22, .row (sv) 29 5 xs.length (List.flatMap recL xs)]) (fun ys => ys = xs) (fun pre => pre <+: xs) xs.length W0 := by
  rcases rowForm (hR 1 _ rfl : W0.ownsRow 0 _ 5 sv _ _) with ⟨rfl, h0⟩ | ⟨g, cap, rfl, hc, _⟩
  · exact vals_n hn W0 hR
  · exact vals_s hn W0 hR

end Go.Proofs.Ytpeefnbcgilihaa
