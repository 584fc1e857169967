/- The law TablePlays, walked. -/
import Derived.Test.YtpeefnbcgilihaaTabH
namespace Go.Proofs.Ytpeefnbcgilihaa
open Go Go.RowKit
set_option linter.unusedVariables false
set_option linter.unusedSimpArgs false

set_option maxRecDepth 100000 in
set_option maxHeartbeats 4000000 in
theorem plays_no (room : Int) (ad : Option Addr) (nA cA : Nat) (key stop : Int) (hroom : room < 1 ∨ 256 < room) (w0 : World) :
    Calls Try.prog 9 #[.int .i64 room, .slice ad nA cA, .int .i64 key, .int .i64 stop] w0 fun e w' => e = .returned (.bool true) ∧ Below w0.heap.size w0 w' := by
  refine x_enterM Try.func9 rfl #[.int .i64 room, .slice ad nA cA, .int .i64 key, .int .i64 stop, undef, undef, undef, undef, undef, undef, undef, undef, undef, undef, undef, undef, undef, undef, undef, undef, undef, undef, undef, undef, undef, undef, undef, undef, undef, undef, undef, undef, undef, undef, undef, undef, undef, undef, undef, undef, undef, undef, undef, undef, undef, undef, undef, undef, undef, undef, undef, undef, undef, undef, undef, undef, undef, undef, undef, undef, undef, undef, undef, undef, undef, undef, undef, undef, undef, undef, undef, undef, undef, undef, undef, undef, undef, undef, undef, undef, undef, undef, undef, undef, undef, undef, undef, undef, undef, undef, undef, undef, undef, undef, undef, undef, undef, undef, undef, undef, undef, undef, undef, undef, undef, undef, undef, undef, undef, undef, undef, undef, undef, undef, undef, undef, undef, undef, undef, undef, undef, undef, undef, undef, undef, undef, undef, undef] (by kernel_rfl) ?_
  have H := Hs.nil w0
  refine x_seq ?_
  refine x_region ?_
  refine x_box H #[.int .i64 stop] 3 (by kernel_rfl) rfl (by kernel_rfl) ?_
  clear H
  intro v1 g1 H
  refine x_val (.bool false) (by kernel_rfl) rfl (by kernel_rfl) ?_
  refine x_nil ?_
  refine x_then ?_
  refine x_seq ?_
  refine x_seq ?_
  refine x_region ?_
  refine x_callB (.bool true) H (by kernel_rfl) rfl (by kernel_rfl) (anchor16 _) ?_
  clear H
  intro v2 H
  refine x_val (.bool false) (by kernel_rfl) rfl (by kernel_rfl) ?_
  refine x_nil ?_
  refine x_then ?_
  refine x_f (by kernel_rfl) ?_
  refine x_skipc ?_
  refine x_then ?_
  refine x_seq ?_
  refine x_region ?_
  refine x_val (.int .i64 room) (by kernel_rfl) rfl (by kernel_rfl) ?_
  refine x_callB (.tuple #[.pointer none, .int .i64 12]) H (by kernel_rfl) rfl (by kernel_rfl) (TNewI_no room hroom _) ?_
  clear H
  intro v3 H
  refine x_val (.tuple #[.pointer none, .int .i64 12]) (by kernel_rfl) rfl (by kernel_rfl) ?_
  refine x_val (.pointer none) (by kernel_rfl) rfl (by kernel_rfl) ?_
  refine x_val (.int .i64 12) (by kernel_rfl) rfl (by kernel_rfl) ?_
  refine x_val (.pointer none) (by kernel_rfl) rfl (by kernel_rfl) ?_
  refine x_val (.int .i64 12) (by kernel_rfl) rfl (by kernel_rfl) ?_
  refine x_nil ?_
  refine x_then ?_
  refine x_seq ?_
  refine x_seq ?_
  refine x_region ?_
  refine x_val (.int .i64 room) (by kernel_rfl) rfl (by kernel_rfl) ?_
  refine x_val (.bool (decide (room < 1))) (by kernel_rfl) rfl (by kernel_rfl) ?_
  refine x_val (.bool (decide (room < 1))) (by kernel_rfl) rfl (by kernel_rfl) ?_
  cases h1 : decide (room < 1)
  · skip
    have h1p := of_decide_eq_false h1
    refine x_val (.int .i64 room) (by kernel_rfl) rfl (by kernel_rfl) ?_
    refine x_val (.bool (decide (256 < room))) (by kernel_rfl) rfl (by kernel_rfl) ?_
    refine x_val (.bool (decide (256 < room))) (by kernel_rfl) rfl (by kernel_rfl) ?_
    refine x_nil ?_
    refine x_then ?_
    cases h2 : decide (256 < room)
    · skip
      have h2p := of_decide_eq_false h2
      refine x_f (by kernel_rfl) ?_
      refine x_skipc ?_
      refine x_then ?_
      refine x_seq ?_
      refine x_seq ?_
      refine x_region ?_
      refine x_val (.int .i64 12) (by kernel_rfl) rfl (by kernel_rfl) ?_
      refine x_val (.bool true) (by kernel_rfl) rfl (by kernel_rfl) ?_
      refine x_val (.bool true) (by kernel_rfl) rfl (by kernel_rfl) ?_
      refine x_skip (by kernel_rfl) ?_
      refine x_skip (by kernel_rfl) ?_
      refine x_val (.bool true) (by kernel_rfl) rfl (by kernel_rfl) ?_
      refine x_nil ?_
      refine x_then ?_
      refine x_t (by kernel_rfl) ?_
      refine x_seq ?_
      refine x_region ?_
      refine x_val (.bool false) (by kernel_rfl) rfl (by kernel_rfl) ?_
      refine x_nil ?_
      refine x_then ?_
      refine x_retc ?_
      refine x_then_ret ?_
      refine x_ret0 (.bool false) (by kernel_rfl) (by kernel_rfl) ?_
      exfalso; omega
    · skip
      have h2p := of_decide_eq_true h2
      refine x_t (by kernel_rfl) ?_
      refine x_seq ?_
      refine x_region ?_
      refine x_val (.int .i64 12) (by kernel_rfl) rfl (by kernel_rfl) ?_
      refine x_val (.bool true) (by kernel_rfl) rfl (by kernel_rfl) ?_
      refine x_val (.bool true) (by kernel_rfl) rfl (by kernel_rfl) ?_
      refine x_val (.pointer none) (by kernel_rfl) rfl (by kernel_rfl) ?_
      refine x_val (.bool true) (by kernel_rfl) rfl (by kernel_rfl) ?_
      refine x_val (.bool true) (by kernel_rfl) rfl (by kernel_rfl) ?_
      refine x_val (.bool true) (by kernel_rfl) rfl (by kernel_rfl) ?_
      refine x_nil ?_
      refine x_then ?_
      refine x_retc ?_
      refine x_then_ret ?_
      refine x_ret0 (.bool true) (by kernel_rfl) (by kernel_rfl) ?_
      exact ⟨rfl, H.below⟩
  · skip
    have h1p := of_decide_eq_true h1
    refine x_skip (by kernel_rfl) ?_
    refine x_skip (by kernel_rfl) ?_
    refine x_val (.bool true) (by kernel_rfl) rfl (by kernel_rfl) ?_
    refine x_nil ?_
    refine x_then ?_
    refine x_t (by kernel_rfl) ?_
    refine x_seq ?_
    refine x_region ?_
    refine x_val (.int .i64 12) (by kernel_rfl) rfl (by kernel_rfl) ?_
    refine x_val (.bool true) (by kernel_rfl) rfl (by kernel_rfl) ?_
    refine x_val (.bool true) (by kernel_rfl) rfl (by kernel_rfl) ?_
    refine x_val (.pointer none) (by kernel_rfl) rfl (by kernel_rfl) ?_
    refine x_val (.bool true) (by kernel_rfl) rfl (by kernel_rfl) ?_
    refine x_val (.bool true) (by kernel_rfl) rfl (by kernel_rfl) ?_
    refine x_val (.bool true) (by kernel_rfl) rfl (by kernel_rfl) ?_
    refine x_nil ?_
    refine x_then ?_
    refine x_retc ?_
    refine x_then_ret ?_
    refine x_ret0 (.bool true) (by kernel_rfl) (by kernel_rfl) ?_
    exact ⟨rfl, H.below⟩

set_option maxRecDepth 100000 in
set_option maxHeartbeats 4000000 in
theorem plays_yes (room : Nat) (ad : Option Addr) (nA cA : Nat) (key stop : Int) (l : List (Int × Int × Int)) (h1 : 1 ≤ room) (h2 : room ≤ 256) (w0 : World) (hA : TOpsAt w0 ad nA l) :
    Calls Try.prog 9 #[.int .i64 ((room : Nat) : Int), .slice ad nA cA, .int .i64 key, .int .i64 stop] w0 fun e w' => e = .returned (.bool true) ∧ Below w0.heap.size w0 w' := by
  refine x_enterM Try.func9 rfl #[.int .i64 ((room : Nat) : Int), .slice ad nA cA, .int .i64 key, .int .i64 stop, undef, undef, undef, undef, undef, undef, undef, undef, undef, undef, undef, undef, undef, undef, undef, undef, undef, undef, undef, undef, undef, undef, undef, undef, undef, undef, undef, undef, undef, undef, undef, undef, undef, undef, undef, undef, undef, undef, undef, undef, undef, undef, undef, undef, undef, undef, undef, undef, undef, undef, undef, undef, undef, undef, undef, undef, undef, undef, undef, undef, undef, undef, undef, undef, undef, undef, undef, undef, undef, undef, undef, undef, undef, undef, undef, undef, undef, undef, undef, undef, undef, undef, undef, undef, undef, undef, undef, undef, undef, undef, undef, undef, undef, undef, undef, undef, undef, undef, undef, undef, undef, undef, undef, undef, undef, undef, undef, undef, undef, undef, undef, undef, undef, undef, undef, undef, undef, undef, undef, undef, undef, undef, undef, undef] (by kernel_rfl) ?_
  have H := Hs.nil w0
  have q1 : decide (((room : Nat) : Int) < 1) = false := by simp; omega
  have q2 : decide (256 < ((room : Nat) : Int)) = false := by simp; omega
  refine x_seq ?_
  refine x_region ?_
  refine x_box H #[.int .i64 stop] 3 (by kernel_rfl) rfl (by kernel_rfl) ?_
  clear H
  intro v1 g1 H
  refine x_val (.bool false) (by kernel_rfl) rfl (by kernel_rfl) ?_
  refine x_nil ?_
  refine x_then ?_
  refine x_seq ?_
  refine x_seq ?_
  refine x_region ?_
  refine x_callB (.bool true) H (by kernel_rfl) rfl (by kernel_rfl) (anchor16 _) ?_
  clear H
  intro v2 H
  refine x_val (.bool false) (by kernel_rfl) rfl (by kernel_rfl) ?_
  refine x_nil ?_
  refine x_then ?_
  refine x_f (by kernel_rfl) ?_
  refine x_skipc ?_
  refine x_then ?_
  refine x_seq ?_
  refine x_region ?_
  refine x_val (.int .i64 ((room : Nat) : Int)) (by kernel_rfl) rfl (by kernel_rfl) ?_
  refine x_call (by kernel_rfl) rfl (by kernel_rfl) (TNewI_yes room (by omega) (by omega) _) ?_
  rintro _ v3 ⟨t, rfl, hN'⟩
  refine ⟨_, rfl, ?_⟩
  replace H := H.more hN'
  clear hN'
  replace H : Hs [] w0 _ [.blk t #[.slice none 0 0, .int .i64 ((room : Nat) : Int), .func (.func 26) #[] #[]] 90, .row (.slice none 0 0) 92 2 (List.length ([] : List PairI)) (List.flatMap pairLI ([] : List PairI)), .blk g1 #[.int .i64 stop] 3] := H
  refine x_val (.tuple #[.pointer (some ⟨t, 0, none⟩), .int .i64 0]) (by kernel_rfl) rfl (by kernel_rfl) ?_
  refine x_val (.pointer (some ⟨t, 0, none⟩)) (by kernel_rfl) rfl (by kernel_rfl) ?_
  refine x_val (.int .i64 0) (by kernel_rfl) rfl (by kernel_rfl) ?_
  refine x_val (.pointer (some ⟨t, 0, none⟩)) (by kernel_rfl) rfl (by kernel_rfl) ?_
  refine x_val (.int .i64 0) (by kernel_rfl) rfl (by kernel_rfl) ?_
  refine x_nil ?_
  refine x_then ?_
  refine x_seq ?_
  refine x_seq ?_
  refine x_region ?_
  refine x_val (.int .i64 ((room : Nat) : Int)) (by kernel_rfl) rfl (by kernel_rfl) ?_
  refine x_val (.bool (decide (((room : Nat) : Int) < 1))) (by kernel_rfl) rfl (by kernel_rfl) ?_
  refine x_val (.bool (decide (((room : Nat) : Int) < 1))) (by kernel_rfl) rfl (by kernel_rfl) ?_
  rw [q1]
  refine x_val (.int .i64 ((room : Nat) : Int)) (by kernel_rfl) rfl (by kernel_rfl) ?_
  refine x_val (.bool (decide (256 < ((room : Nat) : Int)))) (by kernel_rfl) rfl (by kernel_rfl) ?_
  refine x_val (.bool (decide (256 < ((room : Nat) : Int)))) (by kernel_rfl) rfl (by kernel_rfl) ?_
  refine x_nil ?_
  refine x_then ?_
  rw [q2]
  refine x_f (by kernel_rfl) ?_
  refine x_skipc ?_
  refine x_then ?_
  refine x_seq ?_
  refine x_seq ?_
  refine x_region ?_
  refine x_val (.int .i64 0) (by kernel_rfl) rfl (by kernel_rfl) ?_
  refine x_val (.bool false) (by kernel_rfl) rfl (by kernel_rfl) ?_
  refine x_val (.bool false) (by kernel_rfl) rfl (by kernel_rfl) ?_
  refine x_val (.pointer (some ⟨t, 0, none⟩)) (by kernel_rfl) rfl (by kernel_rfl) ?_
  refine x_val (.bool false) (by kernel_rfl) rfl (by kernel_rfl) ?_
  refine x_val (.bool false) (by kernel_rfl) rfl (by kernel_rfl) ?_
  refine x_nil ?_
  refine x_then ?_
  refine x_f (by kernel_rfl) ?_
  refine x_skipc ?_
  refine x_then ?_
  refine x_seq ?_
  refine x_seq ?_
  refine x_region ?_
  refine x_val (.slice ad nA cA) (by kernel_rfl) rfl (by kernel_rfl) ?_
  refine x_val (.int .i64 ((nA : Nat) : Int)) (by kernel_rfl) rfl (by kernel_rfl) ?_
  refine x_val (.bool (decide (60 < ((nA : Nat) : Int)))) (by kernel_rfl) rfl (by kernel_rfl) ?_
  refine x_nil ?_
  refine x_then ?_
  cases h1 : decide (60 < ((nA : Nat) : Int))
  · skip
    have h1p := of_decide_eq_false h1
    refine x_f (by kernel_rfl) ?_
    refine x_skipc ?_
    refine x_then ?_
    refine x_seq ?_
    refine x_region ?_
    refine x_val (.slice none 0 0) (by kernel_rfl) rfl (by kernel_rfl) ?_
    refine x_nil ?_
    refine x_then ?_
    refine x_seq ?_
    refine x_seq ?_
    refine x_region ?_
    refine x_val (.slice ad nA cA) (by kernel_rfl) rfl (by kernel_rfl) ?_
    refine x_val (.int .i64 ((nA : Nat) : Int)) (by kernel_rfl) rfl (by kernel_rfl) ?_
    refine x_val (.int .i64 0) (by kernel_rfl) rfl (by kernel_rfl) ?_
    refine x_nil ?_
    refine x_frame' { tmps := #[.int .i64 ((room : Nat) : Int), .slice ad nA cA, .int .i64 key, .int .i64 stop, undef, undef, undef, .pointer (some ⟨g1, 0, none⟩), .bool false, .pointer (some ⟨t, 0, none⟩), .int .i64 0, .slice none 0 0, undef, undef, undef, undef, undef, undef, undef, .bool true, .bool false, .tuple #[.pointer (some ⟨t, 0, none⟩), .int .i64 0], .int .i64 ((room : Nat) : Int), .tuple #[.pointer (some ⟨t, 0, none⟩), .int .i64 0], .pointer (some ⟨t, 0, none⟩), .int .i64 0, .int .i64 ((room : Nat) : Int), .bool false, .bool false, .int .i64 ((room : Nat) : Int), .bool false, .bool false, undef, undef, undef, undef, undef, undef, .int .i64 0, .bool false, .bool false, .pointer (some ⟨t, 0, none⟩), .bool false, .bool false, .slice ad nA cA, .int .i64 ((nA : Nat) : Int), .bool false, .slice ad nA cA, .int .i64 ((nA : Nat) : Int), .int .i64 0, undef, undef, undef, undef, undef, undef, undef, undef, undef, undef, undef, undef, undef, undef, undef, undef, undef, undef, undef, undef, undef, undef, undef, undef, undef, undef, undef, undef, undef, undef, undef, undef, undef, undef, undef, undef, undef, undef, undef, undef, undef, undef, undef, undef, undef, undef, undef, undef, undef, undef, undef, undef, undef, undef, undef, undef, undef, undef, undef, undef, undef, undef, undef, undef, undef, undef, undef, undef, undef, undef, undef, undef, undef, undef, undef, undef, undef, undef], defers := [] } (by kernel_rfl) ?_
    refine x_then ?_
    refine x_block ?_
    replace H := H.nilRow 77 2
    replace H : Hs [] w0 _ [.row (.slice none 0 0) 77 2 (List.length ([] : List PairI)) (List.flatMap pairLI ([] : List PairI)), .blk t #[.slice none 0 0, .int .i64 ((room : Nat) : Int), .func (.func 26) #[] #[]] 90, .row (.slice none 0 0) 92 2 (List.length ([] : List PairI)) (List.flatMap pairLI ([] : List PairI)), .blk g1 #[.int .i64 stop] 3] := H
    replace H := H.pick [1, 2, 0, 3] [.blk t #[.slice none 0 0, .int .i64 ((room : Nat) : Int), .func (.func 26) #[] #[]] 90, .row (.slice none 0 0) 92 2 (List.length ([] : List PairI)) (List.flatMap pairLI ([] : List PairI)), .row (.slice none 0 0) 77 2 (List.length ([] : List PairI)) (List.flatMap pairLI ([] : List PairI)), .blk g1 #[.int .i64 stop] 3] (by decide) (by kernel_rfl)
    refine x_loop (G := Nat × Value × Value × List PairI) (fun gh a w' => match gh with | (k, sv, lv, xs) => ∃ uf1 : Nat → Value, a = { tmps := #[.int .i64 ((room : Nat) : Int), .slice ad nA cA, .int .i64 key, .int .i64 stop, undef, undef, undef, .pointer (some ⟨g1, 0, none⟩), (uf1 0), .pointer (some ⟨t, 0, none⟩), .int .i64 0, lv, undef, (uf1 1), (uf1 2), undef, undef, undef, undef, .bool true, .bool false, .tuple #[.pointer (some ⟨t, 0, none⟩), .int .i64 0], .int .i64 ((room : Nat) : Int), .tuple #[.pointer (some ⟨t, 0, none⟩), .int .i64 0], .pointer (some ⟨t, 0, none⟩), .int .i64 0, .int .i64 ((room : Nat) : Int), .bool false, .bool false, .int .i64 ((room : Nat) : Int), .bool false, .bool false, undef, undef, undef, undef, undef, undef, .int .i64 0, .bool false, .bool false, .pointer (some ⟨t, 0, none⟩), .bool false, .bool false, .slice ad nA cA, .int .i64 ((nA : Nat) : Int), .bool false, .slice ad nA cA, .int .i64 ((nA : Nat) : Int), .int .i64 ((k : Nat) : Int), (uf1 3), (uf1 4), (uf1 5), (uf1 6), (uf1 7), (uf1 8), (uf1 9), (uf1 10), (uf1 11), (uf1 12), (uf1 13), (uf1 14), (uf1 15), (uf1 16), (uf1 17), (uf1 18), (uf1 19), (uf1 20), (uf1 21), (uf1 22), (uf1 23), undef, undef, undef, undef, undef, undef, undef, undef, undef, undef, undef, undef, undef, undef, undef, undef, undef, undef, undef, undef, undef, undef, undef, undef, undef, undef, undef, undef, undef, undef, undef, undef, undef, undef, undef, undef, undef, undef, undef, undef, undef, undef, undef, undef, undef, undef, undef, undef, undef, undef, undef, undef, undef, undef, undef, undef, undef], defers := [] } ∧ Hs [] w0 w' [.blk t #[sv, .int .i64 ((room : Nat) : Int), .func (.func 26) #[] #[]] 90, .row (sv) 92 2 (List.length xs) (List.flatMap pairLI xs), .row (lv) 77 2 (List.length xs) (List.flatMap pairLI xs), .blk g1 #[.int .i64 stop] 3] ∧ (k ≤ nA) ∧ (xs.length ≤ room) ∧ (Unl xs)) (fun gh => match gh with | (k, sv, lv, xs) => nA - k) (0, .slice none 0 0, .slice none 0 0, ([] : List PairI)) ⟨(nthV [.bool false, undef, undef, undef, undef, undef, undef, undef, undef, undef, undef, undef, undef, undef, undef, undef, undef, undef, undef, undef, undef, undef, undef, undef]), (by kernel_rfl), H, (Nat.zero_le _), (Nat.zero_le _), List.nodup_nil⟩ ?_
    clear H
    rintro ⟨k, sv, lv, xs⟩ _ v4 ⟨uf1, rfl, H, r1, r2, r3⟩
    refine x_seq ?_
    refine x_region ?_
    refine x_val (.bool (decide (((k : Nat) : Int) < ((nA : Nat) : Int)))) (by kernel_rfl) rfl (by kernel_rfl) ?_
    refine x_nil ?_
    refine x_then ?_
    refine x_seq ?_
    cases h2 : decide (((k : Nat) : Int) < ((nA : Nat) : Int))
    · skip
      have h2p := of_decide_eq_false h2
      refine x_f (by kernel_rfl) ?_
      refine x_exit ?_
      refine x_then_exit ?_
      refine x_then_exit ?_
      refine x_blk_exit ?_
      refine x_then ?_
      refine x_seq ?_
      refine x_region ?_
      refine x_val (.pointer (some ⟨t, 0, none⟩)) (by kernel_rfl) rfl (by kernel_rfl) ?_
      refine x_val (.int .i64 key) (by kernel_rfl) rfl (by kernel_rfl) ?_
      cases h3 : decide (fkI xs key < List.length xs)
      · skip
        have h3p := of_decide_eq_false h3
        refine x_callB (.tuple #[.int .i64 0, .bool false]) H (by kernel_rfl) rfl (by kernel_rfl) (Get_no (room := room) key (by omega) (of_decide_eq_false h3) _ (H.roOf [0, 1] [.blk t #[sv, .int .i64 ((room : Nat) : Int), .func (.func 26) #[] #[]] 90, .row (sv) 92 2 (List.length xs) (List.flatMap pairLI xs)] (by kernel_rfl))) ?_
        clear H
        intro v5 H
        refine x_val (.tuple #[.int .i64 0, .bool false]) (by kernel_rfl) rfl (by kernel_rfl) ?_
        refine x_val (.int .i64 0) (by kernel_rfl) rfl (by kernel_rfl) ?_
        refine x_val (.bool false) (by kernel_rfl) rfl (by kernel_rfl) ?_
        refine x_val (.int .i64 0) (by kernel_rfl) rfl (by kernel_rfl) ?_
        refine x_val (.bool false) (by kernel_rfl) rfl (by kernel_rfl) ?_
        refine x_nil ?_
        refine x_then ?_
        refine x_seq ?_
        refine x_region ?_
        refine x_val (lv) (by kernel_rfl) rfl (by kernel_rfl) ?_
        refine x_val (.int .i64 key) (by kernel_rfl) rfl (by kernel_rfl) ?_
        refine x_callB (.int .i64 (-1)) H (by kernel_rfl) rfl (by kernel_rfl) (by have h := RFind xs key (by omega) _ (H.roOf [2] [.row (lv) 77 2 (List.length xs) (List.flatMap pairLI xs)] (by kernel_rfl)); rw [findI, if_neg (of_decide_eq_false h3)] at h; exact h) ?_
        clear H
        intro v6 H
        refine x_val (.int .i64 (-1)) (by kernel_rfl) rfl (by kernel_rfl) ?_
        refine x_nil ?_
        refine x_then ?_
        refine x_seq ?_
        refine x_seq ?_
        refine x_region ?_
        refine x_val (.bool false) (by kernel_rfl) rfl (by kernel_rfl) ?_
        refine x_val (.int .i64 (-1)) (by kernel_rfl) rfl (by kernel_rfl) ?_
        refine x_val (.bool false) (by kernel_rfl) rfl (by kernel_rfl) ?_
        refine x_val (.bool false) (by kernel_rfl) rfl (by kernel_rfl) ?_
        refine x_val (.bool false) (by kernel_rfl) rfl (by kernel_rfl) ?_
        refine x_val (.bool false) (by kernel_rfl) rfl (by kernel_rfl) ?_
        refine x_val (.bool false) (by kernel_rfl) rfl (by kernel_rfl) ?_
        refine x_skip (by kernel_rfl) ?_
        refine x_skip (by kernel_rfl) ?_
        refine x_skip (by kernel_rfl) ?_
        refine x_skip (by kernel_rfl) ?_
        refine x_skip (by kernel_rfl) ?_
        refine x_skip (by kernel_rfl) ?_
        refine x_skip (by kernel_rfl) ?_
        refine x_val (.bool false) (by kernel_rfl) rfl (by kernel_rfl) ?_
        refine x_val (.bool false) (by kernel_rfl) rfl (by kernel_rfl) ?_
        refine x_val (.bool false) (by kernel_rfl) rfl (by kernel_rfl) ?_
        refine x_val (.bool false) (by kernel_rfl) rfl (by kernel_rfl) ?_
        refine x_val (.bool true) (by kernel_rfl) rfl (by kernel_rfl) ?_
        refine x_val (.bool true) (by kernel_rfl) rfl (by kernel_rfl) ?_
        refine x_val (.int .i64 0) (by kernel_rfl) rfl (by kernel_rfl) ?_
        refine x_val (.bool false) (by kernel_rfl) rfl (by kernel_rfl) ?_
        refine x_val (.bool false) (by kernel_rfl) rfl (by kernel_rfl) ?_
        refine x_val (.bool false) (by kernel_rfl) rfl (by kernel_rfl) ?_
        refine x_nil ?_
        refine x_frame' { tmps := #[.int .i64 ((room : Nat) : Int), .slice ad nA cA, .int .i64 key, .int .i64 stop, undef, undef, undef, .pointer (some ⟨g1, 0, none⟩), (uf1 0), .pointer (some ⟨t, 0, none⟩), .int .i64 0, lv, undef, (uf1 1), (uf1 2), .int .i64 0, .bool false, .int .i64 (-1), undef, .bool true, .bool false, .tuple #[.pointer (some ⟨t, 0, none⟩), .int .i64 0], .int .i64 ((room : Nat) : Int), .tuple #[.pointer (some ⟨t, 0, none⟩), .int .i64 0], .pointer (some ⟨t, 0, none⟩), .int .i64 0, .int .i64 ((room : Nat) : Int), .bool false, .bool false, .int .i64 ((room : Nat) : Int), .bool false, .bool false, undef, undef, undef, undef, undef, undef, .int .i64 0, .bool false, .bool false, .pointer (some ⟨t, 0, none⟩), .bool false, .bool false, .slice ad nA cA, .int .i64 ((nA : Nat) : Int), .bool false, .slice ad nA cA, .int .i64 ((nA : Nat) : Int), .int .i64 ((k : Nat) : Int), .bool false, (uf1 4), (uf1 5), (uf1 6), (uf1 7), (uf1 8), (uf1 9), (uf1 10), (uf1 11), (uf1 12), (uf1 13), (uf1 14), (uf1 15), (uf1 16), (uf1 17), (uf1 18), (uf1 19), (uf1 20), (uf1 21), (uf1 22), (uf1 23), .tuple #[.int .i64 0, .bool false], .pointer (some ⟨t, 0, none⟩), .int .i64 key, .tuple #[.int .i64 0, .bool false], .int .i64 0, .bool false, lv, .int .i64 key, .int .i64 (-1), .bool false, .int .i64 (-1), .bool false, .bool false, .bool false, .bool false, .bool false, undef, undef, undef, undef, undef, undef, undef, .bool false, .bool false, .bool false, .bool false, .bool true, .bool true, .int .i64 0, .bool false, .bool false, .bool false, undef, undef, undef, undef, undef, undef, undef, undef, undef, undef, undef, undef, undef, undef, undef, undef, undef, undef, undef, undef, undef, undef, undef, undef], defers := [] } (by kernel_rfl) ?_
        refine x_then ?_
        refine x_f (by kernel_rfl) ?_
        refine x_skipc ?_
        refine x_then ?_
        refine x_seq ?_
        refine x_region ?_
        refine x_box H #[.int .i64 0] 3 (by kernel_rfl) rfl (by kernel_rfl) ?_
        clear H
        intro v7 g2 H
        refine x_store (t := 3) (v := .int .i64 0) H 0 g2 0 #[.int .i64 0] #[.int .i64 0] 3 [.int .i64 0] [.blk g2 #[.int .i64 0] 3, .blk t #[sv, .int .i64 ((room : Nat) : Int), .func (.func 26) #[] #[]] 90, .row (sv) 92 2 (List.length xs) (List.flatMap pairLI xs), .row (lv) 77 2 (List.length xs) (List.flatMap pairLI xs), .blk g1 #[.int .i64 stop] 3] (by kernel_rfl) rfl (by kernel_rfl) (by kernel_rfl) (by kernel_rfl) (by kernel_rfl) (by kernel_rfl) (by kernel_rfl) (by kernel_rfl) (by kernel_rfl) ?_
        clear H
        intro v8 H
        refine x_nil ?_
        refine x_then ?_
        refine x_seq ?_
        refine x_seq ?_
        refine x_region ?_
        refine x_val (.pointer (some ⟨t, 0, none⟩)) (by kernel_rfl) rfl (by kernel_rfl) ?_
        refine x_call (by kernel_rfl) rfl (by kernel_rfl) (TAll_of t _) ?_
        rintro _ v9 ⟨q, rfl, hN'⟩
        refine ⟨_, rfl, ?_⟩
        replace H := H.more hN'
        clear hN'
        replace H : Hs [] w0 _ [.blk q #[.pointer (some ⟨t, 0, none⟩)] 56, .blk g2 #[.int .i64 0] 3, .blk t #[sv, .int .i64 ((room : Nat) : Int), .func (.func 26) #[] #[]] 90, .row (sv) 92 2 (List.length xs) (List.flatMap pairLI xs), .row (lv) 77 2 (List.length xs) (List.flatMap pairLI xs), .blk g1 #[.int .i64 stop] 3] := H
        refine x_nil ?_
        refine x_then ?_
        refine x_block ?_
        replace H := H.pick [1, 0, 2, 3, 4, 5] [.blk g2 #[.int .i64 0] 3, .blk q #[.pointer (some ⟨t, 0, none⟩)] 56, .blk t #[sv, .int .i64 ((room : Nat) : Int), .func (.func 26) #[] #[]] 90, .row (sv) 92 2 (List.length xs) (List.flatMap pairLI xs), .row (lv) 77 2 (List.length xs) (List.flatMap pairLI xs), .blk g1 #[.int .i64 stop] 3] (by decide) (by kernel_rfl)
        replace H : Hs [] w0 _ [.blk g2 #[.int .i64 ((0 : Nat) : Int)] 3, .blk q #[.pointer (some ⟨t, 0, none⟩)] 56, .blk t #[sv, .int .i64 ((room : Nat) : Int), .func (.func 26) #[] #[]] 90, .row (sv) 92 2 (List.length xs) (List.flatMap pairLI xs), .row (lv) 77 2 (List.length xs) (List.flatMap pairLI xs), .blk g1 #[.int .i64 stop] 3] := H
        refine x_rangeB (α := PairI) (G := Nat) xs (fun x => #[.int .i64 x.1, .int .i64 x.2]) [.blk q #[.pointer (some ⟨t, 0, none⟩)] 56, .blk t #[sv, .int .i64 ((room : Nat) : Int), .func (.func 26) #[] #[]] 90, .row (sv) 92 2 (List.length xs) (List.flatMap pairLI xs)] [1, 2, 3] (fps [.blk g2 #[.int .i64 ((0 : Nat) : Int)] 3, .blk q #[.pointer (some ⟨t, 0, none⟩)] 56, .blk t #[sv, .int .i64 ((room : Nat) : Int), .func (.func 26) #[] #[]] 90, .row (sv) 92 2 (List.length xs) (List.flatMap pairLI xs), .row (lv) 77 2 (List.length xs) (List.flatMap pairLI xs), .blk g1 #[.int .i64 stop] 3]) (fun pre (c : Nat) => c = List.length pre) (fun pre (c : Nat) => [.blk g2 #[.int .i64 ((c : Nat) : Int)] 3, .blk q #[.pointer (some ⟨t, 0, none⟩)] 56, .blk t #[sv, .int .i64 ((room : Nat) : Int), .func (.func 26) #[] #[]] 90, .row (sv) 92 2 (List.length xs) (List.flatMap pairLI xs), .row (lv) 77 2 (List.length xs) (List.flatMap pairLI xs), .blk g1 #[.int .i64 stop] 3]) (fun cd pre (c : Nat) => (cd = .exit 2 ∧ (c = List.length pre ∧ ((c : Nat) : Int) = stop))) (fun x b => []) (fun x b => { tmps := #[.int .i64 ((room : Nat) : Int), .slice ad nA cA, .int .i64 key, .int .i64 stop, undef, undef, undef, .pointer (some ⟨g1, 0, none⟩), (uf1 0), .pointer (some ⟨t, 0, none⟩), .int .i64 0, lv, undef, (uf1 1), (uf1 2), .int .i64 0, .bool false, .int .i64 (-1), .pointer (some ⟨g2, 0, none⟩), .bool true, .bool false, .tuple #[.pointer (some ⟨t, 0, none⟩), .int .i64 0], .int .i64 ((room : Nat) : Int), .tuple #[.pointer (some ⟨t, 0, none⟩), .int .i64 0], .pointer (some ⟨t, 0, none⟩), .int .i64 0, .int .i64 ((room : Nat) : Int), .bool false, .bool false, .int .i64 ((room : Nat) : Int), .bool false, .bool false, undef, undef, undef, undef, undef, undef, .int .i64 0, .bool false, .bool false, .pointer (some ⟨t, 0, none⟩), .bool false, .bool false, .slice ad nA cA, .int .i64 ((nA : Nat) : Int), .bool false, .slice ad nA cA, .int .i64 ((nA : Nat) : Int), .int .i64 ((k : Nat) : Int), .bool false, (uf1 4), (uf1 5), (uf1 6), (uf1 7), (uf1 8), (uf1 9), (uf1 10), (uf1 11), (uf1 12), (uf1 13), (uf1 14), (uf1 15), (uf1 16), (uf1 17), (uf1 18), (uf1 19), (uf1 20), (uf1 21), (uf1 22), (uf1 23), .tuple #[.int .i64 0, .bool false], .pointer (some ⟨t, 0, none⟩), .int .i64 key, .tuple #[.int .i64 0, .bool false], .int .i64 0, .bool false, lv, .int .i64 key, .int .i64 (-1), .bool false, .int .i64 (-1), .bool false, .bool false, .bool false, .bool false, .bool false, undef, undef, undef, undef, undef, undef, undef, .bool false, .bool false, .bool false, .bool false, .bool true, .bool true, .int .i64 0, .bool false, .bool false, .bool false, .pointer (some ⟨t, 0, none⟩), .func (.func 43) #[] #[.pointer (some ⟨q, 0, none⟩)], .int .i64 x.1, .int .i64 x.2, undef, undef, undef, undef, undef, undef, undef, undef, undef, undef, undef, undef, undef, undef, undef, undef, undef, undef, undef, undef], defers := [] }) 0 (by kernel_rfl) (enters_of Try.func43 (by kernel_rfl) rfl) (tvals_of (by omega) _ (H.roOf [1, 2, 3] _ (by kernel_rfl))) (fun _ => rfl) rfl (by rintro _ c; rfl) (by rintro _ c; rfl) (by rintro _ c; rfl) (fun _ _ => rfl) (fun _ _ => rfl) H rfl ?_ ?_ ?_ ?_
        · skip
          clear H
          rintro lrnd pre x c W1 hI H
          refine x_at (b := { tmps := #[.int .i64 ((room : Nat) : Int), .slice ad nA cA, .int .i64 key, .int .i64 stop, undef, undef, undef, .pointer (some ⟨g1, 0, none⟩), (uf1 0), .pointer (some ⟨t, 0, none⟩), .int .i64 0, lv, undef, (uf1 1), (uf1 2), .int .i64 0, .bool false, .int .i64 (-1), .pointer (some ⟨g2, 0, none⟩), .bool true, .bool false, .tuple #[.pointer (some ⟨t, 0, none⟩), .int .i64 0], .int .i64 ((room : Nat) : Int), .tuple #[.pointer (some ⟨t, 0, none⟩), .int .i64 0], .pointer (some ⟨t, 0, none⟩), .int .i64 0, .int .i64 ((room : Nat) : Int), .bool false, .bool false, .int .i64 ((room : Nat) : Int), .bool false, .bool false, undef, undef, undef, undef, undef, undef, .int .i64 0, .bool false, .bool false, .pointer (some ⟨t, 0, none⟩), .bool false, .bool false, .slice ad nA cA, .int .i64 ((nA : Nat) : Int), .bool false, .slice ad nA cA, .int .i64 ((nA : Nat) : Int), .int .i64 ((k : Nat) : Int), .bool false, (uf1 4), (uf1 5), (uf1 6), (uf1 7), (uf1 8), (uf1 9), (uf1 10), (uf1 11), (uf1 12), (uf1 13), (uf1 14), (uf1 15), (uf1 16), (uf1 17), (uf1 18), (uf1 19), (uf1 20), (uf1 21), (uf1 22), (uf1 23), .tuple #[.int .i64 0, .bool false], .pointer (some ⟨t, 0, none⟩), .int .i64 key, .tuple #[.int .i64 0, .bool false], .int .i64 0, .bool false, lv, .int .i64 key, .int .i64 (-1), .bool false, .int .i64 (-1), .bool false, .bool false, .bool false, .bool false, .bool false, undef, undef, undef, undef, undef, undef, undef, .bool false, .bool false, .bool false, .bool false, .bool true, .bool true, .int .i64 0, .bool false, .bool false, .bool false, .pointer (some ⟨t, 0, none⟩), .func (.func 43) #[] #[.pointer (some ⟨q, 0, none⟩)], .int .i64 x.1, .int .i64 x.2, undef, undef, undef, undef, undef, undef, undef, undef, undef, undef, undef, undef, undef, undef, undef, undef, undef, undef, undef, undef], defers := [] }) (by kernel_rfl) ?_
          refine x_skipc ?_
          refine x_then ?_
          exact ⟨0, (by kernel_rfl), H⟩
        · skip
          clear H
          rintro lrnd pre x c b W1 hI hlen H
          replace H : Hs (fps [] ++ (fps [.blk g2 #[.int .i64 ((0 : Nat) : Int)] 3, .blk q #[.pointer (some ⟨t, 0, none⟩)] 56, .blk t #[sv, .int .i64 ((room : Nat) : Int), .func (.func 26) #[] #[]] 90, .row (sv) 92 2 (List.length xs) (List.flatMap pairLI xs), .row (lv) 77 2 (List.length xs) (List.flatMap pairLI xs), .blk g1 #[.int .i64 stop] 3])) W1 W1 [.blk g2 #[.int .i64 ((c : Nat) : Int)] 3, .blk q #[.pointer (some ⟨t, 0, none⟩)] 56, .blk t #[sv, .int .i64 ((room : Nat) : Int), .func (.func 26) #[] #[]] 90, .row (sv) 92 2 (List.length xs) (List.flatMap pairLI xs), .row (lv) 77 2 (List.length xs) (List.flatMap pairLI xs), .blk g1 #[.int .i64 stop] 3] := H
          have hI' : c = List.length pre := hI
          refine x_block ?_
          refine x_seq ?_
          refine x_region ?_
          refine x_load1 H 0 g2 0 #[.int .i64 ((c : Nat) : Int)] 3 (.int .i64 ((c : Nat) : Int)) (by kernel_rfl) (by kernel_rfl) (by kernel_rfl) rfl (by kernel_rfl) ?_
          refine x_ar (((c : Nat) : Int) + 1) ⟨by omega, by omega⟩ (by kernel_rfl) rfl (by kernel_rfl) ?_
          refine x_store (t := 3) (v := .int .i64 (((c : Nat) : Int) + 1)) H 0 g2 0 #[.int .i64 ((c : Nat) : Int)] #[.int .i64 (((c : Nat) : Int) + 1)] 3 [.int .i64 (((c : Nat) : Int) + 1)] [.blk g2 #[.int .i64 (((c : Nat) : Int) + 1)] 3, .blk q #[.pointer (some ⟨t, 0, none⟩)] 56, .blk t #[sv, .int .i64 ((room : Nat) : Int), .func (.func 26) #[] #[]] 90, .row (sv) 92 2 (List.length xs) (List.flatMap pairLI xs), .row (lv) 77 2 (List.length xs) (List.flatMap pairLI xs), .blk g1 #[.int .i64 stop] 3] (by kernel_rfl) rfl (by kernel_rfl) (by kernel_rfl) (by kernel_rfl) (by kernel_rfl) (by kernel_rfl) (by kernel_rfl) (by kernel_rfl) (by kernel_rfl) ?_
          clear H
          intro v10 H
          refine x_nil ?_
          refine x_then ?_
          refine x_seq ?_
          refine x_region ?_
          refine x_load1 H 0 g2 0 #[.int .i64 (((c : Nat) : Int) + 1)] 3 (.int .i64 (((c : Nat) : Int) + 1)) (by kernel_rfl) (by kernel_rfl) (by kernel_rfl) rfl (by kernel_rfl) ?_
          refine x_load1 H 5 g1 0 #[.int .i64 stop] 3 (.int .i64 stop) (by kernel_rfl) (by kernel_rfl) (by kernel_rfl) rfl (by kernel_rfl) ?_
          refine x_val (.bool (decide ((((c : Nat) : Int) + 1) = stop))) (by kernel_rfl) rfl (by kernel_rfl) ?_
          refine x_nil ?_
          refine x_then ?_
          cases h4 : decide ((((c : Nat) : Int) + 1) = stop)
          · skip
            have h4p := of_decide_eq_false h4
            refine x_f (by kernel_rfl) ?_
            refine x_skipc ?_
            refine x_blk ?_
            replace H := H.pick [0, 1, 2, 3, 4, 5] [.blk g2 #[.int .i64 (((c : Nat) : Int) + 1)] 3, .blk q #[.pointer (some ⟨t, 0, none⟩)] 56, .blk t #[sv, .int .i64 ((room : Nat) : Int), .func (.func 26) #[] #[]] 90, .row (sv) 92 2 (List.length xs) (List.flatMap pairLI xs), .row (lv) 77 2 (List.length xs) (List.flatMap pairLI xs), .blk g1 #[.int .i64 stop] 3] (by decide) (by kernel_rfl)
            exact ⟨(c + 1), (by show _ = List.length (pre ++ [x]); simp; exact hI), H⟩
          · skip
            have h4p := of_decide_eq_true h4
            refine x_t (by kernel_rfl) ?_
            refine x_exit ?_
            refine x_blk_out (by decide) ?_
            replace H := H.pick [0, 1, 2, 3, 4, 5] [.blk g2 #[.int .i64 (((c : Nat) : Int) + 1)] 3, .blk q #[.pointer (some ⟨t, 0, none⟩)] 56, .blk t #[sv, .int .i64 ((room : Nat) : Int), .func (.func 26) #[] #[]] 90, .row (sv) 92 2 (List.length xs) (List.flatMap pairLI xs), .row (lv) 77 2 (List.length xs) (List.flatMap pairLI xs), .blk g1 #[.int .i64 stop] 3] (by decide) (by kernel_rfl)
            exact ⟨(c + 1), ⟨rfl, ⟨(by simp; exact hI), by omega⟩⟩, H⟩
        · skip
          clear H
          rintro D c W1 hI H
          have hI2 : c = List.length xs := hI
          refine x_blk ?_
          refine x_then ?_
          refine x_seq ?_
          refine x_region ?_
          refine x_load1 H 1 g2 0 #[.int .i64 ((c : Nat) : Int)] 3 (.int .i64 ((c : Nat) : Int)) (by kernel_rfl) (by kernel_rfl) (by kernel_rfl) rfl (by kernel_rfl) ?_
          refine x_val (lv) (by kernel_rfl) rfl (by kernel_rfl) ?_
          refine x_lenR H 5 lv 70 77 2 (List.length xs) (List.flatMap pairLI xs) rfl (by kernel_rfl) (by kernel_rfl) rfl (by kernel_rfl) ?_
          refine x_val (.bool (decide (((c : Nat) : Int) = (((List.length xs) : Nat) : Int)))) (by kernel_rfl) rfl (by kernel_rfl) ?_
          refine x_val (.bool (decide (((c : Nat) : Int) = (((List.length xs) : Nat) : Int)))) (by kernel_rfl) rfl (by kernel_rfl) ?_
          cases h5 : decide (((c : Nat) : Int) = (((List.length xs) : Nat) : Int))
          · skip
            have h5p := of_decide_eq_false h5
            refine x_load1 H 1 g2 0 #[.int .i64 ((c : Nat) : Int)] 3 (.int .i64 ((c : Nat) : Int)) (by kernel_rfl) (by kernel_rfl) (by kernel_rfl) rfl (by kernel_rfl) ?_
            refine x_load1 H 6 g1 0 #[.int .i64 stop] 3 (.int .i64 stop) (by kernel_rfl) (by kernel_rfl) (by kernel_rfl) rfl (by kernel_rfl) ?_
            refine x_val (.bool (decide (((c : Nat) : Int) = stop))) (by kernel_rfl) rfl (by kernel_rfl) ?_
            refine x_val (.bool (decide (((c : Nat) : Int) = stop))) (by kernel_rfl) rfl (by kernel_rfl) ?_
            cases h6 : decide (((c : Nat) : Int) = stop)
            · skip
              have h6p := of_decide_eq_false h6
              refine x_skip (by kernel_rfl) ?_
              refine x_skip (by kernel_rfl) ?_
              refine x_skip (by kernel_rfl) ?_
              refine x_skip (by kernel_rfl) ?_
              refine x_val (.bool false) (by kernel_rfl) rfl (by kernel_rfl) ?_
              refine x_val (.bool false) (by kernel_rfl) rfl (by kernel_rfl) ?_
              refine x_val (.bool false) (by kernel_rfl) rfl (by kernel_rfl) ?_
              refine x_nil ?_
              refine x_then ?_
              refine x_retc ?_
              refine x_retM1 [0, 1, 2, 3, 4, 5, 6] [.blk g2 #[.int .i64 ((c : Nat) : Int)] 3, .blk q #[.pointer (some ⟨t, 0, none⟩)] 56, .blk t #[sv, .int .i64 ((room : Nat) : Int), .func (.func 26) #[] #[]] 90, .row (sv) 92 2 (List.length xs) (List.flatMap pairLI xs), .row (lv) 77 2 (List.length xs) (List.flatMap pairLI xs), .blk g1 #[.int .i64 stop] 3] (.bool false) H (by kernel_rfl) rfl (by decide) (fun _ H => (by kernel_rfl)) ?_
              clear H
              intro v11 H
              exfalso; omega
            · skip
              have h6p := of_decide_eq_true h6
              refine x_load1 H 6 g1 0 #[.int .i64 stop] 3 (.int .i64 stop) (by kernel_rfl) (by kernel_rfl) (by kernel_rfl) rfl (by kernel_rfl) ?_
              refine x_val (lv) (by kernel_rfl) rfl (by kernel_rfl) ?_
              refine x_lenR H 5 lv 70 77 2 (List.length xs) (List.flatMap pairLI xs) rfl (by kernel_rfl) (by kernel_rfl) rfl (by kernel_rfl) ?_
              refine x_val (.bool (decide (stop < (((List.length xs) : Nat) : Int)))) (by kernel_rfl) rfl (by kernel_rfl) ?_
              refine x_val (.bool (decide (stop < (((List.length xs) : Nat) : Int)))) (by kernel_rfl) rfl (by kernel_rfl) ?_
              refine x_val (.bool (decide (stop < (((List.length xs) : Nat) : Int)))) (by kernel_rfl) rfl (by kernel_rfl) ?_
              refine x_val (.bool (decide (stop < (((List.length xs) : Nat) : Int)))) (by kernel_rfl) rfl (by kernel_rfl) ?_
              refine x_nil ?_
              refine x_then ?_
              refine x_retc ?_
              refine x_retM1 [0, 1, 2, 3, 4, 5, 6] [.blk g2 #[.int .i64 ((c : Nat) : Int)] 3, .blk q #[.pointer (some ⟨t, 0, none⟩)] 56, .blk t #[sv, .int .i64 ((room : Nat) : Int), .func (.func 26) #[] #[]] 90, .row (sv) 92 2 (List.length xs) (List.flatMap pairLI xs), .row (lv) 77 2 (List.length xs) (List.flatMap pairLI xs), .blk g1 #[.int .i64 stop] 3] (.bool (decide (stop < (((List.length xs) : Nat) : Int)))) H (by kernel_rfl) rfl (by decide) (fun _ H => (by kernel_rfl)) ?_
              clear H
              intro v12 H
              exact ⟨by rw [show (decide (stop < (((List.length xs) : Nat) : Int))) = true from decide_eq_true (by omega)], H.below⟩
          · skip
            have h5p := of_decide_eq_true h5
            refine x_skip (by kernel_rfl) ?_
            refine x_skip (by kernel_rfl) ?_
            refine x_skip (by kernel_rfl) ?_
            refine x_skip (by kernel_rfl) ?_
            refine x_skip (by kernel_rfl) ?_
            refine x_skip (by kernel_rfl) ?_
            refine x_skip (by kernel_rfl) ?_
            refine x_skip (by kernel_rfl) ?_
            refine x_skip (by kernel_rfl) ?_
            refine x_val (.bool true) (by kernel_rfl) rfl (by kernel_rfl) ?_
            refine x_val (.bool true) (by kernel_rfl) rfl (by kernel_rfl) ?_
            refine x_nil ?_
            refine x_then ?_
            refine x_retc ?_
            refine x_retM1 [0, 1, 2, 3, 4, 5, 6] [.blk g2 #[.int .i64 ((c : Nat) : Int)] 3, .blk q #[.pointer (some ⟨t, 0, none⟩)] 56, .blk t #[sv, .int .i64 ((room : Nat) : Int), .func (.func 26) #[] #[]] 90, .row (sv) 92 2 (List.length xs) (List.flatMap pairLI xs), .row (lv) 77 2 (List.length xs) (List.flatMap pairLI xs), .blk g1 #[.int .i64 stop] 3] (.bool true) H (by kernel_rfl) rfl (by decide) (fun _ H => (by kernel_rfl)) ?_
            clear H
            intro v13 H
            exact ⟨rfl, H.below⟩
        · skip
          clear H
          rintro D c pre c W1 hpre hJ H
          rcases hJ with ⟨rfl, hJ⟩
          · skip
            obtain ⟨hc1, hc2⟩ := hJ
            have hpl := hpre.length_le
            refine x_exit ?_
            refine x_blk_exit ?_
            refine x_then ?_
            refine x_seq ?_
            refine x_region ?_
            refine x_load1 H 1 g2 0 #[.int .i64 ((c : Nat) : Int)] 3 (.int .i64 ((c : Nat) : Int)) (by kernel_rfl) (by kernel_rfl) (by kernel_rfl) rfl (by kernel_rfl) ?_
            refine x_val (lv) (by kernel_rfl) rfl (by kernel_rfl) ?_
            refine x_lenR H 5 lv 70 77 2 (List.length xs) (List.flatMap pairLI xs) rfl (by kernel_rfl) (by kernel_rfl) rfl (by kernel_rfl) ?_
            refine x_val (.bool (decide (((c : Nat) : Int) = (((List.length xs) : Nat) : Int)))) (by kernel_rfl) rfl (by kernel_rfl) ?_
            refine x_val (.bool (decide (((c : Nat) : Int) = (((List.length xs) : Nat) : Int)))) (by kernel_rfl) rfl (by kernel_rfl) ?_
            cases h7 : decide (((c : Nat) : Int) = (((List.length xs) : Nat) : Int))
            · skip
              have h7p := of_decide_eq_false h7
              refine x_load1 H 1 g2 0 #[.int .i64 ((c : Nat) : Int)] 3 (.int .i64 ((c : Nat) : Int)) (by kernel_rfl) (by kernel_rfl) (by kernel_rfl) rfl (by kernel_rfl) ?_
              refine x_load1 H 6 g1 0 #[.int .i64 stop] 3 (.int .i64 stop) (by kernel_rfl) (by kernel_rfl) (by kernel_rfl) rfl (by kernel_rfl) ?_
              refine x_val (.bool (decide (((c : Nat) : Int) = stop))) (by kernel_rfl) rfl (by kernel_rfl) ?_
              refine x_val (.bool (decide (((c : Nat) : Int) = stop))) (by kernel_rfl) rfl (by kernel_rfl) ?_
              cases h8 : decide (((c : Nat) : Int) = stop)
              · skip
                have h8p := of_decide_eq_false h8
                refine x_skip (by kernel_rfl) ?_
                refine x_skip (by kernel_rfl) ?_
                refine x_skip (by kernel_rfl) ?_
                refine x_skip (by kernel_rfl) ?_
                refine x_val (.bool false) (by kernel_rfl) rfl (by kernel_rfl) ?_
                refine x_val (.bool false) (by kernel_rfl) rfl (by kernel_rfl) ?_
                refine x_val (.bool false) (by kernel_rfl) rfl (by kernel_rfl) ?_
                refine x_nil ?_
                refine x_then ?_
                refine x_retc ?_
                refine x_retM1 [0, 1, 2, 3, 4, 5, 6] [.blk g2 #[.int .i64 ((c : Nat) : Int)] 3, .blk q #[.pointer (some ⟨t, 0, none⟩)] 56, .blk t #[sv, .int .i64 ((room : Nat) : Int), .func (.func 26) #[] #[]] 90, .row (sv) 92 2 (List.length xs) (List.flatMap pairLI xs), .row (lv) 77 2 (List.length xs) (List.flatMap pairLI xs), .blk g1 #[.int .i64 stop] 3] (.bool false) H (by kernel_rfl) rfl (by decide) (fun _ H => (by kernel_rfl)) ?_
                clear H
                intro v14 H
                exfalso; omega
              · skip
                have h8p := of_decide_eq_true h8
                refine x_load1 H 6 g1 0 #[.int .i64 stop] 3 (.int .i64 stop) (by kernel_rfl) (by kernel_rfl) (by kernel_rfl) rfl (by kernel_rfl) ?_
                refine x_val (lv) (by kernel_rfl) rfl (by kernel_rfl) ?_
                refine x_lenR H 5 lv 70 77 2 (List.length xs) (List.flatMap pairLI xs) rfl (by kernel_rfl) (by kernel_rfl) rfl (by kernel_rfl) ?_
                refine x_val (.bool (decide (stop < (((List.length xs) : Nat) : Int)))) (by kernel_rfl) rfl (by kernel_rfl) ?_
                refine x_val (.bool (decide (stop < (((List.length xs) : Nat) : Int)))) (by kernel_rfl) rfl (by kernel_rfl) ?_
                refine x_val (.bool (decide (stop < (((List.length xs) : Nat) : Int)))) (by kernel_rfl) rfl (by kernel_rfl) ?_
                refine x_val (.bool (decide (stop < (((List.length xs) : Nat) : Int)))) (by kernel_rfl) rfl (by kernel_rfl) ?_
                refine x_nil ?_
                refine x_then ?_
                refine x_retc ?_
                refine x_retM1 [0, 1, 2, 3, 4, 5, 6] [.blk g2 #[.int .i64 ((c : Nat) : Int)] 3, .blk q #[.pointer (some ⟨t, 0, none⟩)] 56, .blk t #[sv, .int .i64 ((room : Nat) : Int), .func (.func 26) #[] #[]] 90, .row (sv) 92 2 (List.length xs) (List.flatMap pairLI xs), .row (lv) 77 2 (List.length xs) (List.flatMap pairLI xs), .blk g1 #[.int .i64 stop] 3] (.bool (decide (stop < (((List.length xs) : Nat) : Int)))) H (by kernel_rfl) rfl (by decide) (fun _ H => (by kernel_rfl)) ?_
                clear H
                intro v15 H
                exact ⟨by rw [show (decide (stop < (((List.length xs) : Nat) : Int))) = true from decide_eq_true (by omega)], H.below⟩
            · skip
              have h7p := of_decide_eq_true h7
              refine x_skip (by kernel_rfl) ?_
              refine x_skip (by kernel_rfl) ?_
              refine x_skip (by kernel_rfl) ?_
              refine x_skip (by kernel_rfl) ?_
              refine x_skip (by kernel_rfl) ?_
              refine x_skip (by kernel_rfl) ?_
              refine x_skip (by kernel_rfl) ?_
              refine x_skip (by kernel_rfl) ?_
              refine x_skip (by kernel_rfl) ?_
              refine x_val (.bool true) (by kernel_rfl) rfl (by kernel_rfl) ?_
              refine x_val (.bool true) (by kernel_rfl) rfl (by kernel_rfl) ?_
              refine x_nil ?_
              refine x_then ?_
              refine x_retc ?_
              refine x_retM1 [0, 1, 2, 3, 4, 5, 6] [.blk g2 #[.int .i64 ((c : Nat) : Int)] 3, .blk q #[.pointer (some ⟨t, 0, none⟩)] 56, .blk t #[sv, .int .i64 ((room : Nat) : Int), .func (.func 26) #[] #[]] 90, .row (sv) 92 2 (List.length xs) (List.flatMap pairLI xs), .row (lv) 77 2 (List.length xs) (List.flatMap pairLI xs), .blk g1 #[.int .i64 stop] 3] (.bool true) H (by kernel_rfl) rfl (by decide) (fun _ H => (by kernel_rfl)) ?_
              clear H
              intro v16 H
              exact ⟨rfl, H.below⟩
      · skip
        have h3p := of_decide_eq_true h3
        rcases H.rowForm 2 rfl with ⟨rfl, h0⟩ | ⟨gl, cl, rfl, hcl, -⟩
        · exfalso; omega
        refine x_callB (.tuple #[.int .i64 ((xs.getD (fkI xs key) (0, 0)).2), .bool true]) H (by kernel_rfl) rfl (by kernel_rfl) (Get_yes (room := room) key (by omega) (of_decide_eq_true h3) _ (H.roOf [0, 1] [.blk t #[sv, .int .i64 ((room : Nat) : Int), .func (.func 26) #[] #[]] 90, .row (sv) 92 2 (List.length xs) (List.flatMap pairLI xs)] (by kernel_rfl))) ?_
        clear H
        intro v17 H
        refine x_val (.tuple #[.int .i64 ((xs.getD (fkI xs key) (0, 0)).2), .bool true]) (by kernel_rfl) rfl (by kernel_rfl) ?_
        refine x_val (.int .i64 ((xs.getD (fkI xs key) (0, 0)).2)) (by kernel_rfl) rfl (by kernel_rfl) ?_
        refine x_val (.bool true) (by kernel_rfl) rfl (by kernel_rfl) ?_
        refine x_val (.int .i64 ((xs.getD (fkI xs key) (0, 0)).2)) (by kernel_rfl) rfl (by kernel_rfl) ?_
        refine x_val (.bool true) (by kernel_rfl) rfl (by kernel_rfl) ?_
        refine x_nil ?_
        refine x_then ?_
        refine x_seq ?_
        refine x_region ?_
        refine x_val (.slice (some ⟨gl, 0, none⟩) (List.length xs) cl) (by kernel_rfl) rfl (by kernel_rfl) ?_
        refine x_val (.int .i64 key) (by kernel_rfl) rfl (by kernel_rfl) ?_
        refine x_callB (.int .i64 (((fkI xs key) : Nat) : Int)) H (by kernel_rfl) rfl (by kernel_rfl) (by have h := RFind xs key (by omega) _ (H.roOf [2] [.row (.slice (some ⟨gl, 0, none⟩) (List.length xs) cl) 77 2 (List.length xs) (List.flatMap pairLI xs)] (by kernel_rfl)); rw [findI, if_pos (of_decide_eq_true h3)] at h; exact h) ?_
        clear H
        intro v18 H
        refine x_val (.int .i64 (((fkI xs key) : Nat) : Int)) (by kernel_rfl) rfl (by kernel_rfl) ?_
        refine x_nil ?_
        refine x_then ?_
        refine x_seq ?_
        refine x_seq ?_
        refine x_region ?_
        refine x_val (.bool true) (by kernel_rfl) rfl (by kernel_rfl) ?_
        refine x_val (.int .i64 (((fkI xs key) : Nat) : Int)) (by kernel_rfl) rfl (by kernel_rfl) ?_
        refine x_val (.bool (decide (0 ≤ (((fkI xs key) : Nat) : Int)))) (by kernel_rfl) rfl (by kernel_rfl) ?_
        refine x_val (.bool (true != (decide (0 ≤ (((fkI xs key) : Nat) : Int))))) (by kernel_rfl) rfl (by kernel_rfl) ?_
        refine x_val (.bool (true != (decide (0 ≤ (((fkI xs key) : Nat) : Int))))) (by kernel_rfl) rfl (by kernel_rfl) ?_
        cases h9 : true != (decide (0 ≤ (((fkI xs key) : Nat) : Int)))
        · skip
          refine x_val (.bool true) (by kernel_rfl) rfl (by kernel_rfl) ?_
          refine x_val (.bool true) (by kernel_rfl) rfl (by kernel_rfl) ?_
          refine x_val (.int .i64 ((xs.getD (fkI xs key) (0, 0)).2)) (by kernel_rfl) rfl (by kernel_rfl) ?_
          refine x_val (.slice (some ⟨gl, 0, none⟩) (List.length xs) cl) (by kernel_rfl) rfl (by kernel_rfl) ?_
          refine x_val (.int .i64 (((fkI xs key) : Nat) : Int)) (by kernel_rfl) rfl (by kernel_rfl) ?_
          refine x_ix (t := 70) gl 0 (fkI xs key) (List.length xs) cl 77 2 ((fkI xs key) * 2) (by omega) (by omega) (by kernel_rfl) (by kernel_rfl) (by kernel_rfl) rfl (by kernel_rfl) ?_
          refine x_val (.pointer (some ⟨gl, (fkI xs key) * 2 + 1, none⟩)) (by kernel_rfl) rfl (by kernel_rfl) ?_
          refine x_loadc gl ((fkI xs key) * 2 + 1) (.int .i64 ((xs.getD (fkI xs key) (0, 0)).2)) ((H.rowCells 2 rfl ((fkI xs key) * 2) (flatAt pairLenI (0, 0) _ (by omega))) 1 _ rfl) (by kernel_rfl) rfl (by kernel_rfl) ?_
          refine x_eq (.bool false) (show Value.bool (!decide (((xs.getD (fkI xs key) (0, 0)).2) = ((xs.getD (fkI xs key) (0, 0)).2))) = Value.bool false by simp) (by kernel_rfl) rfl (by kernel_rfl) ?_
          refine x_val (.bool false) (by kernel_rfl) rfl (by kernel_rfl) ?_
          refine x_val (.bool false) (by kernel_rfl) rfl (by kernel_rfl) ?_
          refine x_val (.bool false) (by kernel_rfl) rfl (by kernel_rfl) ?_
          refine x_val (.bool true) (by kernel_rfl) rfl (by kernel_rfl) ?_
          refine x_val (.bool false) (by kernel_rfl) rfl (by kernel_rfl) ?_
          refine x_val (.bool false) (by kernel_rfl) rfl (by kernel_rfl) ?_
          refine x_skip (by kernel_rfl) ?_
          refine x_skip (by kernel_rfl) ?_
          refine x_val (.bool false) (by kernel_rfl) rfl (by kernel_rfl) ?_
          refine x_val (.bool false) (by kernel_rfl) rfl (by kernel_rfl) ?_
          refine x_nil ?_
          refine x_frame' { tmps := #[.int .i64 ((room : Nat) : Int), .slice ad nA cA, .int .i64 key, .int .i64 stop, undef, undef, undef, .pointer (some ⟨g1, 0, none⟩), (uf1 0), .pointer (some ⟨t, 0, none⟩), .int .i64 0, .slice (some ⟨gl, 0, none⟩) (List.length xs) cl, undef, (uf1 1), (uf1 2), .int .i64 ((xs.getD (fkI xs key) (0, 0)).2), .bool true, .int .i64 (((fkI xs key) : Nat) : Int), undef, .bool true, .bool false, .tuple #[.pointer (some ⟨t, 0, none⟩), .int .i64 0], .int .i64 ((room : Nat) : Int), .tuple #[.pointer (some ⟨t, 0, none⟩), .int .i64 0], .pointer (some ⟨t, 0, none⟩), .int .i64 0, .int .i64 ((room : Nat) : Int), .bool false, .bool false, .int .i64 ((room : Nat) : Int), .bool false, .bool false, undef, undef, undef, undef, undef, undef, .int .i64 0, .bool false, .bool false, .pointer (some ⟨t, 0, none⟩), .bool false, .bool false, .slice ad nA cA, .int .i64 ((nA : Nat) : Int), .bool false, .slice ad nA cA, .int .i64 ((nA : Nat) : Int), .int .i64 ((k : Nat) : Int), .bool false, (uf1 4), (uf1 5), (uf1 6), (uf1 7), (uf1 8), (uf1 9), (uf1 10), (uf1 11), (uf1 12), (uf1 13), (uf1 14), (uf1 15), (uf1 16), (uf1 17), (uf1 18), (uf1 19), (uf1 20), (uf1 21), (uf1 22), (uf1 23), .tuple #[.int .i64 ((xs.getD (fkI xs key) (0, 0)).2), .bool true], .pointer (some ⟨t, 0, none⟩), .int .i64 key, .tuple #[.int .i64 ((xs.getD (fkI xs key) (0, 0)).2), .bool true], .int .i64 ((xs.getD (fkI xs key) (0, 0)).2), .bool true, .slice (some ⟨gl, 0, none⟩) (List.length xs) cl, .int .i64 key, .int .i64 (((fkI xs key) : Nat) : Int), .bool true, .int .i64 (((fkI xs key) : Nat) : Int), .bool (decide (0 ≤ (((fkI xs key) : Nat) : Int))), .bool false, .bool false, .bool true, .bool true, .int .i64 ((xs.getD (fkI xs key) (0, 0)).2), .slice (some ⟨gl, 0, none⟩) (List.length xs) cl, .int .i64 (((fkI xs key) : Nat) : Int), .pointer (some ⟨gl, (fkI xs key) * 2, none⟩), .pointer (some ⟨gl, (fkI xs key) * 2 + 1, none⟩), .int .i64 ((xs.getD (fkI xs key) (0, 0)).2), .bool false, .bool false, .bool false, .bool false, .bool true, .bool false, .bool false, undef, undef, .bool false, .bool false, undef, undef, undef, undef, undef, undef, undef, undef, undef, undef, undef, undef, undef, undef, undef, undef, undef, undef, undef, undef, undef, undef, undef, undef], defers := [] } (by kernel_rfl) ?_
          refine x_then ?_
          refine x_f (by kernel_rfl) ?_
          refine x_skipc ?_
          refine x_then ?_
          refine x_seq ?_
          refine x_region ?_
          refine x_box H #[.int .i64 0] 3 (by kernel_rfl) rfl (by kernel_rfl) ?_
          clear H
          intro v19 g3 H
          refine x_store (t := 3) (v := .int .i64 0) H 0 g3 0 #[.int .i64 0] #[.int .i64 0] 3 [.int .i64 0] [.blk g3 #[.int .i64 0] 3, .blk t #[sv, .int .i64 ((room : Nat) : Int), .func (.func 26) #[] #[]] 90, .row (sv) 92 2 (List.length xs) (List.flatMap pairLI xs), .row (.slice (some ⟨gl, 0, none⟩) (List.length xs) cl) 77 2 (List.length xs) (List.flatMap pairLI xs), .blk g1 #[.int .i64 stop] 3] (by kernel_rfl) rfl (by kernel_rfl) (by kernel_rfl) (by kernel_rfl) (by kernel_rfl) (by kernel_rfl) (by kernel_rfl) (by kernel_rfl) (by kernel_rfl) ?_
          clear H
          intro v20 H
          refine x_nil ?_
          refine x_then ?_
          refine x_seq ?_
          refine x_seq ?_
          refine x_region ?_
          refine x_val (.pointer (some ⟨t, 0, none⟩)) (by kernel_rfl) rfl (by kernel_rfl) ?_
          refine x_call (by kernel_rfl) rfl (by kernel_rfl) (TAll_of t _) ?_
          rintro _ v21 ⟨q, rfl, hN'⟩
          refine ⟨_, rfl, ?_⟩
          replace H := H.more hN'
          clear hN'
          replace H : Hs [] w0 _ [.blk q #[.pointer (some ⟨t, 0, none⟩)] 56, .blk g3 #[.int .i64 0] 3, .blk t #[sv, .int .i64 ((room : Nat) : Int), .func (.func 26) #[] #[]] 90, .row (sv) 92 2 (List.length xs) (List.flatMap pairLI xs), .row (.slice (some ⟨gl, 0, none⟩) (List.length xs) cl) 77 2 (List.length xs) (List.flatMap pairLI xs), .blk g1 #[.int .i64 stop] 3] := H
          refine x_nil ?_
          refine x_then ?_
          refine x_block ?_
          replace H := H.pick [1, 0, 2, 3, 4, 5] [.blk g3 #[.int .i64 0] 3, .blk q #[.pointer (some ⟨t, 0, none⟩)] 56, .blk t #[sv, .int .i64 ((room : Nat) : Int), .func (.func 26) #[] #[]] 90, .row (sv) 92 2 (List.length xs) (List.flatMap pairLI xs), .row (.slice (some ⟨gl, 0, none⟩) (List.length xs) cl) 77 2 (List.length xs) (List.flatMap pairLI xs), .blk g1 #[.int .i64 stop] 3] (by decide) (by kernel_rfl)
          replace H : Hs [] w0 _ [.blk g3 #[.int .i64 ((0 : Nat) : Int)] 3, .blk q #[.pointer (some ⟨t, 0, none⟩)] 56, .blk t #[sv, .int .i64 ((room : Nat) : Int), .func (.func 26) #[] #[]] 90, .row (sv) 92 2 (List.length xs) (List.flatMap pairLI xs), .row (.slice (some ⟨gl, 0, none⟩) (List.length xs) cl) 77 2 (List.length xs) (List.flatMap pairLI xs), .blk g1 #[.int .i64 stop] 3] := H
          refine x_rangeB (α := PairI) (G := Nat) xs (fun x => #[.int .i64 x.1, .int .i64 x.2]) [.blk q #[.pointer (some ⟨t, 0, none⟩)] 56, .blk t #[sv, .int .i64 ((room : Nat) : Int), .func (.func 26) #[] #[]] 90, .row (sv) 92 2 (List.length xs) (List.flatMap pairLI xs)] [1, 2, 3] (fps [.blk g3 #[.int .i64 ((0 : Nat) : Int)] 3, .blk q #[.pointer (some ⟨t, 0, none⟩)] 56, .blk t #[sv, .int .i64 ((room : Nat) : Int), .func (.func 26) #[] #[]] 90, .row (sv) 92 2 (List.length xs) (List.flatMap pairLI xs), .row (.slice (some ⟨gl, 0, none⟩) (List.length xs) cl) 77 2 (List.length xs) (List.flatMap pairLI xs), .blk g1 #[.int .i64 stop] 3]) (fun pre (c : Nat) => c = List.length pre) (fun pre (c : Nat) => [.blk g3 #[.int .i64 ((c : Nat) : Int)] 3, .blk q #[.pointer (some ⟨t, 0, none⟩)] 56, .blk t #[sv, .int .i64 ((room : Nat) : Int), .func (.func 26) #[] #[]] 90, .row (sv) 92 2 (List.length xs) (List.flatMap pairLI xs), .row (.slice (some ⟨gl, 0, none⟩) (List.length xs) cl) 77 2 (List.length xs) (List.flatMap pairLI xs), .blk g1 #[.int .i64 stop] 3]) (fun cd pre (c : Nat) => (cd = .exit 2 ∧ (c = List.length pre ∧ ((c : Nat) : Int) = stop))) (fun x b => []) (fun x b => { tmps := #[.int .i64 ((room : Nat) : Int), .slice ad nA cA, .int .i64 key, .int .i64 stop, undef, undef, undef, .pointer (some ⟨g1, 0, none⟩), (uf1 0), .pointer (some ⟨t, 0, none⟩), .int .i64 0, .slice (some ⟨gl, 0, none⟩) (List.length xs) cl, undef, (uf1 1), (uf1 2), .int .i64 ((xs.getD (fkI xs key) (0, 0)).2), .bool true, .int .i64 (((fkI xs key) : Nat) : Int), .pointer (some ⟨g3, 0, none⟩), .bool true, .bool false, .tuple #[.pointer (some ⟨t, 0, none⟩), .int .i64 0], .int .i64 ((room : Nat) : Int), .tuple #[.pointer (some ⟨t, 0, none⟩), .int .i64 0], .pointer (some ⟨t, 0, none⟩), .int .i64 0, .int .i64 ((room : Nat) : Int), .bool false, .bool false, .int .i64 ((room : Nat) : Int), .bool false, .bool false, undef, undef, undef, undef, undef, undef, .int .i64 0, .bool false, .bool false, .pointer (some ⟨t, 0, none⟩), .bool false, .bool false, .slice ad nA cA, .int .i64 ((nA : Nat) : Int), .bool false, .slice ad nA cA, .int .i64 ((nA : Nat) : Int), .int .i64 ((k : Nat) : Int), .bool false, (uf1 4), (uf1 5), (uf1 6), (uf1 7), (uf1 8), (uf1 9), (uf1 10), (uf1 11), (uf1 12), (uf1 13), (uf1 14), (uf1 15), (uf1 16), (uf1 17), (uf1 18), (uf1 19), (uf1 20), (uf1 21), (uf1 22), (uf1 23), .tuple #[.int .i64 ((xs.getD (fkI xs key) (0, 0)).2), .bool true], .pointer (some ⟨t, 0, none⟩), .int .i64 key, .tuple #[.int .i64 ((xs.getD (fkI xs key) (0, 0)).2), .bool true], .int .i64 ((xs.getD (fkI xs key) (0, 0)).2), .bool true, .slice (some ⟨gl, 0, none⟩) (List.length xs) cl, .int .i64 key, .int .i64 (((fkI xs key) : Nat) : Int), .bool true, .int .i64 (((fkI xs key) : Nat) : Int), .bool (decide (0 ≤ (((fkI xs key) : Nat) : Int))), .bool false, .bool false, .bool true, .bool true, .int .i64 ((xs.getD (fkI xs key) (0, 0)).2), .slice (some ⟨gl, 0, none⟩) (List.length xs) cl, .int .i64 (((fkI xs key) : Nat) : Int), .pointer (some ⟨gl, (fkI xs key) * 2, none⟩), .pointer (some ⟨gl, (fkI xs key) * 2 + 1, none⟩), .int .i64 ((xs.getD (fkI xs key) (0, 0)).2), .bool false, .bool false, .bool false, .bool false, .bool true, .bool false, .bool false, undef, undef, .bool false, .bool false, .pointer (some ⟨t, 0, none⟩), .func (.func 43) #[] #[.pointer (some ⟨q, 0, none⟩)], .int .i64 x.1, .int .i64 x.2, undef, undef, undef, undef, undef, undef, undef, undef, undef, undef, undef, undef, undef, undef, undef, undef, undef, undef, undef, undef], defers := [] }) 0 (by kernel_rfl) (enters_of Try.func43 (by kernel_rfl) rfl) (tvals_of (by omega) _ (H.roOf [1, 2, 3] _ (by kernel_rfl))) (fun _ => rfl) rfl (by rintro _ c; rfl) (by rintro _ c; rfl) (by rintro _ c; rfl) (fun _ _ => rfl) (fun _ _ => rfl) H rfl ?_ ?_ ?_ ?_
          · skip
            clear H
            rintro lrnd pre x c W2 hI H
            refine x_at (b := { tmps := #[.int .i64 ((room : Nat) : Int), .slice ad nA cA, .int .i64 key, .int .i64 stop, undef, undef, undef, .pointer (some ⟨g1, 0, none⟩), (uf1 0), .pointer (some ⟨t, 0, none⟩), .int .i64 0, .slice (some ⟨gl, 0, none⟩) (List.length xs) cl, undef, (uf1 1), (uf1 2), .int .i64 ((xs.getD (fkI xs key) (0, 0)).2), .bool true, .int .i64 (((fkI xs key) : Nat) : Int), .pointer (some ⟨g3, 0, none⟩), .bool true, .bool false, .tuple #[.pointer (some ⟨t, 0, none⟩), .int .i64 0], .int .i64 ((room : Nat) : Int), .tuple #[.pointer (some ⟨t, 0, none⟩), .int .i64 0], .pointer (some ⟨t, 0, none⟩), .int .i64 0, .int .i64 ((room : Nat) : Int), .bool false, .bool false, .int .i64 ((room : Nat) : Int), .bool false, .bool false, undef, undef, undef, undef, undef, undef, .int .i64 0, .bool false, .bool false, .pointer (some ⟨t, 0, none⟩), .bool false, .bool false, .slice ad nA cA, .int .i64 ((nA : Nat) : Int), .bool false, .slice ad nA cA, .int .i64 ((nA : Nat) : Int), .int .i64 ((k : Nat) : Int), .bool false, (uf1 4), (uf1 5), (uf1 6), (uf1 7), (uf1 8), (uf1 9), (uf1 10), (uf1 11), (uf1 12), (uf1 13), (uf1 14), (uf1 15), (uf1 16), (uf1 17), (uf1 18), (uf1 19), (uf1 20), (uf1 21), (uf1 22), (uf1 23), .tuple #[.int .i64 ((xs.getD (fkI xs key) (0, 0)).2), .bool true], .pointer (some ⟨t, 0, none⟩), .int .i64 key, .tuple #[.int .i64 ((xs.getD (fkI xs key) (0, 0)).2), .bool true], .int .i64 ((xs.getD (fkI xs key) (0, 0)).2), .bool true, .slice (some ⟨gl, 0, none⟩) (List.length xs) cl, .int .i64 key, .int .i64 (((fkI xs key) : Nat) : Int), .bool true, .int .i64 (((fkI xs key) : Nat) : Int), .bool (decide (0 ≤ (((fkI xs key) : Nat) : Int))), .bool false, .bool false, .bool true, .bool true, .int .i64 ((xs.getD (fkI xs key) (0, 0)).2), .slice (some ⟨gl, 0, none⟩) (List.length xs) cl, .int .i64 (((fkI xs key) : Nat) : Int), .pointer (some ⟨gl, (fkI xs key) * 2, none⟩), .pointer (some ⟨gl, (fkI xs key) * 2 + 1, none⟩), .int .i64 ((xs.getD (fkI xs key) (0, 0)).2), .bool false, .bool false, .bool false, .bool false, .bool true, .bool false, .bool false, undef, undef, .bool false, .bool false, .pointer (some ⟨t, 0, none⟩), .func (.func 43) #[] #[.pointer (some ⟨q, 0, none⟩)], .int .i64 x.1, .int .i64 x.2, undef, undef, undef, undef, undef, undef, undef, undef, undef, undef, undef, undef, undef, undef, undef, undef, undef, undef, undef, undef], defers := [] }) (by kernel_rfl) ?_
            refine x_skipc ?_
            refine x_then ?_
            exact ⟨0, (by kernel_rfl), H⟩
          · skip
            clear H
            rintro lrnd pre x c b W2 hI hlen H
            replace H : Hs (fps [] ++ (fps [.blk g3 #[.int .i64 ((0 : Nat) : Int)] 3, .blk q #[.pointer (some ⟨t, 0, none⟩)] 56, .blk t #[sv, .int .i64 ((room : Nat) : Int), .func (.func 26) #[] #[]] 90, .row (sv) 92 2 (List.length xs) (List.flatMap pairLI xs), .row (.slice (some ⟨gl, 0, none⟩) (List.length xs) cl) 77 2 (List.length xs) (List.flatMap pairLI xs), .blk g1 #[.int .i64 stop] 3])) W2 W2 [.blk g3 #[.int .i64 ((c : Nat) : Int)] 3, .blk q #[.pointer (some ⟨t, 0, none⟩)] 56, .blk t #[sv, .int .i64 ((room : Nat) : Int), .func (.func 26) #[] #[]] 90, .row (sv) 92 2 (List.length xs) (List.flatMap pairLI xs), .row (.slice (some ⟨gl, 0, none⟩) (List.length xs) cl) 77 2 (List.length xs) (List.flatMap pairLI xs), .blk g1 #[.int .i64 stop] 3] := H
            have hI' : c = List.length pre := hI
            refine x_block ?_
            refine x_seq ?_
            refine x_region ?_
            refine x_load1 H 0 g3 0 #[.int .i64 ((c : Nat) : Int)] 3 (.int .i64 ((c : Nat) : Int)) (by kernel_rfl) (by kernel_rfl) (by kernel_rfl) rfl (by kernel_rfl) ?_
            refine x_ar (((c : Nat) : Int) + 1) ⟨by omega, by omega⟩ (by kernel_rfl) rfl (by kernel_rfl) ?_
            refine x_store (t := 3) (v := .int .i64 (((c : Nat) : Int) + 1)) H 0 g3 0 #[.int .i64 ((c : Nat) : Int)] #[.int .i64 (((c : Nat) : Int) + 1)] 3 [.int .i64 (((c : Nat) : Int) + 1)] [.blk g3 #[.int .i64 (((c : Nat) : Int) + 1)] 3, .blk q #[.pointer (some ⟨t, 0, none⟩)] 56, .blk t #[sv, .int .i64 ((room : Nat) : Int), .func (.func 26) #[] #[]] 90, .row (sv) 92 2 (List.length xs) (List.flatMap pairLI xs), .row (.slice (some ⟨gl, 0, none⟩) (List.length xs) cl) 77 2 (List.length xs) (List.flatMap pairLI xs), .blk g1 #[.int .i64 stop] 3] (by kernel_rfl) rfl (by kernel_rfl) (by kernel_rfl) (by kernel_rfl) (by kernel_rfl) (by kernel_rfl) (by kernel_rfl) (by kernel_rfl) (by kernel_rfl) ?_
            clear H
            intro v22 H
            refine x_nil ?_
            refine x_then ?_
            refine x_seq ?_
            refine x_region ?_
            refine x_load1 H 0 g3 0 #[.int .i64 (((c : Nat) : Int) + 1)] 3 (.int .i64 (((c : Nat) : Int) + 1)) (by kernel_rfl) (by kernel_rfl) (by kernel_rfl) rfl (by kernel_rfl) ?_
            refine x_load1 H 5 g1 0 #[.int .i64 stop] 3 (.int .i64 stop) (by kernel_rfl) (by kernel_rfl) (by kernel_rfl) rfl (by kernel_rfl) ?_
            refine x_val (.bool (decide ((((c : Nat) : Int) + 1) = stop))) (by kernel_rfl) rfl (by kernel_rfl) ?_
            refine x_nil ?_
            refine x_then ?_
            cases h10 : decide ((((c : Nat) : Int) + 1) = stop)
            · skip
              have h10p := of_decide_eq_false h10
              refine x_f (by kernel_rfl) ?_
              refine x_skipc ?_
              refine x_blk ?_
              replace H := H.pick [0, 1, 2, 3, 4, 5] [.blk g3 #[.int .i64 (((c : Nat) : Int) + 1)] 3, .blk q #[.pointer (some ⟨t, 0, none⟩)] 56, .blk t #[sv, .int .i64 ((room : Nat) : Int), .func (.func 26) #[] #[]] 90, .row (sv) 92 2 (List.length xs) (List.flatMap pairLI xs), .row (.slice (some ⟨gl, 0, none⟩) (List.length xs) cl) 77 2 (List.length xs) (List.flatMap pairLI xs), .blk g1 #[.int .i64 stop] 3] (by decide) (by kernel_rfl)
              exact ⟨(c + 1), (by show _ = List.length (pre ++ [x]); simp; exact hI), H⟩
            · skip
              have h10p := of_decide_eq_true h10
              refine x_t (by kernel_rfl) ?_
              refine x_exit ?_
              refine x_blk_out (by decide) ?_
              replace H := H.pick [0, 1, 2, 3, 4, 5] [.blk g3 #[.int .i64 (((c : Nat) : Int) + 1)] 3, .blk q #[.pointer (some ⟨t, 0, none⟩)] 56, .blk t #[sv, .int .i64 ((room : Nat) : Int), .func (.func 26) #[] #[]] 90, .row (sv) 92 2 (List.length xs) (List.flatMap pairLI xs), .row (.slice (some ⟨gl, 0, none⟩) (List.length xs) cl) 77 2 (List.length xs) (List.flatMap pairLI xs), .blk g1 #[.int .i64 stop] 3] (by decide) (by kernel_rfl)
              exact ⟨(c + 1), ⟨rfl, ⟨(by simp; exact hI), by omega⟩⟩, H⟩
          · skip
            clear H
            rintro D c W2 hI H
            have hI2 : c = List.length xs := hI
            refine x_blk ?_
            refine x_then ?_
            refine x_seq ?_
            refine x_region ?_
            refine x_load1 H 1 g3 0 #[.int .i64 ((c : Nat) : Int)] 3 (.int .i64 ((c : Nat) : Int)) (by kernel_rfl) (by kernel_rfl) (by kernel_rfl) rfl (by kernel_rfl) ?_
            refine x_val (.slice (some ⟨gl, 0, none⟩) (List.length xs) cl) (by kernel_rfl) rfl (by kernel_rfl) ?_
            refine x_val (.int .i64 (((List.length xs) : Nat) : Int)) (by kernel_rfl) rfl (by kernel_rfl) ?_
            refine x_val (.bool (decide (((c : Nat) : Int) = (((List.length xs) : Nat) : Int)))) (by kernel_rfl) rfl (by kernel_rfl) ?_
            refine x_val (.bool (decide (((c : Nat) : Int) = (((List.length xs) : Nat) : Int)))) (by kernel_rfl) rfl (by kernel_rfl) ?_
            cases h11 : decide (((c : Nat) : Int) = (((List.length xs) : Nat) : Int))
            · skip
              have h11p := of_decide_eq_false h11
              refine x_load1 H 1 g3 0 #[.int .i64 ((c : Nat) : Int)] 3 (.int .i64 ((c : Nat) : Int)) (by kernel_rfl) (by kernel_rfl) (by kernel_rfl) rfl (by kernel_rfl) ?_
              refine x_load1 H 6 g1 0 #[.int .i64 stop] 3 (.int .i64 stop) (by kernel_rfl) (by kernel_rfl) (by kernel_rfl) rfl (by kernel_rfl) ?_
              refine x_val (.bool (decide (((c : Nat) : Int) = stop))) (by kernel_rfl) rfl (by kernel_rfl) ?_
              refine x_val (.bool (decide (((c : Nat) : Int) = stop))) (by kernel_rfl) rfl (by kernel_rfl) ?_
              cases h12 : decide (((c : Nat) : Int) = stop)
              · skip
                have h12p := of_decide_eq_false h12
                refine x_skip (by kernel_rfl) ?_
                refine x_skip (by kernel_rfl) ?_
                refine x_skip (by kernel_rfl) ?_
                refine x_skip (by kernel_rfl) ?_
                refine x_val (.bool false) (by kernel_rfl) rfl (by kernel_rfl) ?_
                refine x_val (.bool false) (by kernel_rfl) rfl (by kernel_rfl) ?_
                refine x_val (.bool false) (by kernel_rfl) rfl (by kernel_rfl) ?_
                refine x_nil ?_
                refine x_then ?_
                refine x_retc ?_
                refine x_retM1 [0, 1, 2, 3, 4, 5, 6] [.blk g3 #[.int .i64 ((c : Nat) : Int)] 3, .blk q #[.pointer (some ⟨t, 0, none⟩)] 56, .blk t #[sv, .int .i64 ((room : Nat) : Int), .func (.func 26) #[] #[]] 90, .row (sv) 92 2 (List.length xs) (List.flatMap pairLI xs), .row (.slice (some ⟨gl, 0, none⟩) (List.length xs) cl) 77 2 (List.length xs) (List.flatMap pairLI xs), .blk g1 #[.int .i64 stop] 3] (.bool false) H (by kernel_rfl) rfl (by decide) (fun _ H => (by kernel_rfl)) ?_
                clear H
                intro v23 H
                exfalso; omega
              · skip
                have h12p := of_decide_eq_true h12
                refine x_load1 H 6 g1 0 #[.int .i64 stop] 3 (.int .i64 stop) (by kernel_rfl) (by kernel_rfl) (by kernel_rfl) rfl (by kernel_rfl) ?_
                refine x_val (.slice (some ⟨gl, 0, none⟩) (List.length xs) cl) (by kernel_rfl) rfl (by kernel_rfl) ?_
                refine x_val (.int .i64 (((List.length xs) : Nat) : Int)) (by kernel_rfl) rfl (by kernel_rfl) ?_
                refine x_val (.bool (decide (stop < (((List.length xs) : Nat) : Int)))) (by kernel_rfl) rfl (by kernel_rfl) ?_
                refine x_val (.bool (decide (stop < (((List.length xs) : Nat) : Int)))) (by kernel_rfl) rfl (by kernel_rfl) ?_
                refine x_val (.bool (decide (stop < (((List.length xs) : Nat) : Int)))) (by kernel_rfl) rfl (by kernel_rfl) ?_
                refine x_val (.bool (decide (stop < (((List.length xs) : Nat) : Int)))) (by kernel_rfl) rfl (by kernel_rfl) ?_
                refine x_nil ?_
                refine x_then ?_
                refine x_retc ?_
                refine x_retM1 [0, 1, 2, 3, 4, 5, 6] [.blk g3 #[.int .i64 ((c : Nat) : Int)] 3, .blk q #[.pointer (some ⟨t, 0, none⟩)] 56, .blk t #[sv, .int .i64 ((room : Nat) : Int), .func (.func 26) #[] #[]] 90, .row (sv) 92 2 (List.length xs) (List.flatMap pairLI xs), .row (.slice (some ⟨gl, 0, none⟩) (List.length xs) cl) 77 2 (List.length xs) (List.flatMap pairLI xs), .blk g1 #[.int .i64 stop] 3] (.bool (decide (stop < (((List.length xs) : Nat) : Int)))) H (by kernel_rfl) rfl (by decide) (fun _ H => (by kernel_rfl)) ?_
                clear H
                intro v24 H
                exact ⟨by rw [show (decide (stop < (((List.length xs) : Nat) : Int))) = true from decide_eq_true (by omega)], H.below⟩
            · skip
              have h11p := of_decide_eq_true h11
              refine x_skip (by kernel_rfl) ?_
              refine x_skip (by kernel_rfl) ?_
              refine x_skip (by kernel_rfl) ?_
              refine x_skip (by kernel_rfl) ?_
              refine x_skip (by kernel_rfl) ?_
              refine x_skip (by kernel_rfl) ?_
              refine x_skip (by kernel_rfl) ?_
              refine x_skip (by kernel_rfl) ?_
              refine x_skip (by kernel_rfl) ?_
              refine x_val (.bool true) (by kernel_rfl) rfl (by kernel_rfl) ?_
              refine x_val (.bool true) (by kernel_rfl) rfl (by kernel_rfl) ?_
              refine x_nil ?_
              refine x_then ?_
              refine x_retc ?_
              refine x_retM1 [0, 1, 2, 3, 4, 5, 6] [.blk g3 #[.int .i64 ((c : Nat) : Int)] 3, .blk q #[.pointer (some ⟨t, 0, none⟩)] 56, .blk t #[sv, .int .i64 ((room : Nat) : Int), .func (.func 26) #[] #[]] 90, .row (sv) 92 2 (List.length xs) (List.flatMap pairLI xs), .row (.slice (some ⟨gl, 0, none⟩) (List.length xs) cl) 77 2 (List.length xs) (List.flatMap pairLI xs), .blk g1 #[.int .i64 stop] 3] (.bool true) H (by kernel_rfl) rfl (by decide) (fun _ H => (by kernel_rfl)) ?_
              clear H
              intro v25 H
              exact ⟨rfl, H.below⟩
          · skip
            clear H
            rintro D c pre c W2 hpre hJ H
            rcases hJ with ⟨rfl, hJ⟩
            · skip
              obtain ⟨hc1, hc2⟩ := hJ
              have hpl := hpre.length_le
              refine x_exit ?_
              refine x_blk_exit ?_
              refine x_then ?_
              refine x_seq ?_
              refine x_region ?_
              refine x_load1 H 1 g3 0 #[.int .i64 ((c : Nat) : Int)] 3 (.int .i64 ((c : Nat) : Int)) (by kernel_rfl) (by kernel_rfl) (by kernel_rfl) rfl (by kernel_rfl) ?_
              refine x_val (.slice (some ⟨gl, 0, none⟩) (List.length xs) cl) (by kernel_rfl) rfl (by kernel_rfl) ?_
              refine x_val (.int .i64 (((List.length xs) : Nat) : Int)) (by kernel_rfl) rfl (by kernel_rfl) ?_
              refine x_val (.bool (decide (((c : Nat) : Int) = (((List.length xs) : Nat) : Int)))) (by kernel_rfl) rfl (by kernel_rfl) ?_
              refine x_val (.bool (decide (((c : Nat) : Int) = (((List.length xs) : Nat) : Int)))) (by kernel_rfl) rfl (by kernel_rfl) ?_
              cases h13 : decide (((c : Nat) : Int) = (((List.length xs) : Nat) : Int))
              · skip
                have h13p := of_decide_eq_false h13
                refine x_load1 H 1 g3 0 #[.int .i64 ((c : Nat) : Int)] 3 (.int .i64 ((c : Nat) : Int)) (by kernel_rfl) (by kernel_rfl) (by kernel_rfl) rfl (by kernel_rfl) ?_
                refine x_load1 H 6 g1 0 #[.int .i64 stop] 3 (.int .i64 stop) (by kernel_rfl) (by kernel_rfl) (by kernel_rfl) rfl (by kernel_rfl) ?_
                refine x_val (.bool (decide (((c : Nat) : Int) = stop))) (by kernel_rfl) rfl (by kernel_rfl) ?_
                refine x_val (.bool (decide (((c : Nat) : Int) = stop))) (by kernel_rfl) rfl (by kernel_rfl) ?_
                cases h14 : decide (((c : Nat) : Int) = stop)
                · skip
                  have h14p := of_decide_eq_false h14
                  refine x_skip (by kernel_rfl) ?_
                  refine x_skip (by kernel_rfl) ?_
                  refine x_skip (by kernel_rfl) ?_
                  refine x_skip (by kernel_rfl) ?_
                  refine x_val (.bool false) (by kernel_rfl) rfl (by kernel_rfl) ?_
                  refine x_val (.bool false) (by kernel_rfl) rfl (by kernel_rfl) ?_
                  refine x_val (.bool false) (by kernel_rfl) rfl (by kernel_rfl) ?_
                  refine x_nil ?_
                  refine x_then ?_
                  refine x_retc ?_
                  refine x_retM1 [0, 1, 2, 3, 4, 5, 6] [.blk g3 #[.int .i64 ((c : Nat) : Int)] 3, .blk q #[.pointer (some ⟨t, 0, none⟩)] 56, .blk t #[sv, .int .i64 ((room : Nat) : Int), .func (.func 26) #[] #[]] 90, .row (sv) 92 2 (List.length xs) (List.flatMap pairLI xs), .row (.slice (some ⟨gl, 0, none⟩) (List.length xs) cl) 77 2 (List.length xs) (List.flatMap pairLI xs), .blk g1 #[.int .i64 stop] 3] (.bool false) H (by kernel_rfl) rfl (by decide) (fun _ H => (by kernel_rfl)) ?_
                  clear H
                  intro v26 H
                  exfalso; omega
                · skip
                  have h14p := of_decide_eq_true h14
                  refine x_load1 H 6 g1 0 #[.int .i64 stop] 3 (.int .i64 stop) (by kernel_rfl) (by kernel_rfl) (by kernel_rfl) rfl (by kernel_rfl) ?_
                  refine x_val (.slice (some ⟨gl, 0, none⟩) (List.length xs) cl) (by kernel_rfl) rfl (by kernel_rfl) ?_
                  refine x_val (.int .i64 (((List.length xs) : Nat) : Int)) (by kernel_rfl) rfl (by kernel_rfl) ?_
                  refine x_val (.bool (decide (stop < (((List.length xs) : Nat) : Int)))) (by kernel_rfl) rfl (by kernel_rfl) ?_
                  refine x_val (.bool (decide (stop < (((List.length xs) : Nat) : Int)))) (by kernel_rfl) rfl (by kernel_rfl) ?_
                  refine x_val (.bool (decide (stop < (((List.length xs) : Nat) : Int)))) (by kernel_rfl) rfl (by kernel_rfl) ?_
                  refine x_val (.bool (decide (stop < (((List.length xs) : Nat) : Int)))) (by kernel_rfl) rfl (by kernel_rfl) ?_
                  refine x_nil ?_
                  refine x_then ?_
                  refine x_retc ?_
                  refine x_retM1 [0, 1, 2, 3, 4, 5, 6] [.blk g3 #[.int .i64 ((c : Nat) : Int)] 3, .blk q #[.pointer (some ⟨t, 0, none⟩)] 56, .blk t #[sv, .int .i64 ((room : Nat) : Int), .func (.func 26) #[] #[]] 90, .row (sv) 92 2 (List.length xs) (List.flatMap pairLI xs), .row (.slice (some ⟨gl, 0, none⟩) (List.length xs) cl) 77 2 (List.length xs) (List.flatMap pairLI xs), .blk g1 #[.int .i64 stop] 3] (.bool (decide (stop < (((List.length xs) : Nat) : Int)))) H (by kernel_rfl) rfl (by decide) (fun _ H => (by kernel_rfl)) ?_
                  clear H
                  intro v27 H
                  exact ⟨by rw [show (decide (stop < (((List.length xs) : Nat) : Int))) = true from decide_eq_true (by omega)], H.below⟩
              · skip
                have h13p := of_decide_eq_true h13
                refine x_skip (by kernel_rfl) ?_
                refine x_skip (by kernel_rfl) ?_
                refine x_skip (by kernel_rfl) ?_
                refine x_skip (by kernel_rfl) ?_
                refine x_skip (by kernel_rfl) ?_
                refine x_skip (by kernel_rfl) ?_
                refine x_skip (by kernel_rfl) ?_
                refine x_skip (by kernel_rfl) ?_
                refine x_skip (by kernel_rfl) ?_
                refine x_val (.bool true) (by kernel_rfl) rfl (by kernel_rfl) ?_
                refine x_val (.bool true) (by kernel_rfl) rfl (by kernel_rfl) ?_
                refine x_nil ?_
                refine x_then ?_
                refine x_retc ?_
                refine x_retM1 [0, 1, 2, 3, 4, 5, 6] [.blk g3 #[.int .i64 ((c : Nat) : Int)] 3, .blk q #[.pointer (some ⟨t, 0, none⟩)] 56, .blk t #[sv, .int .i64 ((room : Nat) : Int), .func (.func 26) #[] #[]] 90, .row (sv) 92 2 (List.length xs) (List.flatMap pairLI xs), .row (.slice (some ⟨gl, 0, none⟩) (List.length xs) cl) 77 2 (List.length xs) (List.flatMap pairLI xs), .blk g1 #[.int .i64 stop] 3] (.bool true) H (by kernel_rfl) rfl (by decide) (fun _ H => (by kernel_rfl)) ?_
                clear H
                intro v28 H
                exact ⟨rfl, H.below⟩
        · skip
          exact absurd h9 (by simp)
    · skip
      have h2p := of_decide_eq_true h2
      refine x_t (by kernel_rfl) ?_
      refine x_skipc ?_
      refine x_then ?_
      refine x_seq ?_
      refine x_block ?_
      refine x_seq ?_
      refine x_region ?_
      obtain ⟨ga, oa, had, hcell⟩ := hA (by omega)
      refine x_ixO (t := 67) had k nA cA 69 3 (oa + k * 3) (by omega) (by omega) (by kernel_rfl) (by kernel_rfl) (by kernel_rfl) rfl (by kernel_rfl) ?_
      refine x_loadcn (t := 69) ga (oa + k * 3) [.int .i64 ((l.getD k (0, 0, 0)).1), .int .i64 ((l.getD k (0, 0, 0)).2.1), .int .i64 ((l.getD k (0, 0, 0)).2.2)] (hcell _ H.below k (by omega)) (by kernel_rfl) rfl (by kernel_rfl) (by kernel_rfl) ?_
      refine x_box H #[.int .i64 0, .int .i64 0, .int .i64 0] 69 (by kernel_rfl) rfl (by kernel_rfl) ?_
      clear H
      intro v29 g4 H
      refine x_store (t := 69) (v := .agg #[.int .i64 ((l.getD k (0, 0, 0)).1), .int .i64 ((l.getD k (0, 0, 0)).2.1), .int .i64 ((l.getD k (0, 0, 0)).2.2)]) H 0 g4 0 #[.int .i64 0, .int .i64 0, .int .i64 0] #[.int .i64 ((l.getD k (0, 0, 0)).1), .int .i64 ((l.getD k (0, 0, 0)).2.1), .int .i64 ((l.getD k (0, 0, 0)).2.2)] 69 [.int .i64 ((l.getD k (0, 0, 0)).1), .int .i64 ((l.getD k (0, 0, 0)).2.1), .int .i64 ((l.getD k (0, 0, 0)).2.2)] [.blk g4 #[.int .i64 ((l.getD k (0, 0, 0)).1), .int .i64 ((l.getD k (0, 0, 0)).2.1), .int .i64 ((l.getD k (0, 0, 0)).2.2)] 69, .blk t #[sv, .int .i64 ((room : Nat) : Int), .func (.func 26) #[] #[]] 90, .row (sv) 92 2 (List.length xs) (List.flatMap pairLI xs), .row (lv) 77 2 (List.length xs) (List.flatMap pairLI xs), .blk g1 #[.int .i64 stop] 3] (by kernel_rfl) rfl (by kernel_rfl) (by kernel_rfl) (by kernel_rfl) (by kernel_rfl) (by kernel_rfl) (by kernel_rfl) (by kernel_rfl) (by kernel_rfl) ?_
      clear H
      intro v30 H
      refine x_nil ?_
      refine x_then ?_
      refine x_seq ?_
      refine x_region ?_
      refine x_val (.bool false) (by kernel_rfl) rfl (by kernel_rfl) ?_
      refine x_nil ?_
      refine x_then ?_
      refine x_seq ?_
      refine x_region ?_
      refine x_val (.pointer (some ⟨t, 0, none⟩)) (by kernel_rfl) rfl (by kernel_rfl) ?_
      refine x_val (lv) (by kernel_rfl) rfl (by kernel_rfl) ?_
      refine x_val (.int .i64 ((room : Nat) : Int)) (by kernel_rfl) rfl (by kernel_rfl) ?_
      refine x_loadn (t := 69) H 0 g4 0 #[.int .i64 ((l.getD k (0, 0, 0)).1), .int .i64 ((l.getD k (0, 0, 0)).2.1), .int .i64 ((l.getD k (0, 0, 0)).2.2)] 69 [.int .i64 ((l.getD k (0, 0, 0)).1), .int .i64 ((l.getD k (0, 0, 0)).2.1), .int .i64 ((l.getD k (0, 0, 0)).2.2)] (by kernel_rfl) (by kernel_rfl) (by kernel_rfl) rfl (by kernel_rfl) (by kernel_rfl) ?_
      refine x_call (by kernel_rfl) rfl (by kernel_rfl) (Hs.useE (S := Value × Value) (A := [.blk t #[sv, .int .i64 ((room : Nat) : Int), .func (.func 26) #[] #[]] 90, .row (sv) 92 2 (List.length xs) (List.flatMap pairLI xs), .row (lv) 77 2 (List.length xs) (List.flatMap pairLI xs)]) (R := [.blk g4 #[.int .i64 ((l.getD k (0, 0, 0)).1), .int .i64 ((l.getD k (0, 0, 0)).2.1), .int .i64 ((l.getD k (0, 0, 0)).2.2)] 69, .blk g1 #[.int .i64 stop] 3]) (fun z => [.blk t #[z.1, .int .i64 ((room : Nat) : Int), .func (.func 26) #[] #[]] 90, .row (z.1) 92 2 (List.length (stepI room xs ((l.getD k (0, 0, 0)).1) ((l.getD k (0, 0, 0)).2.1) ((l.getD k (0, 0, 0)).2.2))) (List.flatMap pairLI (stepI room xs ((l.getD k (0, 0, 0)).1) ((l.getD k (0, 0, 0)).2.1) ((l.getD k (0, 0, 0)).2.2))), .row (z.2) 77 2 (List.length (stepI room xs ((l.getD k (0, 0, 0)).1) ((l.getD k (0, 0, 0)).2.1) ((l.getD k (0, 0, 0)).2.2))) (List.flatMap pairLI (stepI room xs ((l.getD k (0, 0, 0)).1) ((l.getD k (0, 0, 0)).2.1) ((l.getD k (0, 0, 0)).2.2)))]) (fun z => .tuple #[z.2, .bool true]) (H.pick [1, 2, 3, 0, 4] _ (by decide) (by kernel_rfl)) (fun h => (steps ((l.getD k (0, 0, 0)).1) ((l.getD k (0, 0, 0)).2.1) ((l.getD k (0, 0, 0)).2.2) (by omega) (by omega) (by omega) _ h).mono (fun e w' ⟨s', u, q1, q2⟩ => ⟨(s', u), q1, q2⟩))) ?_
      rintro _ v31 ⟨⟨svs, us⟩, rfl, H'⟩
      refine ⟨_, rfl, ?_⟩
      clear H
      have H : Hs [] w0 _ [.blk t #[svs, .int .i64 ((room : Nat) : Int), .func (.func 26) #[] #[]] 90, .row (svs) 92 2 (List.length (stepI room xs ((l.getD k (0, 0, 0)).1) ((l.getD k (0, 0, 0)).2.1) ((l.getD k (0, 0, 0)).2.2))) (List.flatMap pairLI (stepI room xs ((l.getD k (0, 0, 0)).1) ((l.getD k (0, 0, 0)).2.1) ((l.getD k (0, 0, 0)).2.2))), .row (us) 77 2 (List.length (stepI room xs ((l.getD k (0, 0, 0)).1) ((l.getD k (0, 0, 0)).2.1) ((l.getD k (0, 0, 0)).2.2))) (List.flatMap pairLI (stepI room xs ((l.getD k (0, 0, 0)).1) ((l.getD k (0, 0, 0)).2.1) ((l.getD k (0, 0, 0)).2.2))), .blk g4 #[.int .i64 ((l.getD k (0, 0, 0)).1), .int .i64 ((l.getD k (0, 0, 0)).2.1), .int .i64 ((l.getD k (0, 0, 0)).2.2)] 69, .blk g1 #[.int .i64 stop] 3] := H'
      clear H'
      refine x_val (.tuple #[us, .bool true]) (by kernel_rfl) rfl (by kernel_rfl) ?_
      refine x_val (us) (by kernel_rfl) rfl (by kernel_rfl) ?_
      refine x_val (.bool true) (by kernel_rfl) rfl (by kernel_rfl) ?_
      refine x_val (us) (by kernel_rfl) rfl (by kernel_rfl) ?_
      refine x_val (.bool true) (by kernel_rfl) rfl (by kernel_rfl) ?_
      refine x_nil ?_
      refine x_then ?_
      refine x_seq ?_
      refine x_region ?_
      refine x_val (.bool true) (by kernel_rfl) rfl (by kernel_rfl) ?_
      refine x_val (.bool false) (by kernel_rfl) rfl (by kernel_rfl) ?_
      refine x_val (.bool false) (by kernel_rfl) rfl (by kernel_rfl) ?_
      refine x_val (.pointer (some ⟨t, 0, none⟩)) (by kernel_rfl) rfl (by kernel_rfl) ?_
      refine x_val (us) (by kernel_rfl) rfl (by kernel_rfl) ?_
      refine x_val (.int .i64 ((room : Nat) : Int)) (by kernel_rfl) rfl (by kernel_rfl) ?_
      refine x_callH (.bool true) [.blk t #[svs, .int .i64 ((room : Nat) : Int), .func (.func 26) #[] #[]] 90, .row (svs) 92 2 (List.length (stepI room xs ((l.getD k (0, 0, 0)).1) ((l.getD k (0, 0, 0)).2.1) ((l.getD k (0, 0, 0)).2.2))) (List.flatMap pairLI (stepI room xs ((l.getD k (0, 0, 0)).1) ((l.getD k (0, 0, 0)).2.1) ((l.getD k (0, 0, 0)).2.2))), .row (us) 77 2 (List.length (stepI room xs ((l.getD k (0, 0, 0)).1) ((l.getD k (0, 0, 0)).2.1) ((l.getD k (0, 0, 0)).2.2))) (List.flatMap pairLI (stepI room xs ((l.getD k (0, 0, 0)).1) ((l.getD k (0, 0, 0)).2.1) ((l.getD k (0, 0, 0)).2.2))), .blk g4 #[.int .i64 ((l.getD k (0, 0, 0)).1), .int .i64 ((l.getD k (0, 0, 0)).2.1), .int .i64 ((l.getD k (0, 0, 0)).2.2)] 69, .blk g1 #[.int .i64 stop] 3] (by kernel_rfl) rfl (by kernel_rfl) (Hs.use (A := [.blk t #[svs, .int .i64 ((room : Nat) : Int), .func (.func 26) #[] #[]] 90, .row (svs) 92 2 (List.length (stepI room xs ((l.getD k (0, 0, 0)).1) ((l.getD k (0, 0, 0)).2.1) ((l.getD k (0, 0, 0)).2.2))) (List.flatMap pairLI (stepI room xs ((l.getD k (0, 0, 0)).1) ((l.getD k (0, 0, 0)).2.1) ((l.getD k (0, 0, 0)).2.2))), .row (us) 77 2 (List.length (stepI room xs ((l.getD k (0, 0, 0)).1) ((l.getD k (0, 0, 0)).2.1) ((l.getD k (0, 0, 0)).2.2))) (List.flatMap pairLI (stepI room xs ((l.getD k (0, 0, 0)).1) ((l.getD k (0, 0, 0)).2.1) ((l.getD k (0, 0, 0)).2.2)))]) (R := [.blk g4 #[.int .i64 ((l.getD k (0, 0, 0)).1), .int .i64 ((l.getD k (0, 0, 0)).2.1), .int .i64 ((l.getD k (0, 0, 0)).2.2)] 69, .blk g1 #[.int .i64 stop] 3]) (H.pick [0, 1, 2, 3, 4] _ (by decide) (by kernel_rfl)) (fun h => same_yes (step_len r2 (by omega) _ _ _) (by omega) (Unl.step r3 _ _ _ _) _ h)) ?_
      clear H
      intro v32 H
      refine x_val (.bool false) (by kernel_rfl) rfl (by kernel_rfl) ?_
      refine x_val (.bool false) (by kernel_rfl) rfl (by kernel_rfl) ?_
      refine x_nil ?_
      refine x_then ?_
      refine x_f (by kernel_rfl) ?_
      refine x_skipc ?_
      refine x_blk ?_
      refine x_then ?_
      refine x_region ?_
      refine x_ar (((k : Nat) : Int) + 1) ⟨by omega, by omega⟩ (by kernel_rfl) rfl (by kernel_rfl) ?_
      refine x_val (.int .i64 (((k : Nat) : Int) + 1)) (by kernel_rfl) rfl (by kernel_rfl) ?_
      refine x_nil ?_
      refine x_then ?_
      replace H := H.pick [0, 1, 2, 4] [.blk t #[svs, .int .i64 ((room : Nat) : Int), .func (.func 26) #[] #[]] 90, .row (svs) 92 2 (List.length (stepI room xs ((l.getD k (0, 0, 0)).1) ((l.getD k (0, 0, 0)).2.1) ((l.getD k (0, 0, 0)).2.2))) (List.flatMap pairLI (stepI room xs ((l.getD k (0, 0, 0)).1) ((l.getD k (0, 0, 0)).2.1) ((l.getD k (0, 0, 0)).2.2))), .row (us) 77 2 (List.length (stepI room xs ((l.getD k (0, 0, 0)).1) ((l.getD k (0, 0, 0)).2.1) ((l.getD k (0, 0, 0)).2.2))) (List.flatMap pairLI (stepI room xs ((l.getD k (0, 0, 0)).1) ((l.getD k (0, 0, 0)).2.1) ((l.getD k (0, 0, 0)).2.2))), .blk g1 #[.int .i64 stop] 3] (by decide) (by kernel_rfl)
      exact ⟨(k + 1, svs, us, (stepI room xs ((l.getD k (0, 0, 0)).1) ((l.getD k (0, 0, 0)).2.1) ((l.getD k (0, 0, 0)).2.2))), (by dsimp only; omega), (nthV [(uf1 0), .pointer (some ⟨g4, 0, none⟩), .bool true, .bool true, .pointer (some ⟨ga, oa + k * 3, none⟩), .agg #[.int .i64 ((l.getD k (0, 0, 0)).1), .int .i64 ((l.getD k (0, 0, 0)).2.1), .int .i64 ((l.getD k (0, 0, 0)).2.2)], .tuple #[us, .bool true], .pointer (some ⟨t, 0, none⟩), lv, .int .i64 ((room : Nat) : Int), .agg #[.int .i64 ((l.getD k (0, 0, 0)).1), .int .i64 ((l.getD k (0, 0, 0)).2.1), .int .i64 ((l.getD k (0, 0, 0)).2.2)], .tuple #[us, .bool true], us, .bool true, .bool true, .bool false, .bool false, .pointer (some ⟨t, 0, none⟩), us, .int .i64 ((room : Nat) : Int), .bool true, .bool false, .bool false, .int .i64 (((k : Nat) : Int) + 1)]), (by kernel_rfl), H, (by omega), (step_len r2 (by omega) _ _ _), (Unl.step r3 _ _ _ _)⟩
  · skip
    have h1p := of_decide_eq_true h1
    refine x_t (by kernel_rfl) ?_
    refine x_seq ?_
    refine x_region ?_
    refine x_val (.bool true) (by kernel_rfl) rfl (by kernel_rfl) ?_
    refine x_nil ?_
    refine x_then ?_
    refine x_retc ?_
    refine x_then_ret ?_
    refine x_ret0 (.bool true) (by kernel_rfl) (by kernel_rfl) ?_
    exact ⟨rfl, H.below⟩

end Go.Proofs.Ytpeefnbcgilihaa
