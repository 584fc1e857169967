/- The law RecordLogs, walked. -/
import Derived.Test.YtpeefnbcgilihaaRecG
namespace Go.Proofs.Ytpeefnbcgilihaa
open Go Go.RowKit
set_option linter.unusedVariables false
set_option linter.unusedSimpArgs false

abbrev ROp := Int × Int × Rec
def ropL (x : ROp) : List Value := [.int .i64 x.1, .int .i64 x.2.1, .int .i64 x.2.2.1, .int .i64 x.2.2.2.1, .int .i64 x.2.2.2.2.1, .int .i64 x.2.2.2.2.2.1, .int .i64 x.2.2.2.2.2.2]
/-- Some steps that are handed in. -/
def ROpsAt (w0 : World) (ad : Option Addr) (n : Nat) (l : List ROp) : Prop :=
  0 < n → ∃ g off, ad = some ⟨g, off, none⟩ ∧ ∀ w', Below w0.heap.size w0 w' → ∀ i, i < n → ∀ (j : Nat) v, (ropL (l.getD i (0, 0, 0, 0, 0, 0, 0)))[j]? = some v → w'.cell? ⟨g, off + i * 7 + j, none⟩ = some v

set_option maxRecDepth 100000 in
set_option maxHeartbeats 4000000 in
theorem logs_no (room : Int) (ad : Option Addr) (nA cA : Nat) (stop : Int) (h1 : room < 1 ∨ 256 < room) (w0 : World) :
    Calls Try.prog 5 #[.int .i64 room, .slice ad nA cA, .int .i64 stop] w0 fun e w' => e = .returned (.bool true) ∧ Below w0.heap.size w0 w' := by
  refine x_enterM Try.func5 rfl #[.int .i64 room, .slice ad nA cA, .int .i64 stop, undef, undef, undef, undef, undef, undef, undef, undef, undef, undef, undef, undef, undef, undef, undef, undef, undef, undef, undef, undef, undef, undef, undef, undef, undef, undef, undef, undef, undef, undef, undef, undef, undef, undef, undef, undef, undef, undef, undef, undef, undef, undef, undef, undef, undef, undef, undef, undef, undef, undef, undef, undef, undef, undef, undef, undef, undef, undef, undef, undef, undef, undef, undef, undef, undef, undef, undef, undef, undef, undef, undef, undef, undef, undef, undef, undef, undef, undef, undef, undef, undef, undef, undef, undef, undef, undef, undef, undef, undef, undef, undef, undef, undef, undef, undef, undef, undef, undef, undef, undef, undef, undef, undef, undef, undef, undef, undef, undef, undef, undef, undef, undef, undef, undef, undef, undef, undef, undef, undef, undef, undef, undef, undef, undef, undef, undef, undef, undef, undef, undef, undef, undef, undef, undef, undef, undef, undef, undef, undef, undef] (by kernel_rfl) ?_
  have H := Hs.nil w0
  refine x_seq ?_
  refine x_region ?_
  refine x_box H #[.int .i64 stop] 3 (by kernel_rfl) rfl (by kernel_rfl) ?_
  clear H
  intro v1 g1 H
  refine x_val (.bool false) (by kernel_rfl) rfl (by kernel_rfl) ?_
  refine x_nil ?_
  refine x_then ?_
  refine x_seq ?_
  refine x_seq ?_
  refine x_region ?_
  refine x_callB (.bool true) H (by kernel_rfl) rfl (by kernel_rfl) (anchor17 _) ?_
  clear H
  intro v2 H
  refine x_val (.bool false) (by kernel_rfl) rfl (by kernel_rfl) ?_
  refine x_nil ?_
  refine x_then ?_
  refine x_f (by kernel_rfl) ?_
  refine x_skipc ?_
  refine x_then ?_
  refine x_seq ?_
  refine x_region ?_
  refine x_val (.int .i64 room) (by kernel_rfl) rfl (by kernel_rfl) ?_
  refine x_callB (.tuple #[.pointer none, .int .i64 12]) H (by kernel_rfl) rfl (by kernel_rfl) (RNew_no room h1 _) ?_
  clear H
  intro v3 H
  refine x_val (.tuple #[.pointer none, .int .i64 12]) (by kernel_rfl) rfl (by kernel_rfl) ?_
  refine x_val (.pointer none) (by kernel_rfl) rfl (by kernel_rfl) ?_
  refine x_val (.int .i64 12) (by kernel_rfl) rfl (by kernel_rfl) ?_
  refine x_val (.pointer none) (by kernel_rfl) rfl (by kernel_rfl) ?_
  refine x_val (.int .i64 12) (by kernel_rfl) rfl (by kernel_rfl) ?_
  refine x_nil ?_
  refine x_then ?_
  refine x_seq ?_
  refine x_seq ?_
  refine x_region ?_
  refine x_val (.int .i64 room) (by kernel_rfl) rfl (by kernel_rfl) ?_
  refine x_val (.bool (decide (room < 1))) (by kernel_rfl) rfl (by kernel_rfl) ?_
  refine x_val (.bool (decide (room < 1))) (by kernel_rfl) rfl (by kernel_rfl) ?_
  cases h1 : decide (room < 1)
  · skip
    have h1p := of_decide_eq_false h1
    refine x_val (.int .i64 room) (by kernel_rfl) rfl (by kernel_rfl) ?_
    refine x_val (.bool (decide (256 < room))) (by kernel_rfl) rfl (by kernel_rfl) ?_
    refine x_val (.bool (decide (256 < room))) (by kernel_rfl) rfl (by kernel_rfl) ?_
    refine x_nil ?_
    refine x_then ?_
    cases h2 : decide (256 < room)
    · skip
      have h2p := of_decide_eq_false h2
      refine x_f (by kernel_rfl) ?_
      refine x_skipc ?_
      refine x_then ?_
      refine x_seq ?_
      refine x_seq ?_
      refine x_region ?_
      refine x_val (.int .i64 12) (by kernel_rfl) rfl (by kernel_rfl) ?_
      refine x_val (.bool true) (by kernel_rfl) rfl (by kernel_rfl) ?_
      refine x_val (.bool true) (by kernel_rfl) rfl (by kernel_rfl) ?_
      refine x_skip (by kernel_rfl) ?_
      refine x_skip (by kernel_rfl) ?_
      refine x_val (.bool true) (by kernel_rfl) rfl (by kernel_rfl) ?_
      refine x_nil ?_
      refine x_then ?_
      refine x_t (by kernel_rfl) ?_
      refine x_seq ?_
      refine x_region ?_
      refine x_val (.bool false) (by kernel_rfl) rfl (by kernel_rfl) ?_
      refine x_nil ?_
      refine x_then ?_
      refine x_retc ?_
      refine x_then_ret ?_
      refine x_ret0 (.bool false) (by kernel_rfl) (by kernel_rfl) ?_
      exfalso; omega
    · skip
      have h2p := of_decide_eq_true h2
      refine x_t (by kernel_rfl) ?_
      refine x_seq ?_
      refine x_region ?_
      refine x_val (.int .i64 12) (by kernel_rfl) rfl (by kernel_rfl) ?_
      refine x_val (.bool true) (by kernel_rfl) rfl (by kernel_rfl) ?_
      refine x_val (.bool true) (by kernel_rfl) rfl (by kernel_rfl) ?_
      refine x_val (.pointer none) (by kernel_rfl) rfl (by kernel_rfl) ?_
      refine x_val (.bool true) (by kernel_rfl) rfl (by kernel_rfl) ?_
      refine x_val (.bool true) (by kernel_rfl) rfl (by kernel_rfl) ?_
      refine x_val (.bool true) (by kernel_rfl) rfl (by kernel_rfl) ?_
      refine x_nil ?_
      refine x_then ?_
      refine x_retc ?_
      refine x_then_ret ?_
      refine x_ret0 (.bool true) (by kernel_rfl) (by kernel_rfl) ?_
      exact ⟨rfl, H.below⟩
  · skip
    have h1p := of_decide_eq_true h1
    refine x_skip (by kernel_rfl) ?_
    refine x_skip (by kernel_rfl) ?_
    refine x_val (.bool true) (by kernel_rfl) rfl (by kernel_rfl) ?_
    refine x_nil ?_
    refine x_then ?_
    refine x_t (by kernel_rfl) ?_
    refine x_seq ?_
    refine x_region ?_
    refine x_val (.int .i64 12) (by kernel_rfl) rfl (by kernel_rfl) ?_
    refine x_val (.bool true) (by kernel_rfl) rfl (by kernel_rfl) ?_
    refine x_val (.bool true) (by kernel_rfl) rfl (by kernel_rfl) ?_
    refine x_val (.pointer none) (by kernel_rfl) rfl (by kernel_rfl) ?_
    refine x_val (.bool true) (by kernel_rfl) rfl (by kernel_rfl) ?_
    refine x_val (.bool true) (by kernel_rfl) rfl (by kernel_rfl) ?_
    refine x_val (.bool true) (by kernel_rfl) rfl (by kernel_rfl) ?_
    refine x_nil ?_
    refine x_then ?_
    refine x_retc ?_
    refine x_then_ret ?_
    refine x_ret0 (.bool true) (by kernel_rfl) (by kernel_rfl) ?_
    exact ⟨rfl, H.below⟩

set_option maxRecDepth 100000 in
set_option maxHeartbeats 4000000 in
theorem logs_yes (room : Nat) (ad : Option Addr) (nA cA : Nat) (stop : Int) (l : List ROp) (h1 : 1 ≤ room) (h2 : room ≤ 256) (w0 : World) (hA : ROpsAt w0 ad nA l) :
    Calls Try.prog 5 #[.int .i64 ((room : Nat) : Int), .slice ad nA cA, .int .i64 stop] w0 fun e w' => e = .returned (.bool true) ∧ Below w0.heap.size w0 w' := by
  refine x_enterM Try.func5 rfl #[.int .i64 ((room : Nat) : Int), .slice ad nA cA, .int .i64 stop, undef, undef, undef, undef, undef, undef, undef, undef, undef, undef, undef, undef, undef, undef, undef, undef, undef, undef, undef, undef, undef, undef, undef, undef, undef, undef, undef, undef, undef, undef, undef, undef, undef, undef, undef, undef, undef, undef, undef, undef, undef, undef, undef, undef, undef, undef, undef, undef, undef, undef, undef, undef, undef, undef, undef, undef, undef, undef, undef, undef, undef, undef, undef, undef, undef, undef, undef, undef, undef, undef, undef, undef, undef, undef, undef, undef, undef, undef, undef, undef, undef, undef, undef, undef, undef, undef, undef, undef, undef, undef, undef, undef, undef, undef, undef, undef, undef, undef, undef, undef, undef, undef, undef, undef, undef, undef, undef, undef, undef, undef, undef, undef, undef, undef, undef, undef, undef, undef, undef, undef, undef, undef, undef, undef, undef, undef, undef, undef, undef, undef, undef, undef, undef, undef, undef, undef, undef, undef, undef, undef] (by kernel_rfl) ?_
  have H := Hs.nil w0
  have q1 : decide (((room : Nat) : Int) < 1) = false := by simp; omega
  have q2 : decide (256 < ((room : Nat) : Int)) = false := by simp; omega
  refine x_seq ?_
  refine x_region ?_
  refine x_box H #[.int .i64 stop] 3 (by kernel_rfl) rfl (by kernel_rfl) ?_
  clear H
  intro v1 g1 H
  refine x_val (.bool false) (by kernel_rfl) rfl (by kernel_rfl) ?_
  refine x_nil ?_
  refine x_then ?_
  refine x_seq ?_
  refine x_seq ?_
  refine x_region ?_
  refine x_callB (.bool true) H (by kernel_rfl) rfl (by kernel_rfl) (anchor17 _) ?_
  clear H
  intro v2 H
  refine x_val (.bool false) (by kernel_rfl) rfl (by kernel_rfl) ?_
  refine x_nil ?_
  refine x_then ?_
  refine x_f (by kernel_rfl) ?_
  refine x_skipc ?_
  refine x_then ?_
  refine x_seq ?_
  refine x_region ?_
  refine x_val (.int .i64 ((room : Nat) : Int)) (by kernel_rfl) rfl (by kernel_rfl) ?_
  refine x_call (by kernel_rfl) rfl (by kernel_rfl) (RNew_yes room (by omega) (by omega) _) ?_
  rintro _ v3 ⟨p, rfl, hN'⟩
  refine ⟨_, rfl, ?_⟩
  replace H := H.more hN'
  clear hN'
  replace H : Hs [] w0 _ [.blk p #[.slice none 0 0, .int .i64 ((room : Nat) : Int), .int .i64 1, .bool false] 80, .row (.slice none 0 0) 29 5 (List.length ([] : List Rec)) (List.flatMap recL ([] : List Rec)), .blk g1 #[.int .i64 stop] 3] := H
  refine x_val (.tuple #[.pointer (some ⟨p, 0, none⟩), .int .i64 0]) (by kernel_rfl) rfl (by kernel_rfl) ?_
  refine x_val (.pointer (some ⟨p, 0, none⟩)) (by kernel_rfl) rfl (by kernel_rfl) ?_
  refine x_val (.int .i64 0) (by kernel_rfl) rfl (by kernel_rfl) ?_
  refine x_val (.pointer (some ⟨p, 0, none⟩)) (by kernel_rfl) rfl (by kernel_rfl) ?_
  refine x_val (.int .i64 0) (by kernel_rfl) rfl (by kernel_rfl) ?_
  refine x_nil ?_
  refine x_then ?_
  refine x_seq ?_
  refine x_seq ?_
  refine x_region ?_
  refine x_val (.int .i64 ((room : Nat) : Int)) (by kernel_rfl) rfl (by kernel_rfl) ?_
  refine x_val (.bool (decide (((room : Nat) : Int) < 1))) (by kernel_rfl) rfl (by kernel_rfl) ?_
  refine x_val (.bool (decide (((room : Nat) : Int) < 1))) (by kernel_rfl) rfl (by kernel_rfl) ?_
  rw [q1]
  refine x_val (.int .i64 ((room : Nat) : Int)) (by kernel_rfl) rfl (by kernel_rfl) ?_
  refine x_val (.bool (decide (256 < ((room : Nat) : Int)))) (by kernel_rfl) rfl (by kernel_rfl) ?_
  refine x_val (.bool (decide (256 < ((room : Nat) : Int)))) (by kernel_rfl) rfl (by kernel_rfl) ?_
  refine x_nil ?_
  refine x_then ?_
  rw [q2]
  refine x_f (by kernel_rfl) ?_
  refine x_skipc ?_
  refine x_then ?_
  refine x_seq ?_
  refine x_seq ?_
  refine x_region ?_
  refine x_val (.int .i64 0) (by kernel_rfl) rfl (by kernel_rfl) ?_
  refine x_val (.bool false) (by kernel_rfl) rfl (by kernel_rfl) ?_
  refine x_val (.bool false) (by kernel_rfl) rfl (by kernel_rfl) ?_
  refine x_val (.pointer (some ⟨p, 0, none⟩)) (by kernel_rfl) rfl (by kernel_rfl) ?_
  refine x_val (.bool false) (by kernel_rfl) rfl (by kernel_rfl) ?_
  refine x_val (.bool false) (by kernel_rfl) rfl (by kernel_rfl) ?_
  refine x_nil ?_
  refine x_then ?_
  refine x_f (by kernel_rfl) ?_
  refine x_skipc ?_
  refine x_then ?_
  refine x_seq ?_
  refine x_seq ?_
  refine x_region ?_
  refine x_val (.slice ad nA cA) (by kernel_rfl) rfl (by kernel_rfl) ?_
  refine x_val (.int .i64 ((nA : Nat) : Int)) (by kernel_rfl) rfl (by kernel_rfl) ?_
  refine x_val (.bool (decide (40 < ((nA : Nat) : Int)))) (by kernel_rfl) rfl (by kernel_rfl) ?_
  refine x_nil ?_
  refine x_then ?_
  cases h1 : decide (40 < ((nA : Nat) : Int))
  · skip
    have h1p := of_decide_eq_false h1
    refine x_f (by kernel_rfl) ?_
    refine x_skipc ?_
    refine x_then ?_
    refine x_seq ?_
    refine x_region ?_
    refine x_val (.int .i64 ((room : Nat) : Int)) (by kernel_rfl) rfl (by kernel_rfl) ?_
    refine x_val (.agg #[.slice none 0 0, .int .i64 ((room : Nat) : Int), .int .i64 1, .bool false]) (by kernel_rfl) rfl (by kernel_rfl) ?_
    refine x_box H #[.slice none 0 0, .int .i64 0, .int .i64 0, .bool false] 41 (by kernel_rfl) rfl (by kernel_rfl) ?_
    clear H
    intro v4 g2 H
    refine x_store (t := 41) (v := .agg #[.slice none 0 0, .int .i64 ((room : Nat) : Int), .int .i64 1, .bool false]) H 0 g2 0 #[.slice none 0 0, .int .i64 0, .int .i64 0, .bool false] #[.slice none 0 0, .int .i64 ((room : Nat) : Int), .int .i64 1, .bool false] 41 [.slice none 0 0, .int .i64 ((room : Nat) : Int), .int .i64 1, .bool false] [.blk g2 #[.slice none 0 0, .int .i64 ((room : Nat) : Int), .int .i64 1, .bool false] 41, .blk p #[.slice none 0 0, .int .i64 ((room : Nat) : Int), .int .i64 1, .bool false] 80, .row (.slice none 0 0) 29 5 (List.length ([] : List Rec)) (List.flatMap recL ([] : List Rec)), .blk g1 #[.int .i64 stop] 3] (by kernel_rfl) rfl (by kernel_rfl) (by kernel_rfl) (by kernel_rfl) (by kernel_rfl) (by kernel_rfl) (by kernel_rfl) (by kernel_rfl) (by kernel_rfl) ?_
    clear H
    intro v5 H
    refine x_nil ?_
    refine x_frame' { tmps := #[.int .i64 ((room : Nat) : Int), .slice ad nA cA, .int .i64 stop, undef, undef, .pointer (some ⟨g1, 0, none⟩), .bool false, .pointer (some ⟨p, 0, none⟩), .int .i64 0, .pointer (some ⟨g2, 0, none⟩), undef, undef, undef, undef, undef, undef, undef, undef, undef, .bool true, .bool false, .tuple #[.pointer (some ⟨p, 0, none⟩), .int .i64 0], .int .i64 ((room : Nat) : Int), .tuple #[.pointer (some ⟨p, 0, none⟩), .int .i64 0], .pointer (some ⟨p, 0, none⟩), .int .i64 0, .int .i64 ((room : Nat) : Int), .bool false, .bool false, .int .i64 ((room : Nat) : Int), .bool false, .bool false, undef, undef, undef, undef, undef, undef, .int .i64 0, .bool false, .bool false, .pointer (some ⟨p, 0, none⟩), .bool false, .bool false, .slice ad nA cA, .int .i64 ((nA : Nat) : Int), .bool false, .int .i64 ((room : Nat) : Int), .agg #[.slice none 0 0, .int .i64 ((room : Nat) : Int), .int .i64 1, .bool false], undef, undef, undef, undef, undef, undef, undef, undef, undef, undef, undef, undef, undef, undef, undef, undef, undef, undef, undef, undef, undef, undef, undef, undef, undef, undef, undef, undef, undef, undef, undef, undef, undef, undef, undef, undef, undef, undef, undef, undef, undef, undef, undef, undef, undef, undef, undef, undef, undef, undef, undef, undef, undef, undef, undef, undef, undef, undef, undef, undef, undef, undef, undef, undef, undef, undef, undef, undef, undef, undef, undef, undef, undef, undef, undef, undef, undef, undef, undef, undef, undef, undef, undef, undef, undef, undef, undef, undef, undef, undef, undef, undef, undef, undef], defers := [] } (by kernel_rfl) ?_
    refine x_then ?_
    refine x_seq ?_
    refine x_seq ?_
    refine x_region ?_
    refine x_val (.slice ad nA cA) (by kernel_rfl) rfl (by kernel_rfl) ?_
    refine x_val (.int .i64 ((nA : Nat) : Int)) (by kernel_rfl) rfl (by kernel_rfl) ?_
    refine x_val (.int .i64 0) (by kernel_rfl) rfl (by kernel_rfl) ?_
    refine x_nil ?_
    refine x_then ?_
    refine x_block ?_
    replace H := H.nilRow 46 5
    replace H : Hs [] w0 _ [.row (.slice none 0 0) 46 5 (List.length ([] : List Rec)) (List.flatMap recL ([] : List Rec)), .blk g2 #[.slice none 0 0, .int .i64 ((room : Nat) : Int), .int .i64 1, .bool false] 41, .blk p #[.slice none 0 0, .int .i64 ((room : Nat) : Int), .int .i64 1, .bool false] 80, .row (.slice none 0 0) 29 5 (List.length ([] : List Rec)) (List.flatMap recL ([] : List Rec)), .blk g1 #[.int .i64 stop] 3] := H
    replace H := H.pick [2, 3, 1, 0, 4] [.blk p #[.slice none 0 0, .int .i64 ((room : Nat) : Int), .int .i64 1, .bool false] 80, .row (.slice none 0 0) 29 5 (List.length ([] : List Rec)) (List.flatMap recL ([] : List Rec)), .blk g2 #[.slice none 0 0, .int .i64 ((room : Nat) : Int), .int .i64 1, .bool false] 41, .row (.slice none 0 0) 46 5 (List.length ([] : List Rec)) (List.flatMap recL ([] : List Rec)), .blk g1 #[.int .i64 stop] 3] (by decide) (by kernel_rfl)
    refine x_loop (G := Nat × Value × Value × List Rec × Int × Bool) (fun gh a w' => match gh with | (k, sv, xv, xs, nx, lo) => ∃ uf1 : Nat → Value, a = { tmps := #[.int .i64 ((room : Nat) : Int), .slice ad nA cA, .int .i64 stop, undef, undef, .pointer (some ⟨g1, 0, none⟩), (uf1 0), .pointer (some ⟨p, 0, none⟩), .int .i64 0, .pointer (some ⟨g2, 0, none⟩), undef, (uf1 1), (uf1 2), (uf1 3), (uf1 4), (uf1 5), (uf1 6), (uf1 7), undef, .bool true, .bool false, .tuple #[.pointer (some ⟨p, 0, none⟩), .int .i64 0], .int .i64 ((room : Nat) : Int), .tuple #[.pointer (some ⟨p, 0, none⟩), .int .i64 0], .pointer (some ⟨p, 0, none⟩), .int .i64 0, .int .i64 ((room : Nat) : Int), .bool false, .bool false, .int .i64 ((room : Nat) : Int), .bool false, .bool false, undef, undef, undef, undef, undef, undef, .int .i64 0, .bool false, .bool false, .pointer (some ⟨p, 0, none⟩), .bool false, .bool false, .slice ad nA cA, .int .i64 ((nA : Nat) : Int), .bool false, .int .i64 ((room : Nat) : Int), .agg #[.slice none 0 0, .int .i64 ((room : Nat) : Int), .int .i64 1, .bool false], .slice ad nA cA, .int .i64 ((nA : Nat) : Int), .int .i64 ((k : Nat) : Int), (uf1 8), (uf1 9), (uf1 10), (uf1 11), (uf1 12), (uf1 13), (uf1 14), (uf1 15), (uf1 16), (uf1 17), (uf1 18), (uf1 19), (uf1 20), (uf1 21), (uf1 22), (uf1 23), (uf1 24), (uf1 25), (uf1 26), (uf1 27), (uf1 28), (uf1 29), (uf1 30), (uf1 31), (uf1 32), (uf1 33), (uf1 34), (uf1 35), (uf1 36), (uf1 37), (uf1 38), (uf1 39), (uf1 40), (uf1 41), (uf1 42), (uf1 43), (uf1 44), (uf1 45), (uf1 46), (uf1 47), (uf1 48), (uf1 49), (uf1 50), (uf1 51), (uf1 52), (uf1 53), (uf1 54), (uf1 55), (uf1 56), (uf1 57), (uf1 58), (uf1 59), (uf1 60), (uf1 61), (uf1 62), (uf1 63), (uf1 64), (uf1 65), (uf1 66), (uf1 67), (uf1 68), (uf1 69), (uf1 70), (uf1 71), (uf1 72), (uf1 73), undef, undef, undef, undef, undef, undef, undef, undef, undef, undef, undef, undef, undef, undef, undef, undef, undef, undef, undef, undef, undef, undef, undef, undef, undef], defers := [] } ∧ Hs [] w0 w' [.blk p #[sv, .int .i64 ((room : Nat) : Int), .int .i64 nx, .bool lo] 80, .row (sv) 29 5 (List.length xs) (List.flatMap recL xs), .blk g2 #[xv, .int .i64 ((room : Nat) : Int), .int .i64 nx, .bool lo] 41, .row (xv) 46 5 (List.length xs) (List.flatMap recL xs), .blk g1 #[.int .i64 stop] 3] ∧ (k ≤ nA) ∧ (xs.length ≤ room) ∧ (1 ≤ nx ∧ nx ≤ 1 + 300 * (k : Int))) (fun gh => match gh with | (k, sv, xv, xs, nx, lo) => nA - k) (0, .slice none 0 0, .slice none 0 0, ([] : List Rec), 1, false) ⟨(nthV [.bool false, undef, undef, undef, undef, undef, undef, undef, undef, undef, undef, undef, undef, undef, undef, undef, undef, undef, undef, undef, undef, undef, undef, undef, undef, undef, undef, undef, undef, undef, undef, undef, undef, undef, undef, undef, undef, undef, undef, undef, undef, undef, undef, undef, undef, undef, undef, undef, undef, undef, undef, undef, undef, undef, undef, undef, undef, undef, undef, undef, undef, undef, undef, undef, undef, undef, undef, undef, undef, undef, undef, undef, undef, undef]), (by kernel_rfl), H, (Nat.zero_le _), (Nat.zero_le _), (by omega)⟩ ?_
    clear H
    rintro ⟨k, sv, xv, xs, nx, lo⟩ _ v6 ⟨uf1, rfl, H, r1, r2, r3⟩
    have e2 := r2
    have e3 := r3
    refine x_seq ?_
    refine x_region ?_
    refine x_val (.bool (decide (((k : Nat) : Int) < ((nA : Nat) : Int)))) (by kernel_rfl) rfl (by kernel_rfl) ?_
    refine x_nil ?_
    refine x_then ?_
    refine x_seq ?_
    cases h2 : decide (((k : Nat) : Int) < ((nA : Nat) : Int))
    · skip
      have h2p := of_decide_eq_false h2
      refine x_f (by kernel_rfl) ?_
      refine x_exit ?_
      refine x_then_exit ?_
      refine x_then_exit ?_
      refine x_blk_exit ?_
      refine x_then ?_
      refine x_seq ?_
      refine x_region ?_
      refine x_box H #[.int .i64 0] 3 (by kernel_rfl) rfl (by kernel_rfl) ?_
      clear H
      intro v7 g3 H
      refine x_store (t := 3) (v := .int .i64 0) H 0 g3 0 #[.int .i64 0] #[.int .i64 0] 3 [.int .i64 0] [.blk g3 #[.int .i64 0] 3, .blk p #[sv, .int .i64 ((room : Nat) : Int), .int .i64 nx, .bool lo] 80, .row (sv) 29 5 (List.length xs) (List.flatMap recL xs), .blk g2 #[xv, .int .i64 ((room : Nat) : Int), .int .i64 nx, .bool lo] 41, .row (xv) 46 5 (List.length xs) (List.flatMap recL xs), .blk g1 #[.int .i64 stop] 3] (by kernel_rfl) rfl (by kernel_rfl) (by kernel_rfl) (by kernel_rfl) (by kernel_rfl) (by kernel_rfl) (by kernel_rfl) (by kernel_rfl) (by kernel_rfl) ?_
      clear H
      intro v8 H
      refine x_nil ?_
      refine x_then ?_
      refine x_seq ?_
      refine x_seq ?_
      refine x_region ?_
      refine x_val (.pointer (some ⟨p, 0, none⟩)) (by kernel_rfl) rfl (by kernel_rfl) ?_
      refine x_call (by kernel_rfl) rfl (by kernel_rfl) (All_of _ (H.roOf [1, 2] [.blk p #[sv, .int .i64 ((room : Nat) : Int), .int .i64 nx, .bool lo] 80, .row (sv) 29 5 (List.length xs) (List.flatMap recL xs)] (by kernel_rfl))) ?_
      rintro _ v9 ⟨q, rfl, hN'⟩
      refine ⟨_, rfl, ?_⟩
      replace H := H.more hN'
      clear hN'
      replace H : Hs [] w0 _ [.blk q #[sv] 22, .blk g3 #[.int .i64 0] 3, .blk p #[sv, .int .i64 ((room : Nat) : Int), .int .i64 nx, .bool lo] 80, .row (sv) 29 5 (List.length xs) (List.flatMap recL xs), .blk g2 #[xv, .int .i64 ((room : Nat) : Int), .int .i64 nx, .bool lo] 41, .row (xv) 46 5 (List.length xs) (List.flatMap recL xs), .blk g1 #[.int .i64 stop] 3] := H
      refine x_nil ?_
      refine x_then ?_
      refine x_block ?_
      replace H := H.pick [1, 0, 3, 2, 4, 5, 6] [.blk g3 #[.int .i64 0] 3, .blk q #[sv] 22, .row (sv) 29 5 (List.length xs) (List.flatMap recL xs), .blk p #[sv, .int .i64 ((room : Nat) : Int), .int .i64 nx, .bool lo] 80, .blk g2 #[xv, .int .i64 ((room : Nat) : Int), .int .i64 nx, .bool lo] 41, .row (xv) 46 5 (List.length xs) (List.flatMap recL xs), .blk g1 #[.int .i64 stop] 3] (by decide) (by kernel_rfl)
      replace H : Hs [] w0 _ [.blk g3 #[.int .i64 ((0 : Nat) : Int)] 3, .blk q #[sv] 22, .row (sv) 29 5 (List.length xs) (List.flatMap recL xs), .blk p #[sv, .int .i64 ((room : Nat) : Int), .int .i64 nx, .bool lo] 80, .blk g2 #[xv, .int .i64 ((room : Nat) : Int), .int .i64 nx, .bool lo] 41, .row (xv) 46 5 (List.length xs) (List.flatMap recL xs), .blk g1 #[.int .i64 stop] 3] := H
      refine x_rangeB (α := Rec) (G := Nat) xs (fun x => #[.agg #[.int .i64 x.1, .int .i64 x.2.1, .int .i64 x.2.2.1, .int .i64 x.2.2.2.1, .int .i64 x.2.2.2.2]]) [.blk q #[sv] 22, .row (sv) 29 5 (List.length xs) (List.flatMap recL xs)] [1, 2] (fps [.blk g3 #[.int .i64 ((0 : Nat) : Int)] 3, .blk q #[sv] 22, .row (sv) 29 5 (List.length xs) (List.flatMap recL xs), .blk p #[sv, .int .i64 ((room : Nat) : Int), .int .i64 nx, .bool lo] 80, .blk g2 #[xv, .int .i64 ((room : Nat) : Int), .int .i64 nx, .bool lo] 41, .row (xv) 46 5 (List.length xs) (List.flatMap recL xs), .blk g1 #[.int .i64 stop] 3]) (fun pre (c : Nat) => c = List.length pre) (fun pre (c : Nat) => [.blk g3 #[.int .i64 ((c : Nat) : Int)] 3, .blk q #[sv] 22, .row (sv) 29 5 (List.length xs) (List.flatMap recL xs), .blk p #[sv, .int .i64 ((room : Nat) : Int), .int .i64 nx, .bool lo] 80, .blk g2 #[xv, .int .i64 ((room : Nat) : Int), .int .i64 nx, .bool lo] 41, .row (xv) 46 5 (List.length xs) (List.flatMap recL xs), .blk g1 #[.int .i64 stop] 3]) (fun cd pre (c : Nat) => (cd = .exit 4 ∧ (c = List.length pre ∧ ((c : Nat) : Int) = stop))) (fun x b => []) (fun x b => { tmps := #[.int .i64 ((room : Nat) : Int), .slice ad nA cA, .int .i64 stop, undef, undef, .pointer (some ⟨g1, 0, none⟩), (uf1 0), .pointer (some ⟨p, 0, none⟩), .int .i64 0, .pointer (some ⟨g2, 0, none⟩), undef, (uf1 1), (uf1 2), (uf1 3), (uf1 4), (uf1 5), (uf1 6), (uf1 7), .pointer (some ⟨g3, 0, none⟩), .bool true, .bool false, .tuple #[.pointer (some ⟨p, 0, none⟩), .int .i64 0], .int .i64 ((room : Nat) : Int), .tuple #[.pointer (some ⟨p, 0, none⟩), .int .i64 0], .pointer (some ⟨p, 0, none⟩), .int .i64 0, .int .i64 ((room : Nat) : Int), .bool false, .bool false, .int .i64 ((room : Nat) : Int), .bool false, .bool false, undef, undef, undef, undef, undef, undef, .int .i64 0, .bool false, .bool false, .pointer (some ⟨p, 0, none⟩), .bool false, .bool false, .slice ad nA cA, .int .i64 ((nA : Nat) : Int), .bool false, .int .i64 ((room : Nat) : Int), .agg #[.slice none 0 0, .int .i64 ((room : Nat) : Int), .int .i64 1, .bool false], .slice ad nA cA, .int .i64 ((nA : Nat) : Int), .int .i64 ((k : Nat) : Int), .bool false, (uf1 9), (uf1 10), (uf1 11), (uf1 12), (uf1 13), (uf1 14), (uf1 15), (uf1 16), (uf1 17), (uf1 18), (uf1 19), (uf1 20), (uf1 21), (uf1 22), (uf1 23), (uf1 24), (uf1 25), (uf1 26), (uf1 27), (uf1 28), (uf1 29), (uf1 30), (uf1 31), (uf1 32), (uf1 33), (uf1 34), (uf1 35), (uf1 36), (uf1 37), (uf1 38), (uf1 39), (uf1 40), (uf1 41), (uf1 42), (uf1 43), (uf1 44), (uf1 45), (uf1 46), (uf1 47), (uf1 48), (uf1 49), (uf1 50), (uf1 51), (uf1 52), (uf1 53), (uf1 54), (uf1 55), (uf1 56), (uf1 57), (uf1 58), (uf1 59), (uf1 60), (uf1 61), (uf1 62), (uf1 63), (uf1 64), (uf1 65), (uf1 66), (uf1 67), (uf1 68), (uf1 69), (uf1 70), (uf1 71), (uf1 72), (uf1 73), .pointer (some ⟨p, 0, none⟩), .func (.func 52) #[] #[.pointer (some ⟨q, 0, none⟩)], .agg #[.int .i64 x.1, .int .i64 x.2.1, .int .i64 x.2.2.1, .int .i64 x.2.2.2.1, .int .i64 x.2.2.2.2], undef, undef, undef, undef, undef, undef, undef, undef, undef, undef, undef, undef, undef, undef, undef, undef, undef, undef, undef, undef, undef, undef], defers := [] }) 0 (by kernel_rfl) (enters_of Try.func52 (by kernel_rfl) rfl) (vals_of (by omega) _ (H.roOf [1, 2] _ (by kernel_rfl))) (fun _ => rfl) rfl (by rintro _ c; rfl) (by rintro _ c; rfl) (by rintro _ c; rfl) (fun _ _ => rfl) (fun _ _ => rfl) H rfl ?_ ?_ ?_ ?_
      · skip
        clear H
        rintro lrnd pre x c W1 hI H
        refine x_at (b := { tmps := #[.int .i64 ((room : Nat) : Int), .slice ad nA cA, .int .i64 stop, undef, undef, .pointer (some ⟨g1, 0, none⟩), (uf1 0), .pointer (some ⟨p, 0, none⟩), .int .i64 0, .pointer (some ⟨g2, 0, none⟩), undef, (uf1 1), (uf1 2), (uf1 3), (uf1 4), (uf1 5), (uf1 6), (uf1 7), .pointer (some ⟨g3, 0, none⟩), .bool true, .bool false, .tuple #[.pointer (some ⟨p, 0, none⟩), .int .i64 0], .int .i64 ((room : Nat) : Int), .tuple #[.pointer (some ⟨p, 0, none⟩), .int .i64 0], .pointer (some ⟨p, 0, none⟩), .int .i64 0, .int .i64 ((room : Nat) : Int), .bool false, .bool false, .int .i64 ((room : Nat) : Int), .bool false, .bool false, undef, undef, undef, undef, undef, undef, .int .i64 0, .bool false, .bool false, .pointer (some ⟨p, 0, none⟩), .bool false, .bool false, .slice ad nA cA, .int .i64 ((nA : Nat) : Int), .bool false, .int .i64 ((room : Nat) : Int), .agg #[.slice none 0 0, .int .i64 ((room : Nat) : Int), .int .i64 1, .bool false], .slice ad nA cA, .int .i64 ((nA : Nat) : Int), .int .i64 ((k : Nat) : Int), .bool false, (uf1 9), (uf1 10), (uf1 11), (uf1 12), (uf1 13), (uf1 14), (uf1 15), (uf1 16), (uf1 17), (uf1 18), (uf1 19), (uf1 20), (uf1 21), (uf1 22), (uf1 23), (uf1 24), (uf1 25), (uf1 26), (uf1 27), (uf1 28), (uf1 29), (uf1 30), (uf1 31), (uf1 32), (uf1 33), (uf1 34), (uf1 35), (uf1 36), (uf1 37), (uf1 38), (uf1 39), (uf1 40), (uf1 41), (uf1 42), (uf1 43), (uf1 44), (uf1 45), (uf1 46), (uf1 47), (uf1 48), (uf1 49), (uf1 50), (uf1 51), (uf1 52), (uf1 53), (uf1 54), (uf1 55), (uf1 56), (uf1 57), (uf1 58), (uf1 59), (uf1 60), (uf1 61), (uf1 62), (uf1 63), (uf1 64), (uf1 65), (uf1 66), (uf1 67), (uf1 68), (uf1 69), (uf1 70), (uf1 71), (uf1 72), (uf1 73), .pointer (some ⟨p, 0, none⟩), .func (.func 52) #[] #[.pointer (some ⟨q, 0, none⟩)], .agg #[.int .i64 x.1, .int .i64 x.2.1, .int .i64 x.2.2.1, .int .i64 x.2.2.2.1, .int .i64 x.2.2.2.2], undef, undef, undef, undef, undef, undef, undef, undef, undef, undef, undef, undef, undef, undef, undef, undef, undef, undef, undef, undef, undef, undef], defers := [] }) (by kernel_rfl) ?_
        refine x_skipc ?_
        refine x_then ?_
        exact ⟨0, (by kernel_rfl), H⟩
      · skip
        clear H
        rintro lrnd pre x c b W1 hI hlen H
        replace H : Hs (fps [] ++ (fps [.blk g3 #[.int .i64 ((0 : Nat) : Int)] 3, .blk q #[sv] 22, .row (sv) 29 5 (List.length xs) (List.flatMap recL xs), .blk p #[sv, .int .i64 ((room : Nat) : Int), .int .i64 nx, .bool lo] 80, .blk g2 #[xv, .int .i64 ((room : Nat) : Int), .int .i64 nx, .bool lo] 41, .row (xv) 46 5 (List.length xs) (List.flatMap recL xs), .blk g1 #[.int .i64 stop] 3])) W1 W1 [.blk g3 #[.int .i64 ((c : Nat) : Int)] 3, .blk q #[sv] 22, .row (sv) 29 5 (List.length xs) (List.flatMap recL xs), .blk p #[sv, .int .i64 ((room : Nat) : Int), .int .i64 nx, .bool lo] 80, .blk g2 #[xv, .int .i64 ((room : Nat) : Int), .int .i64 nx, .bool lo] 41, .row (xv) 46 5 (List.length xs) (List.flatMap recL xs), .blk g1 #[.int .i64 stop] 3] := H
        have hI' : c = List.length pre := hI
        refine x_block ?_
        refine x_seq ?_
        refine x_region ?_
        refine x_load1 H 0 g3 0 #[.int .i64 ((c : Nat) : Int)] 3 (.int .i64 ((c : Nat) : Int)) (by kernel_rfl) (by kernel_rfl) (by kernel_rfl) rfl (by kernel_rfl) ?_
        refine x_ar (((c : Nat) : Int) + 1) ⟨by omega, by omega⟩ (by kernel_rfl) rfl (by kernel_rfl) ?_
        refine x_store (t := 3) (v := .int .i64 (((c : Nat) : Int) + 1)) H 0 g3 0 #[.int .i64 ((c : Nat) : Int)] #[.int .i64 (((c : Nat) : Int) + 1)] 3 [.int .i64 (((c : Nat) : Int) + 1)] [.blk g3 #[.int .i64 (((c : Nat) : Int) + 1)] 3, .blk q #[sv] 22, .row (sv) 29 5 (List.length xs) (List.flatMap recL xs), .blk p #[sv, .int .i64 ((room : Nat) : Int), .int .i64 nx, .bool lo] 80, .blk g2 #[xv, .int .i64 ((room : Nat) : Int), .int .i64 nx, .bool lo] 41, .row (xv) 46 5 (List.length xs) (List.flatMap recL xs), .blk g1 #[.int .i64 stop] 3] (by kernel_rfl) rfl (by kernel_rfl) (by kernel_rfl) (by kernel_rfl) (by kernel_rfl) (by kernel_rfl) (by kernel_rfl) (by kernel_rfl) (by kernel_rfl) ?_
        clear H
        intro v10 H
        refine x_nil ?_
        refine x_then ?_
        refine x_seq ?_
        refine x_region ?_
        refine x_load1 H 0 g3 0 #[.int .i64 (((c : Nat) : Int) + 1)] 3 (.int .i64 (((c : Nat) : Int) + 1)) (by kernel_rfl) (by kernel_rfl) (by kernel_rfl) rfl (by kernel_rfl) ?_
        refine x_load1 H 6 g1 0 #[.int .i64 stop] 3 (.int .i64 stop) (by kernel_rfl) (by kernel_rfl) (by kernel_rfl) rfl (by kernel_rfl) ?_
        refine x_val (.bool (decide ((((c : Nat) : Int) + 1) = stop))) (by kernel_rfl) rfl (by kernel_rfl) ?_
        refine x_nil ?_
        refine x_then ?_
        cases h3 : decide ((((c : Nat) : Int) + 1) = stop)
        · skip
          have h3p := of_decide_eq_false h3
          refine x_f (by kernel_rfl) ?_
          refine x_skipc ?_
          refine x_blk ?_
          replace H := H.pick [0, 1, 2, 3, 4, 5, 6] [.blk g3 #[.int .i64 (((c : Nat) : Int) + 1)] 3, .blk q #[sv] 22, .row (sv) 29 5 (List.length xs) (List.flatMap recL xs), .blk p #[sv, .int .i64 ((room : Nat) : Int), .int .i64 nx, .bool lo] 80, .blk g2 #[xv, .int .i64 ((room : Nat) : Int), .int .i64 nx, .bool lo] 41, .row (xv) 46 5 (List.length xs) (List.flatMap recL xs), .blk g1 #[.int .i64 stop] 3] (by decide) (by kernel_rfl)
          exact ⟨(c + 1), (by show _ = List.length (pre ++ [x]); simp; exact hI), H⟩
        · skip
          have h3p := of_decide_eq_true h3
          refine x_t (by kernel_rfl) ?_
          refine x_exit ?_
          refine x_blk_out (by decide) ?_
          replace H := H.pick [0, 1, 2, 3, 4, 5, 6] [.blk g3 #[.int .i64 (((c : Nat) : Int) + 1)] 3, .blk q #[sv] 22, .row (sv) 29 5 (List.length xs) (List.flatMap recL xs), .blk p #[sv, .int .i64 ((room : Nat) : Int), .int .i64 nx, .bool lo] 80, .blk g2 #[xv, .int .i64 ((room : Nat) : Int), .int .i64 nx, .bool lo] 41, .row (xv) 46 5 (List.length xs) (List.flatMap recL xs), .blk g1 #[.int .i64 stop] 3] (by decide) (by kernel_rfl)
          exact ⟨(c + 1), ⟨rfl, ⟨(by simp; exact hI), by omega⟩⟩, H⟩
      · skip
        clear H
        rintro D c W1 hI H
        have hI2 : c = List.length xs := hI
        refine x_blk ?_
        refine x_then ?_
        refine x_seq ?_
        refine x_region ?_
        refine x_load1 H 1 g3 0 #[.int .i64 ((c : Nat) : Int)] 3 (.int .i64 ((c : Nat) : Int)) (by kernel_rfl) (by kernel_rfl) (by kernel_rfl) rfl (by kernel_rfl) ?_
        refine x_val (.pointer (some ⟨g2, 0, none⟩)) (by kernel_rfl) rfl (by kernel_rfl) ?_
        refine x_load1 H 5 g2 0 #[xv, .int .i64 ((room : Nat) : Int), .int .i64 nx, .bool lo] 41 (xv) (by kernel_rfl) (by kernel_rfl) (by kernel_rfl) rfl (by kernel_rfl) ?_
        refine x_lenR H 6 xv 39 46 5 (List.length xs) (List.flatMap recL xs) rfl (by kernel_rfl) (by kernel_rfl) rfl (by kernel_rfl) ?_
        refine x_val (.bool (decide (((c : Nat) : Int) = (((List.length xs) : Nat) : Int)))) (by kernel_rfl) rfl (by kernel_rfl) ?_
        refine x_val (.bool (decide (((c : Nat) : Int) = (((List.length xs) : Nat) : Int)))) (by kernel_rfl) rfl (by kernel_rfl) ?_
        cases h4 : decide (((c : Nat) : Int) = (((List.length xs) : Nat) : Int))
        · skip
          have h4p := of_decide_eq_false h4
          refine x_load1 H 1 g3 0 #[.int .i64 ((c : Nat) : Int)] 3 (.int .i64 ((c : Nat) : Int)) (by kernel_rfl) (by kernel_rfl) (by kernel_rfl) rfl (by kernel_rfl) ?_
          refine x_load1 H 7 g1 0 #[.int .i64 stop] 3 (.int .i64 stop) (by kernel_rfl) (by kernel_rfl) (by kernel_rfl) rfl (by kernel_rfl) ?_
          refine x_val (.bool (decide (((c : Nat) : Int) = stop))) (by kernel_rfl) rfl (by kernel_rfl) ?_
          refine x_val (.bool (decide (((c : Nat) : Int) = stop))) (by kernel_rfl) rfl (by kernel_rfl) ?_
          cases h5 : decide (((c : Nat) : Int) = stop)
          · skip
            have h5p := of_decide_eq_false h5
            refine x_skip (by kernel_rfl) ?_
            refine x_skip (by kernel_rfl) ?_
            refine x_skip (by kernel_rfl) ?_
            refine x_skip (by kernel_rfl) ?_
            refine x_skip (by kernel_rfl) ?_
            refine x_val (.bool false) (by kernel_rfl) rfl (by kernel_rfl) ?_
            refine x_val (.bool false) (by kernel_rfl) rfl (by kernel_rfl) ?_
            refine x_val (.bool false) (by kernel_rfl) rfl (by kernel_rfl) ?_
            refine x_nil ?_
            refine x_then ?_
            refine x_retc ?_
            refine x_retM1 [0, 1, 2, 3, 4, 5, 6, 7] [.blk g3 #[.int .i64 ((c : Nat) : Int)] 3, .blk q #[sv] 22, .row (sv) 29 5 (List.length xs) (List.flatMap recL xs), .blk p #[sv, .int .i64 ((room : Nat) : Int), .int .i64 nx, .bool lo] 80, .blk g2 #[xv, .int .i64 ((room : Nat) : Int), .int .i64 nx, .bool lo] 41, .row (xv) 46 5 (List.length xs) (List.flatMap recL xs), .blk g1 #[.int .i64 stop] 3] (.bool false) H (by kernel_rfl) rfl (by decide) (fun _ H => (by kernel_rfl)) ?_
            clear H
            intro v11 H
            exfalso; omega
          · skip
            have h5p := of_decide_eq_true h5
            refine x_load1 H 7 g1 0 #[.int .i64 stop] 3 (.int .i64 stop) (by kernel_rfl) (by kernel_rfl) (by kernel_rfl) rfl (by kernel_rfl) ?_
            refine x_val (.pointer (some ⟨g2, 0, none⟩)) (by kernel_rfl) rfl (by kernel_rfl) ?_
            refine x_load1 H 5 g2 0 #[xv, .int .i64 ((room : Nat) : Int), .int .i64 nx, .bool lo] 41 (xv) (by kernel_rfl) (by kernel_rfl) (by kernel_rfl) rfl (by kernel_rfl) ?_
            refine x_lenR H 6 xv 39 46 5 (List.length xs) (List.flatMap recL xs) rfl (by kernel_rfl) (by kernel_rfl) rfl (by kernel_rfl) ?_
            refine x_val (.bool (decide (stop < (((List.length xs) : Nat) : Int)))) (by kernel_rfl) rfl (by kernel_rfl) ?_
            refine x_val (.bool (decide (stop < (((List.length xs) : Nat) : Int)))) (by kernel_rfl) rfl (by kernel_rfl) ?_
            refine x_val (.bool (decide (stop < (((List.length xs) : Nat) : Int)))) (by kernel_rfl) rfl (by kernel_rfl) ?_
            refine x_val (.bool (decide (stop < (((List.length xs) : Nat) : Int)))) (by kernel_rfl) rfl (by kernel_rfl) ?_
            refine x_nil ?_
            refine x_then ?_
            refine x_retc ?_
            refine x_retM1 [0, 1, 2, 3, 4, 5, 6, 7] [.blk g3 #[.int .i64 ((c : Nat) : Int)] 3, .blk q #[sv] 22, .row (sv) 29 5 (List.length xs) (List.flatMap recL xs), .blk p #[sv, .int .i64 ((room : Nat) : Int), .int .i64 nx, .bool lo] 80, .blk g2 #[xv, .int .i64 ((room : Nat) : Int), .int .i64 nx, .bool lo] 41, .row (xv) 46 5 (List.length xs) (List.flatMap recL xs), .blk g1 #[.int .i64 stop] 3] (.bool (decide (stop < (((List.length xs) : Nat) : Int)))) H (by kernel_rfl) rfl (by decide) (fun _ H => (by kernel_rfl)) ?_
            clear H
            intro v12 H
            exact ⟨by rw [show (decide (stop < (((List.length xs) : Nat) : Int))) = true from decide_eq_true (by omega)], H.below⟩
        · skip
          have h4p := of_decide_eq_true h4
          refine x_skip (by kernel_rfl) ?_
          refine x_skip (by kernel_rfl) ?_
          refine x_skip (by kernel_rfl) ?_
          refine x_skip (by kernel_rfl) ?_
          refine x_skip (by kernel_rfl) ?_
          refine x_skip (by kernel_rfl) ?_
          refine x_skip (by kernel_rfl) ?_
          refine x_skip (by kernel_rfl) ?_
          refine x_skip (by kernel_rfl) ?_
          refine x_skip (by kernel_rfl) ?_
          refine x_val (.bool true) (by kernel_rfl) rfl (by kernel_rfl) ?_
          refine x_val (.bool true) (by kernel_rfl) rfl (by kernel_rfl) ?_
          refine x_nil ?_
          refine x_then ?_
          refine x_retc ?_
          refine x_retM1 [0, 1, 2, 3, 4, 5, 6, 7] [.blk g3 #[.int .i64 ((c : Nat) : Int)] 3, .blk q #[sv] 22, .row (sv) 29 5 (List.length xs) (List.flatMap recL xs), .blk p #[sv, .int .i64 ((room : Nat) : Int), .int .i64 nx, .bool lo] 80, .blk g2 #[xv, .int .i64 ((room : Nat) : Int), .int .i64 nx, .bool lo] 41, .row (xv) 46 5 (List.length xs) (List.flatMap recL xs), .blk g1 #[.int .i64 stop] 3] (.bool true) H (by kernel_rfl) rfl (by decide) (fun _ H => (by kernel_rfl)) ?_
          clear H
          intro v13 H
          exact ⟨rfl, H.below⟩
      · skip
        clear H
        rintro D c pre c W1 hpre hJ H
        rcases hJ with ⟨rfl, hJ⟩
        · skip
          obtain ⟨hc1, hc2⟩ := hJ
          have hpl := hpre.length_le
          refine x_exit ?_
          refine x_blk_exit ?_
          refine x_then ?_
          refine x_seq ?_
          refine x_region ?_
          refine x_load1 H 1 g3 0 #[.int .i64 ((c : Nat) : Int)] 3 (.int .i64 ((c : Nat) : Int)) (by kernel_rfl) (by kernel_rfl) (by kernel_rfl) rfl (by kernel_rfl) ?_
          refine x_val (.pointer (some ⟨g2, 0, none⟩)) (by kernel_rfl) rfl (by kernel_rfl) ?_
          refine x_load1 H 5 g2 0 #[xv, .int .i64 ((room : Nat) : Int), .int .i64 nx, .bool lo] 41 (xv) (by kernel_rfl) (by kernel_rfl) (by kernel_rfl) rfl (by kernel_rfl) ?_
          refine x_lenR H 6 xv 39 46 5 (List.length xs) (List.flatMap recL xs) rfl (by kernel_rfl) (by kernel_rfl) rfl (by kernel_rfl) ?_
          refine x_val (.bool (decide (((c : Nat) : Int) = (((List.length xs) : Nat) : Int)))) (by kernel_rfl) rfl (by kernel_rfl) ?_
          refine x_val (.bool (decide (((c : Nat) : Int) = (((List.length xs) : Nat) : Int)))) (by kernel_rfl) rfl (by kernel_rfl) ?_
          cases h6 : decide (((c : Nat) : Int) = (((List.length xs) : Nat) : Int))
          · skip
            have h6p := of_decide_eq_false h6
            refine x_load1 H 1 g3 0 #[.int .i64 ((c : Nat) : Int)] 3 (.int .i64 ((c : Nat) : Int)) (by kernel_rfl) (by kernel_rfl) (by kernel_rfl) rfl (by kernel_rfl) ?_
            refine x_load1 H 7 g1 0 #[.int .i64 stop] 3 (.int .i64 stop) (by kernel_rfl) (by kernel_rfl) (by kernel_rfl) rfl (by kernel_rfl) ?_
            refine x_val (.bool (decide (((c : Nat) : Int) = stop))) (by kernel_rfl) rfl (by kernel_rfl) ?_
            refine x_val (.bool (decide (((c : Nat) : Int) = stop))) (by kernel_rfl) rfl (by kernel_rfl) ?_
            cases h7 : decide (((c : Nat) : Int) = stop)
            · skip
              have h7p := of_decide_eq_false h7
              refine x_skip (by kernel_rfl) ?_
              refine x_skip (by kernel_rfl) ?_
              refine x_skip (by kernel_rfl) ?_
              refine x_skip (by kernel_rfl) ?_
              refine x_skip (by kernel_rfl) ?_
              refine x_val (.bool false) (by kernel_rfl) rfl (by kernel_rfl) ?_
              refine x_val (.bool false) (by kernel_rfl) rfl (by kernel_rfl) ?_
              refine x_val (.bool false) (by kernel_rfl) rfl (by kernel_rfl) ?_
              refine x_nil ?_
              refine x_then ?_
              refine x_retc ?_
              refine x_retM1 [0, 1, 2, 3, 4, 5, 6, 7] [.blk g3 #[.int .i64 ((c : Nat) : Int)] 3, .blk q #[sv] 22, .row (sv) 29 5 (List.length xs) (List.flatMap recL xs), .blk p #[sv, .int .i64 ((room : Nat) : Int), .int .i64 nx, .bool lo] 80, .blk g2 #[xv, .int .i64 ((room : Nat) : Int), .int .i64 nx, .bool lo] 41, .row (xv) 46 5 (List.length xs) (List.flatMap recL xs), .blk g1 #[.int .i64 stop] 3] (.bool false) H (by kernel_rfl) rfl (by decide) (fun _ H => (by kernel_rfl)) ?_
              clear H
              intro v14 H
              exfalso; omega
            · skip
              have h7p := of_decide_eq_true h7
              refine x_load1 H 7 g1 0 #[.int .i64 stop] 3 (.int .i64 stop) (by kernel_rfl) (by kernel_rfl) (by kernel_rfl) rfl (by kernel_rfl) ?_
              refine x_val (.pointer (some ⟨g2, 0, none⟩)) (by kernel_rfl) rfl (by kernel_rfl) ?_
              refine x_load1 H 5 g2 0 #[xv, .int .i64 ((room : Nat) : Int), .int .i64 nx, .bool lo] 41 (xv) (by kernel_rfl) (by kernel_rfl) (by kernel_rfl) rfl (by kernel_rfl) ?_
              refine x_lenR H 6 xv 39 46 5 (List.length xs) (List.flatMap recL xs) rfl (by kernel_rfl) (by kernel_rfl) rfl (by kernel_rfl) ?_
              refine x_val (.bool (decide (stop < (((List.length xs) : Nat) : Int)))) (by kernel_rfl) rfl (by kernel_rfl) ?_
              refine x_val (.bool (decide (stop < (((List.length xs) : Nat) : Int)))) (by kernel_rfl) rfl (by kernel_rfl) ?_
              refine x_val (.bool (decide (stop < (((List.length xs) : Nat) : Int)))) (by kernel_rfl) rfl (by kernel_rfl) ?_
              refine x_val (.bool (decide (stop < (((List.length xs) : Nat) : Int)))) (by kernel_rfl) rfl (by kernel_rfl) ?_
              refine x_nil ?_
              refine x_then ?_
              refine x_retc ?_
              refine x_retM1 [0, 1, 2, 3, 4, 5, 6, 7] [.blk g3 #[.int .i64 ((c : Nat) : Int)] 3, .blk q #[sv] 22, .row (sv) 29 5 (List.length xs) (List.flatMap recL xs), .blk p #[sv, .int .i64 ((room : Nat) : Int), .int .i64 nx, .bool lo] 80, .blk g2 #[xv, .int .i64 ((room : Nat) : Int), .int .i64 nx, .bool lo] 41, .row (xv) 46 5 (List.length xs) (List.flatMap recL xs), .blk g1 #[.int .i64 stop] 3] (.bool (decide (stop < (((List.length xs) : Nat) : Int)))) H (by kernel_rfl) rfl (by decide) (fun _ H => (by kernel_rfl)) ?_
              clear H
              intro v15 H
              exact ⟨by rw [show (decide (stop < (((List.length xs) : Nat) : Int))) = true from decide_eq_true (by omega)], H.below⟩
          · skip
            have h6p := of_decide_eq_true h6
            refine x_skip (by kernel_rfl) ?_
            refine x_skip (by kernel_rfl) ?_
            refine x_skip (by kernel_rfl) ?_
            refine x_skip (by kernel_rfl) ?_
            refine x_skip (by kernel_rfl) ?_
            refine x_skip (by kernel_rfl) ?_
            refine x_skip (by kernel_rfl) ?_
            refine x_skip (by kernel_rfl) ?_
            refine x_skip (by kernel_rfl) ?_
            refine x_skip (by kernel_rfl) ?_
            refine x_val (.bool true) (by kernel_rfl) rfl (by kernel_rfl) ?_
            refine x_val (.bool true) (by kernel_rfl) rfl (by kernel_rfl) ?_
            refine x_nil ?_
            refine x_then ?_
            refine x_retc ?_
            refine x_retM1 [0, 1, 2, 3, 4, 5, 6, 7] [.blk g3 #[.int .i64 ((c : Nat) : Int)] 3, .blk q #[sv] 22, .row (sv) 29 5 (List.length xs) (List.flatMap recL xs), .blk p #[sv, .int .i64 ((room : Nat) : Int), .int .i64 nx, .bool lo] 80, .blk g2 #[xv, .int .i64 ((room : Nat) : Int), .int .i64 nx, .bool lo] 41, .row (xv) 46 5 (List.length xs) (List.flatMap recL xs), .blk g1 #[.int .i64 stop] 3] (.bool true) H (by kernel_rfl) rfl (by decide) (fun _ H => (by kernel_rfl)) ?_
            clear H
            intro v16 H
            exact ⟨rfl, H.below⟩
    · skip
      have h2p := of_decide_eq_true h2
      refine x_t (by kernel_rfl) ?_
      refine x_skipc ?_
      refine x_then ?_
      refine x_seq ?_
      refine x_block ?_
      refine x_seq ?_
      refine x_region ?_
      obtain ⟨ga, oa, had, hcell⟩ := hA (by omega)
      refine x_ixO (t := 38) had k nA cA 43 7 (oa + k * 7) (by omega) (by omega) (by kernel_rfl) (by kernel_rfl) (by kernel_rfl) rfl (by kernel_rfl) ?_
      refine x_loadcn (t := 43) ga (oa + k * 7) [.int .i64 ((l.getD k (0, 0, 0, 0, 0, 0, 0)).1), .int .i64 ((l.getD k (0, 0, 0, 0, 0, 0, 0)).2.1), .int .i64 ((l.getD k (0, 0, 0, 0, 0, 0, 0)).2.2.1), .int .i64 ((l.getD k (0, 0, 0, 0, 0, 0, 0)).2.2.2.1), .int .i64 ((l.getD k (0, 0, 0, 0, 0, 0, 0)).2.2.2.2.1), .int .i64 ((l.getD k (0, 0, 0, 0, 0, 0, 0)).2.2.2.2.2.1), .int .i64 ((l.getD k (0, 0, 0, 0, 0, 0, 0)).2.2.2.2.2.2)] (hcell _ H.below k (by omega)) (by kernel_rfl) rfl (by kernel_rfl) (by kernel_rfl) ?_
      refine x_box H #[.int .i64 0, .int .i64 0, .int .i64 0, .int .i64 0, .int .i64 0, .int .i64 0, .int .i64 0] 43 (by kernel_rfl) rfl (by kernel_rfl) ?_
      clear H
      intro v17 g4 H
      refine x_store (t := 43) (v := .agg #[.int .i64 ((l.getD k (0, 0, 0, 0, 0, 0, 0)).1), .int .i64 ((l.getD k (0, 0, 0, 0, 0, 0, 0)).2.1), .int .i64 ((l.getD k (0, 0, 0, 0, 0, 0, 0)).2.2.1), .int .i64 ((l.getD k (0, 0, 0, 0, 0, 0, 0)).2.2.2.1), .int .i64 ((l.getD k (0, 0, 0, 0, 0, 0, 0)).2.2.2.2.1), .int .i64 ((l.getD k (0, 0, 0, 0, 0, 0, 0)).2.2.2.2.2.1), .int .i64 ((l.getD k (0, 0, 0, 0, 0, 0, 0)).2.2.2.2.2.2)]) H 0 g4 0 #[.int .i64 0, .int .i64 0, .int .i64 0, .int .i64 0, .int .i64 0, .int .i64 0, .int .i64 0] #[.int .i64 ((l.getD k (0, 0, 0, 0, 0, 0, 0)).1), .int .i64 ((l.getD k (0, 0, 0, 0, 0, 0, 0)).2.1), .int .i64 ((l.getD k (0, 0, 0, 0, 0, 0, 0)).2.2.1), .int .i64 ((l.getD k (0, 0, 0, 0, 0, 0, 0)).2.2.2.1), .int .i64 ((l.getD k (0, 0, 0, 0, 0, 0, 0)).2.2.2.2.1), .int .i64 ((l.getD k (0, 0, 0, 0, 0, 0, 0)).2.2.2.2.2.1), .int .i64 ((l.getD k (0, 0, 0, 0, 0, 0, 0)).2.2.2.2.2.2)] 43 [.int .i64 ((l.getD k (0, 0, 0, 0, 0, 0, 0)).1), .int .i64 ((l.getD k (0, 0, 0, 0, 0, 0, 0)).2.1), .int .i64 ((l.getD k (0, 0, 0, 0, 0, 0, 0)).2.2.1), .int .i64 ((l.getD k (0, 0, 0, 0, 0, 0, 0)).2.2.2.1), .int .i64 ((l.getD k (0, 0, 0, 0, 0, 0, 0)).2.2.2.2.1), .int .i64 ((l.getD k (0, 0, 0, 0, 0, 0, 0)).2.2.2.2.2.1), .int .i64 ((l.getD k (0, 0, 0, 0, 0, 0, 0)).2.2.2.2.2.2)] [.blk g4 #[.int .i64 ((l.getD k (0, 0, 0, 0, 0, 0, 0)).1), .int .i64 ((l.getD k (0, 0, 0, 0, 0, 0, 0)).2.1), .int .i64 ((l.getD k (0, 0, 0, 0, 0, 0, 0)).2.2.1), .int .i64 ((l.getD k (0, 0, 0, 0, 0, 0, 0)).2.2.2.1), .int .i64 ((l.getD k (0, 0, 0, 0, 0, 0, 0)).2.2.2.2.1), .int .i64 ((l.getD k (0, 0, 0, 0, 0, 0, 0)).2.2.2.2.2.1), .int .i64 ((l.getD k (0, 0, 0, 0, 0, 0, 0)).2.2.2.2.2.2)] 43, .blk p #[sv, .int .i64 ((room : Nat) : Int), .int .i64 nx, .bool lo] 80, .row (sv) 29 5 (List.length xs) (List.flatMap recL xs), .blk g2 #[xv, .int .i64 ((room : Nat) : Int), .int .i64 nx, .bool lo] 41, .row (xv) 46 5 (List.length xs) (List.flatMap recL xs), .blk g1 #[.int .i64 stop] 3] (by kernel_rfl) rfl (by kernel_rfl) (by kernel_rfl) (by kernel_rfl) (by kernel_rfl) (by kernel_rfl) (by kernel_rfl) (by kernel_rfl) (by kernel_rfl) ?_
      clear H
      intro v18 H
      refine x_nil ?_
      refine x_then ?_
      refine x_seq ?_
      refine x_region ?_
      refine x_val (.int .i64 1) (by kernel_rfl) rfl (by kernel_rfl) ?_
      refine x_nil ?_
      refine x_then ?_
      refine x_seq ?_
      refine x_seq ?_
      refine x_region ?_
      refine x_val (.pointer (some ⟨g4, 0, none⟩)) (by kernel_rfl) rfl (by kernel_rfl) ?_
      refine x_load1 H 0 g4 0 #[.int .i64 ((l.getD k (0, 0, 0, 0, 0, 0, 0)).1), .int .i64 ((l.getD k (0, 0, 0, 0, 0, 0, 0)).2.1), .int .i64 ((l.getD k (0, 0, 0, 0, 0, 0, 0)).2.2.1), .int .i64 ((l.getD k (0, 0, 0, 0, 0, 0, 0)).2.2.2.1), .int .i64 ((l.getD k (0, 0, 0, 0, 0, 0, 0)).2.2.2.2.1), .int .i64 ((l.getD k (0, 0, 0, 0, 0, 0, 0)).2.2.2.2.2.1), .int .i64 ((l.getD k (0, 0, 0, 0, 0, 0, 0)).2.2.2.2.2.2)] 43 (.int .i64 ((l.getD k (0, 0, 0, 0, 0, 0, 0)).1)) (by kernel_rfl) (by kernel_rfl) (by kernel_rfl) rfl (by kernel_rfl) ?_
      refine x_val (.bool (decide (((l.getD k (0, 0, 0, 0, 0, 0, 0)).1) = 3))) (by kernel_rfl) rfl (by kernel_rfl) ?_
      refine x_nil ?_
      refine x_then ?_
      cases h8 : decide (((l.getD k (0, 0, 0, 0, 0, 0, 0)).1) = 3)
      · skip
        have h8p := of_decide_eq_false h8
        refine x_f (by kernel_rfl) ?_
        refine x_skipc ?_
        refine x_then ?_
        refine x_seq ?_
        refine x_seq ?_
        refine x_region ?_
        refine x_val (.pointer (some ⟨g4, 0, none⟩)) (by kernel_rfl) rfl (by kernel_rfl) ?_
        refine x_load1 H 0 g4 0 #[.int .i64 ((l.getD k (0, 0, 0, 0, 0, 0, 0)).1), .int .i64 ((l.getD k (0, 0, 0, 0, 0, 0, 0)).2.1), .int .i64 ((l.getD k (0, 0, 0, 0, 0, 0, 0)).2.2.1), .int .i64 ((l.getD k (0, 0, 0, 0, 0, 0, 0)).2.2.2.1), .int .i64 ((l.getD k (0, 0, 0, 0, 0, 0, 0)).2.2.2.2.1), .int .i64 ((l.getD k (0, 0, 0, 0, 0, 0, 0)).2.2.2.2.2.1), .int .i64 ((l.getD k (0, 0, 0, 0, 0, 0, 0)).2.2.2.2.2.2)] 43 (.int .i64 ((l.getD k (0, 0, 0, 0, 0, 0, 0)).1)) (by kernel_rfl) (by kernel_rfl) (by kernel_rfl) rfl (by kernel_rfl) ?_
        refine x_val (.bool (decide (((l.getD k (0, 0, 0, 0, 0, 0, 0)).1) = 2))) (by kernel_rfl) rfl (by kernel_rfl) ?_
        refine x_nil ?_
        refine x_then ?_
        cases h9 : decide (((l.getD k (0, 0, 0, 0, 0, 0, 0)).1) = 2)
        · skip
          have h9p := of_decide_eq_false h9
          refine x_f (by kernel_rfl) ?_
          refine x_skipc ?_
          refine x_then ?_
          refine x_seq ?_
          refine x_seq ?_
          refine x_region ?_
          refine x_val (.int .i64 1) (by kernel_rfl) rfl (by kernel_rfl) ?_
          refine x_val (.int .i64 0) (by kernel_rfl) rfl (by kernel_rfl) ?_
          refine x_nil ?_
          refine x_then ?_
          refine x_block ?_
          replace H := H.pick [1, 2, 3, 4, 0, 5] [.blk p #[sv, .int .i64 ((room : Nat) : Int), .int .i64 nx, .bool lo] 80, .row (sv) 29 5 (List.length xs) (List.flatMap recL xs), .blk g2 #[xv, .int .i64 ((room : Nat) : Int), .int .i64 nx, .bool lo] 41, .row (xv) 46 5 (List.length xs) (List.flatMap recL xs), .blk g4 #[.int .i64 ((l.getD k (0, 0, 0, 0, 0, 0, 0)).1), .int .i64 ((l.getD k (0, 0, 0, 0, 0, 0, 0)).2.1), .int .i64 ((l.getD k (0, 0, 0, 0, 0, 0, 0)).2.2.1), .int .i64 ((l.getD k (0, 0, 0, 0, 0, 0, 0)).2.2.2.1), .int .i64 ((l.getD k (0, 0, 0, 0, 0, 0, 0)).2.2.2.2.1), .int .i64 ((l.getD k (0, 0, 0, 0, 0, 0, 0)).2.2.2.2.2.1), .int .i64 ((l.getD k (0, 0, 0, 0, 0, 0, 0)).2.2.2.2.2.2)] 43, .blk g1 #[.int .i64 stop] 3] (by decide) (by kernel_rfl)
          refine x_loop (G := Nat × Value × Value × List Rec × Int × Bool) (fun gh a w' => match gh with | (j, sv2, xv2, xs2, nx2, lo2) => ∃ uf2 : Nat → Value, a = { tmps := #[.int .i64 ((room : Nat) : Int), .slice ad nA cA, .int .i64 stop, undef, undef, .pointer (some ⟨g1, 0, none⟩), (uf2 0), .pointer (some ⟨p, 0, none⟩), .int .i64 0, .pointer (some ⟨g2, 0, none⟩), undef, .pointer (some ⟨g4, 0, none⟩), .int .i64 1, (uf2 1), (uf2 2), (uf2 3), (uf2 4), (uf2 5), undef, .bool true, .bool false, .tuple #[.pointer (some ⟨p, 0, none⟩), .int .i64 0], .int .i64 ((room : Nat) : Int), .tuple #[.pointer (some ⟨p, 0, none⟩), .int .i64 0], .pointer (some ⟨p, 0, none⟩), .int .i64 0, .int .i64 ((room : Nat) : Int), .bool false, .bool false, .int .i64 ((room : Nat) : Int), .bool false, .bool false, undef, undef, undef, undef, undef, undef, .int .i64 0, .bool false, .bool false, .pointer (some ⟨p, 0, none⟩), .bool false, .bool false, .slice ad nA cA, .int .i64 ((nA : Nat) : Int), .bool false, .int .i64 ((room : Nat) : Int), .agg #[.slice none 0 0, .int .i64 ((room : Nat) : Int), .int .i64 1, .bool false], .slice ad nA cA, .int .i64 ((nA : Nat) : Int), .int .i64 ((k : Nat) : Int), .bool true, .pointer (some ⟨ga, oa + k * 7, none⟩), .agg #[.int .i64 ((l.getD k (0, 0, 0, 0, 0, 0, 0)).1), .int .i64 ((l.getD k (0, 0, 0, 0, 0, 0, 0)).2.1), .int .i64 ((l.getD k (0, 0, 0, 0, 0, 0, 0)).2.2.1), .int .i64 ((l.getD k (0, 0, 0, 0, 0, 0, 0)).2.2.2.1), .int .i64 ((l.getD k (0, 0, 0, 0, 0, 0, 0)).2.2.2.2.1), .int .i64 ((l.getD k (0, 0, 0, 0, 0, 0, 0)).2.2.2.2.2.1), .int .i64 ((l.getD k (0, 0, 0, 0, 0, 0, 0)).2.2.2.2.2.2)], .pointer (some ⟨g4, 0, none⟩), .int .i64 ((l.getD k (0, 0, 0, 0, 0, 0, 0)).1), .bool false, (uf1 14), (uf1 15), (uf1 16), (uf1 17), .pointer (some ⟨g4, 0, none⟩), .int .i64 ((l.getD k (0, 0, 0, 0, 0, 0, 0)).1), .bool false, (uf1 21), (uf1 22), (uf1 23), (uf1 24), (uf1 25), (uf1 26), (uf1 27), (uf1 28), .int .i64 1, .int .i64 ((j : Nat) : Int), (uf2 6), (uf2 7), (uf2 8), (uf2 9), (uf2 10), (uf2 11), (uf2 12), (uf2 13), (uf2 14), (uf2 15), (uf2 16), (uf2 17), (uf2 18), (uf2 19), (uf2 20), (uf2 21), (uf2 22), (uf2 23), (uf2 24), (uf2 25), (uf2 26), (uf2 27), (uf2 28), (uf2 29), (uf2 30), (uf2 31), (uf2 32), (uf2 33), (uf2 34), (uf2 35), (uf2 36), (uf2 37), (uf2 38), (uf2 39), (uf2 40), (uf2 41), (uf2 42), (uf2 43), (uf1 69), (uf1 70), (uf1 71), (uf1 72), (uf1 73), undef, undef, undef, undef, undef, undef, undef, undef, undef, undef, undef, undef, undef, undef, undef, undef, undef, undef, undef, undef, undef, undef, undef, undef, undef], defers := [] } ∧ Hs [] w0 w' [.blk p #[sv2, .int .i64 ((room : Nat) : Int), .int .i64 nx2, .bool lo2] 80, .row (sv2) 29 5 (List.length xs2) (List.flatMap recL xs2), .blk g2 #[xv2, .int .i64 ((room : Nat) : Int), .int .i64 nx2, .bool lo2] 41, .row (xv2) 46 5 (List.length xs2) (List.flatMap recL xs2), .blk g4 #[.int .i64 ((l.getD k (0, 0, 0, 0, 0, 0, 0)).1), .int .i64 ((l.getD k (0, 0, 0, 0, 0, 0, 0)).2.1), .int .i64 ((l.getD k (0, 0, 0, 0, 0, 0, 0)).2.2.1), .int .i64 ((l.getD k (0, 0, 0, 0, 0, 0, 0)).2.2.2.1), .int .i64 ((l.getD k (0, 0, 0, 0, 0, 0, 0)).2.2.2.2.1), .int .i64 ((l.getD k (0, 0, 0, 0, 0, 0, 0)).2.2.2.2.2.1), .int .i64 ((l.getD k (0, 0, 0, 0, 0, 0, 0)).2.2.2.2.2.2)] 43, .blk g1 #[.int .i64 stop] 3] ∧ (j ≤ 300) ∧ (xs2.length ≤ room) ∧ (1 ≤ nx2 ∧ nx2 ≤ 1 + 300 * (k : Int) + (j : Int))) (fun gh => match gh with | (j, sv2, xv2, xs2, nx2, lo2) => 300 - j) (0, sv, xv, xs, nx, lo) ⟨(nthV [(uf1 0), (uf1 3), (uf1 4), (uf1 5), (uf1 6), (uf1 7), (uf1 31), (uf1 32), (uf1 33), (uf1 34), (uf1 35), (uf1 36), (uf1 37), (uf1 38), (uf1 39), (uf1 40), (uf1 41), (uf1 42), (uf1 43), (uf1 44), (uf1 45), (uf1 46), (uf1 47), (uf1 48), (uf1 49), (uf1 50), (uf1 51), (uf1 52), (uf1 53), (uf1 54), (uf1 55), (uf1 56), (uf1 57), (uf1 58), (uf1 59), (uf1 60), (uf1 61), (uf1 62), (uf1 63), (uf1 64), (uf1 65), (uf1 66), (uf1 67), (uf1 68)]), (by kernel_rfl), H, (Nat.zero_le _), (by first | omega | exact Nat.zero_le _), (by omega)⟩ ?_
          clear H
          rintro ⟨j, sv2, xv2, xs2, nx2, lo2⟩ _ v19 ⟨uf2, rfl, H, r1, r2, r3⟩
          refine x_seq ?_
          refine x_region ?_
          refine x_val (.bool (decide (((j : Nat) : Int) < 1))) (by kernel_rfl) rfl (by kernel_rfl) ?_
          refine x_nil ?_
          refine x_then ?_
          refine x_seq ?_
          cases h10 : decide (((j : Nat) : Int) < 1)
          · skip
            have h10p := of_decide_eq_false h10
            refine x_f (by kernel_rfl) ?_
            refine x_exit ?_
            refine x_then_exit ?_
            refine x_then_exit ?_
            refine x_blk_exit ?_
            refine x_then ?_
            refine x_seq ?_
            refine x_region ?_
            refine x_val (.pointer (some ⟨p, 0, none⟩)) (by kernel_rfl) rfl (by kernel_rfl) ?_
            refine x_loadn (t := 41) H 2 g2 0 #[xv2, .int .i64 ((room : Nat) : Int), .int .i64 nx2, .bool lo2] 41 [xv2, .int .i64 ((room : Nat) : Int), .int .i64 nx2, .bool lo2] (by kernel_rfl) (by kernel_rfl) (by kernel_rfl) rfl (by kernel_rfl) (by kernel_rfl) ?_
            refine x_callH (.bool true) [.blk p #[sv2, .int .i64 ((room : Nat) : Int), .int .i64 nx2, .bool lo2] 80, .row (sv2) 29 5 (List.length xs2) (List.flatMap recL xs2), .row (xv2) 46 5 (List.length xs2) (List.flatMap recL xs2), .blk g2 #[xv2, .int .i64 ((room : Nat) : Int), .int .i64 nx2, .bool lo2] 41, .blk g4 #[.int .i64 ((l.getD k (0, 0, 0, 0, 0, 0, 0)).1), .int .i64 ((l.getD k (0, 0, 0, 0, 0, 0, 0)).2.1), .int .i64 ((l.getD k (0, 0, 0, 0, 0, 0, 0)).2.2.1), .int .i64 ((l.getD k (0, 0, 0, 0, 0, 0, 0)).2.2.2.1), .int .i64 ((l.getD k (0, 0, 0, 0, 0, 0, 0)).2.2.2.2.1), .int .i64 ((l.getD k (0, 0, 0, 0, 0, 0, 0)).2.2.2.2.2.1), .int .i64 ((l.getD k (0, 0, 0, 0, 0, 0, 0)).2.2.2.2.2.2)] 43, .blk g1 #[.int .i64 stop] 3] (by kernel_rfl) rfl (by kernel_rfl) (Hs.use (A := [.blk p #[sv2, .int .i64 ((room : Nat) : Int), .int .i64 nx2, .bool lo2] 80, .row (sv2) 29 5 (List.length xs2) (List.flatMap recL xs2), .row (xv2) 46 5 (List.length xs2) (List.flatMap recL xs2)]) (R := [.blk g2 #[xv2, .int .i64 ((room : Nat) : Int), .int .i64 nx2, .bool lo2] 41, .blk g4 #[.int .i64 ((l.getD k (0, 0, 0, 0, 0, 0, 0)).1), .int .i64 ((l.getD k (0, 0, 0, 0, 0, 0, 0)).2.1), .int .i64 ((l.getD k (0, 0, 0, 0, 0, 0, 0)).2.2.1), .int .i64 ((l.getD k (0, 0, 0, 0, 0, 0, 0)).2.2.2.1), .int .i64 ((l.getD k (0, 0, 0, 0, 0, 0, 0)).2.2.2.2.1), .int .i64 ((l.getD k (0, 0, 0, 0, 0, 0, 0)).2.2.2.2.2.1), .int .i64 ((l.getD k (0, 0, 0, 0, 0, 0, 0)).2.2.2.2.2.2)] 43, .blk g1 #[.int .i64 stop] 3]) (H.pick [0, 1, 3, 2, 4, 5] _ (by decide) (by kernel_rfl)) (fun h => same_yes (rx := ((room : Nat) : Int)) (by omega) _ h)) ?_
            clear H
            intro v20 H
            refine x_val (.bool false) (by kernel_rfl) rfl (by kernel_rfl) ?_
            refine x_nil ?_
            refine x_then ?_
            refine x_f (by kernel_rfl) ?_
            refine x_skipc ?_
            refine x_blk ?_
            refine x_then ?_
            refine x_region ?_
            refine x_ar (((k : Nat) : Int) + 1) ⟨by omega, by omega⟩ (by kernel_rfl) rfl (by kernel_rfl) ?_
            refine x_val (.int .i64 (((k : Nat) : Int) + 1)) (by kernel_rfl) rfl (by kernel_rfl) ?_
            refine x_nil ?_
            refine x_then ?_
            replace H := H.pick [0, 1, 3, 2, 5] [.blk p #[sv2, .int .i64 ((room : Nat) : Int), .int .i64 nx2, .bool lo2] 80, .row (sv2) 29 5 (List.length xs2) (List.flatMap recL xs2), .blk g2 #[xv2, .int .i64 ((room : Nat) : Int), .int .i64 nx2, .bool lo2] 41, .row (xv2) 46 5 (List.length xs2) (List.flatMap recL xs2), .blk g1 #[.int .i64 stop] 3] (by decide) (by kernel_rfl)
            exact ⟨(k + 1, sv2, xv2, xs2, nx2, lo2), (by dsimp only; omega), (nthV [(uf2 0), .pointer (some ⟨g4, 0, none⟩), .int .i64 1, (uf2 1), (uf2 2), (uf2 3), (uf2 4), (uf2 5), .bool true, .pointer (some ⟨ga, oa + k * 7, none⟩), .agg #[.int .i64 ((l.getD k (0, 0, 0, 0, 0, 0, 0)).1), .int .i64 ((l.getD k (0, 0, 0, 0, 0, 0, 0)).2.1), .int .i64 ((l.getD k (0, 0, 0, 0, 0, 0, 0)).2.2.1), .int .i64 ((l.getD k (0, 0, 0, 0, 0, 0, 0)).2.2.2.1), .int .i64 ((l.getD k (0, 0, 0, 0, 0, 0, 0)).2.2.2.2.1), .int .i64 ((l.getD k (0, 0, 0, 0, 0, 0, 0)).2.2.2.2.2.1), .int .i64 ((l.getD k (0, 0, 0, 0, 0, 0, 0)).2.2.2.2.2.2)], .pointer (some ⟨g4, 0, none⟩), .int .i64 ((l.getD k (0, 0, 0, 0, 0, 0, 0)).1), .bool false, (uf1 14), (uf1 15), (uf1 16), (uf1 17), .pointer (some ⟨g4, 0, none⟩), .int .i64 ((l.getD k (0, 0, 0, 0, 0, 0, 0)).1), .bool false, (uf1 21), (uf1 22), (uf1 23), (uf1 24), (uf1 25), (uf1 26), (uf1 27), (uf1 28), .int .i64 1, .int .i64 ((j : Nat) : Int), .bool false, (uf2 7), (uf2 8), (uf2 9), (uf2 10), (uf2 11), (uf2 12), (uf2 13), (uf2 14), (uf2 15), (uf2 16), (uf2 17), (uf2 18), (uf2 19), (uf2 20), (uf2 21), (uf2 22), (uf2 23), (uf2 24), (uf2 25), (uf2 26), (uf2 27), (uf2 28), (uf2 29), (uf2 30), (uf2 31), (uf2 32), (uf2 33), (uf2 34), (uf2 35), (uf2 36), (uf2 37), (uf2 38), (uf2 39), (uf2 40), (uf2 41), (uf2 42), (uf2 43), .pointer (some ⟨p, 0, none⟩), .agg #[xv2, .int .i64 ((room : Nat) : Int), .int .i64 nx2, .bool lo2], .bool true, .bool false, .int .i64 (((k : Nat) : Int) + 1)]), (by kernel_rfl), H, (by omega), (by omega), (by omega)⟩
          · skip
            have h10p := of_decide_eq_true h10
            refine x_t (by kernel_rfl) ?_
            refine x_skipc ?_
            refine x_then ?_
            refine x_seq ?_
            refine x_block ?_
            refine x_seq ?_
            refine x_seq ?_
            refine x_region ?_
            refine x_val (.pointer (some ⟨g4, 0, none⟩)) (by kernel_rfl) rfl (by kernel_rfl) ?_
            refine x_load1 H 4 g4 0 #[.int .i64 ((l.getD k (0, 0, 0, 0, 0, 0, 0)).1), .int .i64 ((l.getD k (0, 0, 0, 0, 0, 0, 0)).2.1), .int .i64 ((l.getD k (0, 0, 0, 0, 0, 0, 0)).2.2.1), .int .i64 ((l.getD k (0, 0, 0, 0, 0, 0, 0)).2.2.2.1), .int .i64 ((l.getD k (0, 0, 0, 0, 0, 0, 0)).2.2.2.2.1), .int .i64 ((l.getD k (0, 0, 0, 0, 0, 0, 0)).2.2.2.2.2.1), .int .i64 ((l.getD k (0, 0, 0, 0, 0, 0, 0)).2.2.2.2.2.2)] 43 (.int .i64 ((l.getD k (0, 0, 0, 0, 0, 0, 0)).1)) (by kernel_rfl) (by kernel_rfl) (by kernel_rfl) rfl (by kernel_rfl) ?_
            refine x_val (.bool (!(decide (((l.getD k (0, 0, 0, 0, 0, 0, 0)).1) = 1)))) (by kernel_rfl) rfl (by kernel_rfl) ?_
            refine x_val (.bool (!(decide (((l.getD k (0, 0, 0, 0, 0, 0, 0)).1) = 1)))) (by kernel_rfl) rfl (by kernel_rfl) ?_
            cases h11 : decide (((l.getD k (0, 0, 0, 0, 0, 0, 0)).1) = 1)
            · skip
              have h11p := of_decide_eq_false h11
              refine x_val (.pointer (some ⟨g4, 0, none⟩)) (by kernel_rfl) rfl (by kernel_rfl) ?_
              refine x_load1 H 4 g4 0 #[.int .i64 ((l.getD k (0, 0, 0, 0, 0, 0, 0)).1), .int .i64 ((l.getD k (0, 0, 0, 0, 0, 0, 0)).2.1), .int .i64 ((l.getD k (0, 0, 0, 0, 0, 0, 0)).2.2.1), .int .i64 ((l.getD k (0, 0, 0, 0, 0, 0, 0)).2.2.2.1), .int .i64 ((l.getD k (0, 0, 0, 0, 0, 0, 0)).2.2.2.2.1), .int .i64 ((l.getD k (0, 0, 0, 0, 0, 0, 0)).2.2.2.2.2.1), .int .i64 ((l.getD k (0, 0, 0, 0, 0, 0, 0)).2.2.2.2.2.2)] 43 (.int .i64 ((l.getD k (0, 0, 0, 0, 0, 0, 0)).1)) (by kernel_rfl) (by kernel_rfl) (by kernel_rfl) rfl (by kernel_rfl) ?_
              refine x_val (.bool (!(decide (((l.getD k (0, 0, 0, 0, 0, 0, 0)).1) = 3)))) (by kernel_rfl) rfl (by kernel_rfl) ?_
              refine x_val (.bool (!(decide (((l.getD k (0, 0, 0, 0, 0, 0, 0)).1) = 3)))) (by kernel_rfl) rfl (by kernel_rfl) ?_
              refine x_nil ?_
              refine x_then ?_
              rw [h8]
              refine x_t (by kernel_rfl) ?_
              refine x_exit ?_
              refine x_then_exit ?_
              refine x_blk_out (by decide) ?_
              refine x_then_exit ?_
              refine x_then_exit ?_
              refine x_blk_exit ?_
              refine x_then ?_
              refine x_seq ?_
              refine x_region ?_
              refine x_val (.pointer (some ⟨p, 0, none⟩)) (by kernel_rfl) rfl (by kernel_rfl) ?_
              refine x_loadn (t := 41) H 2 g2 0 #[xv2, .int .i64 ((room : Nat) : Int), .int .i64 nx2, .bool lo2] 41 [xv2, .int .i64 ((room : Nat) : Int), .int .i64 nx2, .bool lo2] (by kernel_rfl) (by kernel_rfl) (by kernel_rfl) rfl (by kernel_rfl) (by kernel_rfl) ?_
              refine x_callH (.bool true) [.blk p #[sv2, .int .i64 ((room : Nat) : Int), .int .i64 nx2, .bool lo2] 80, .row (sv2) 29 5 (List.length xs2) (List.flatMap recL xs2), .row (xv2) 46 5 (List.length xs2) (List.flatMap recL xs2), .blk g2 #[xv2, .int .i64 ((room : Nat) : Int), .int .i64 nx2, .bool lo2] 41, .blk g4 #[.int .i64 ((l.getD k (0, 0, 0, 0, 0, 0, 0)).1), .int .i64 ((l.getD k (0, 0, 0, 0, 0, 0, 0)).2.1), .int .i64 ((l.getD k (0, 0, 0, 0, 0, 0, 0)).2.2.1), .int .i64 ((l.getD k (0, 0, 0, 0, 0, 0, 0)).2.2.2.1), .int .i64 ((l.getD k (0, 0, 0, 0, 0, 0, 0)).2.2.2.2.1), .int .i64 ((l.getD k (0, 0, 0, 0, 0, 0, 0)).2.2.2.2.2.1), .int .i64 ((l.getD k (0, 0, 0, 0, 0, 0, 0)).2.2.2.2.2.2)] 43, .blk g1 #[.int .i64 stop] 3] (by kernel_rfl) rfl (by kernel_rfl) (Hs.use (A := [.blk p #[sv2, .int .i64 ((room : Nat) : Int), .int .i64 nx2, .bool lo2] 80, .row (sv2) 29 5 (List.length xs2) (List.flatMap recL xs2), .row (xv2) 46 5 (List.length xs2) (List.flatMap recL xs2)]) (R := [.blk g2 #[xv2, .int .i64 ((room : Nat) : Int), .int .i64 nx2, .bool lo2] 41, .blk g4 #[.int .i64 ((l.getD k (0, 0, 0, 0, 0, 0, 0)).1), .int .i64 ((l.getD k (0, 0, 0, 0, 0, 0, 0)).2.1), .int .i64 ((l.getD k (0, 0, 0, 0, 0, 0, 0)).2.2.1), .int .i64 ((l.getD k (0, 0, 0, 0, 0, 0, 0)).2.2.2.1), .int .i64 ((l.getD k (0, 0, 0, 0, 0, 0, 0)).2.2.2.2.1), .int .i64 ((l.getD k (0, 0, 0, 0, 0, 0, 0)).2.2.2.2.2.1), .int .i64 ((l.getD k (0, 0, 0, 0, 0, 0, 0)).2.2.2.2.2.2)] 43, .blk g1 #[.int .i64 stop] 3]) (H.pick [0, 1, 3, 2, 4, 5] _ (by decide) (by kernel_rfl)) (fun h => same_yes (rx := ((room : Nat) : Int)) (by omega) _ h)) ?_
              clear H
              intro v21 H
              refine x_val (.bool false) (by kernel_rfl) rfl (by kernel_rfl) ?_
              refine x_nil ?_
              refine x_then ?_
              refine x_f (by kernel_rfl) ?_
              refine x_skipc ?_
              refine x_blk ?_
              refine x_then ?_
              refine x_region ?_
              refine x_ar (((k : Nat) : Int) + 1) ⟨by omega, by omega⟩ (by kernel_rfl) rfl (by kernel_rfl) ?_
              refine x_val (.int .i64 (((k : Nat) : Int) + 1)) (by kernel_rfl) rfl (by kernel_rfl) ?_
              refine x_nil ?_
              refine x_then ?_
              replace H := H.pick [0, 1, 3, 2, 5] [.blk p #[sv2, .int .i64 ((room : Nat) : Int), .int .i64 nx2, .bool lo2] 80, .row (sv2) 29 5 (List.length xs2) (List.flatMap recL xs2), .blk g2 #[xv2, .int .i64 ((room : Nat) : Int), .int .i64 nx2, .bool lo2] 41, .row (xv2) 46 5 (List.length xs2) (List.flatMap recL xs2), .blk g1 #[.int .i64 stop] 3] (by decide) (by kernel_rfl)
              exact ⟨(k + 1, sv2, xv2, xs2, nx2, lo2), (by dsimp only; omega), (nthV [(uf2 0), .pointer (some ⟨g4, 0, none⟩), .int .i64 1, (uf2 1), (uf2 2), (uf2 3), (uf2 4), (uf2 5), .bool true, .pointer (some ⟨ga, oa + k * 7, none⟩), .agg #[.int .i64 ((l.getD k (0, 0, 0, 0, 0, 0, 0)).1), .int .i64 ((l.getD k (0, 0, 0, 0, 0, 0, 0)).2.1), .int .i64 ((l.getD k (0, 0, 0, 0, 0, 0, 0)).2.2.1), .int .i64 ((l.getD k (0, 0, 0, 0, 0, 0, 0)).2.2.2.1), .int .i64 ((l.getD k (0, 0, 0, 0, 0, 0, 0)).2.2.2.2.1), .int .i64 ((l.getD k (0, 0, 0, 0, 0, 0, 0)).2.2.2.2.2.1), .int .i64 ((l.getD k (0, 0, 0, 0, 0, 0, 0)).2.2.2.2.2.2)], .pointer (some ⟨g4, 0, none⟩), .int .i64 ((l.getD k (0, 0, 0, 0, 0, 0, 0)).1), .bool false, (uf1 14), (uf1 15), (uf1 16), (uf1 17), .pointer (some ⟨g4, 0, none⟩), .int .i64 ((l.getD k (0, 0, 0, 0, 0, 0, 0)).1), .bool false, (uf1 21), (uf1 22), (uf1 23), (uf1 24), (uf1 25), (uf1 26), (uf1 27), (uf1 28), .int .i64 1, .int .i64 ((j : Nat) : Int), .bool true, .pointer (some ⟨g4, 0, none⟩), .int .i64 ((l.getD k (0, 0, 0, 0, 0, 0, 0)).1), .bool true, .bool true, .pointer (some ⟨g4, 0, none⟩), .int .i64 ((l.getD k (0, 0, 0, 0, 0, 0, 0)).1), .bool true, .bool true, (uf2 15), (uf2 16), (uf2 17), (uf2 18), (uf2 19), (uf2 20), (uf2 21), (uf2 22), (uf2 23), (uf2 24), (uf2 25), (uf2 26), (uf2 27), (uf2 28), (uf2 29), (uf2 30), (uf2 31), (uf2 32), (uf2 33), (uf2 34), (uf2 35), (uf2 36), (uf2 37), (uf2 38), (uf2 39), (uf2 40), (uf2 41), (uf2 42), (uf2 43), .pointer (some ⟨p, 0, none⟩), .agg #[xv2, .int .i64 ((room : Nat) : Int), .int .i64 nx2, .bool lo2], .bool true, .bool false, .int .i64 (((k : Nat) : Int) + 1)]), (by kernel_rfl), H, (by omega), (by omega), (by omega)⟩
            · skip
              have h11p := of_decide_eq_true h11
              refine x_skip (by kernel_rfl) ?_
              refine x_skip (by kernel_rfl) ?_
              refine x_skip (by kernel_rfl) ?_
              refine x_val (.bool false) (by kernel_rfl) rfl (by kernel_rfl) ?_
              refine x_nil ?_
              refine x_then ?_
              refine x_f (by kernel_rfl) ?_
              refine x_skipc ?_
              refine x_then ?_
              refine x_seq ?_
              refine x_region ?_
              refine x_val (.pointer (some ⟨g4, 2, none⟩)) (by kernel_rfl) rfl (by kernel_rfl) ?_
              refine x_loadn (t := 29) H 4 g4 2 #[.int .i64 ((l.getD k (0, 0, 0, 0, 0, 0, 0)).1), .int .i64 ((l.getD k (0, 0, 0, 0, 0, 0, 0)).2.1), .int .i64 ((l.getD k (0, 0, 0, 0, 0, 0, 0)).2.2.1), .int .i64 ((l.getD k (0, 0, 0, 0, 0, 0, 0)).2.2.2.1), .int .i64 ((l.getD k (0, 0, 0, 0, 0, 0, 0)).2.2.2.2.1), .int .i64 ((l.getD k (0, 0, 0, 0, 0, 0, 0)).2.2.2.2.2.1), .int .i64 ((l.getD k (0, 0, 0, 0, 0, 0, 0)).2.2.2.2.2.2)] 43 [.int .i64 ((l.getD k (0, 0, 0, 0, 0, 0, 0)).2.2.1), .int .i64 ((l.getD k (0, 0, 0, 0, 0, 0, 0)).2.2.2.1), .int .i64 ((l.getD k (0, 0, 0, 0, 0, 0, 0)).2.2.2.2.1), .int .i64 ((l.getD k (0, 0, 0, 0, 0, 0, 0)).2.2.2.2.2.1), .int .i64 ((l.getD k (0, 0, 0, 0, 0, 0, 0)).2.2.2.2.2.2)] (by kernel_rfl) (by kernel_rfl) (by kernel_rfl) rfl (by kernel_rfl) (by kernel_rfl) ?_
              refine x_box H #[.int .i64 0, .int .i64 0, .int .i64 0, .int .i64 0, .int .i64 0] 29 (by kernel_rfl) rfl (by kernel_rfl) ?_
              clear H
              intro v22 g5 H
              refine x_store (t := 29) (v := .agg #[.int .i64 ((l.getD k (0, 0, 0, 0, 0, 0, 0)).2.2.1), .int .i64 ((l.getD k (0, 0, 0, 0, 0, 0, 0)).2.2.2.1), .int .i64 ((l.getD k (0, 0, 0, 0, 0, 0, 0)).2.2.2.2.1), .int .i64 ((l.getD k (0, 0, 0, 0, 0, 0, 0)).2.2.2.2.2.1), .int .i64 ((l.getD k (0, 0, 0, 0, 0, 0, 0)).2.2.2.2.2.2)]) H 0 g5 0 #[.int .i64 0, .int .i64 0, .int .i64 0, .int .i64 0, .int .i64 0] #[.int .i64 ((l.getD k (0, 0, 0, 0, 0, 0, 0)).2.2.1), .int .i64 ((l.getD k (0, 0, 0, 0, 0, 0, 0)).2.2.2.1), .int .i64 ((l.getD k (0, 0, 0, 0, 0, 0, 0)).2.2.2.2.1), .int .i64 ((l.getD k (0, 0, 0, 0, 0, 0, 0)).2.2.2.2.2.1), .int .i64 ((l.getD k (0, 0, 0, 0, 0, 0, 0)).2.2.2.2.2.2)] 29 [.int .i64 ((l.getD k (0, 0, 0, 0, 0, 0, 0)).2.2.1), .int .i64 ((l.getD k (0, 0, 0, 0, 0, 0, 0)).2.2.2.1), .int .i64 ((l.getD k (0, 0, 0, 0, 0, 0, 0)).2.2.2.2.1), .int .i64 ((l.getD k (0, 0, 0, 0, 0, 0, 0)).2.2.2.2.2.1), .int .i64 ((l.getD k (0, 0, 0, 0, 0, 0, 0)).2.2.2.2.2.2)] [.blk g5 #[.int .i64 ((l.getD k (0, 0, 0, 0, 0, 0, 0)).2.2.1), .int .i64 ((l.getD k (0, 0, 0, 0, 0, 0, 0)).2.2.2.1), .int .i64 ((l.getD k (0, 0, 0, 0, 0, 0, 0)).2.2.2.2.1), .int .i64 ((l.getD k (0, 0, 0, 0, 0, 0, 0)).2.2.2.2.2.1), .int .i64 ((l.getD k (0, 0, 0, 0, 0, 0, 0)).2.2.2.2.2.2)] 29, .blk p #[sv2, .int .i64 ((room : Nat) : Int), .int .i64 nx2, .bool lo2] 80, .row (sv2) 29 5 (List.length xs2) (List.flatMap recL xs2), .blk g2 #[xv2, .int .i64 ((room : Nat) : Int), .int .i64 nx2, .bool lo2] 41, .row (xv2) 46 5 (List.length xs2) (List.flatMap recL xs2), .blk g4 #[.int .i64 ((l.getD k (0, 0, 0, 0, 0, 0, 0)).1), .int .i64 ((l.getD k (0, 0, 0, 0, 0, 0, 0)).2.1), .int .i64 ((l.getD k (0, 0, 0, 0, 0, 0, 0)).2.2.1), .int .i64 ((l.getD k (0, 0, 0, 0, 0, 0, 0)).2.2.2.1), .int .i64 ((l.getD k (0, 0, 0, 0, 0, 0, 0)).2.2.2.2.1), .int .i64 ((l.getD k (0, 0, 0, 0, 0, 0, 0)).2.2.2.2.2.1), .int .i64 ((l.getD k (0, 0, 0, 0, 0, 0, 0)).2.2.2.2.2.2)] 43, .blk g1 #[.int .i64 stop] 3] (by kernel_rfl) rfl (by kernel_rfl) (by kernel_rfl) (by kernel_rfl) (by kernel_rfl) (by kernel_rfl) (by kernel_rfl) (by kernel_rfl) (by kernel_rfl) ?_
              clear H
              intro v23 H
              refine x_nil ?_
              refine x_then ?_
              refine x_seq ?_
              refine x_region ?_
              refine x_val (.pointer (some ⟨g2, 2, none⟩)) (by kernel_rfl) rfl (by kernel_rfl) ?_
              refine x_load1 H 3 g2 2 #[xv2, .int .i64 ((room : Nat) : Int), .int .i64 nx2, .bool lo2] 41 (.int .i64 nx2) (by kernel_rfl) (by kernel_rfl) (by kernel_rfl) rfl (by kernel_rfl) ?_
              refine x_val (.pointer (some ⟨g5, 0, none⟩)) (by kernel_rfl) rfl (by kernel_rfl) ?_
              refine x_store (t := 3) (v := .int .i64 nx2) H 0 g5 0 #[.int .i64 ((l.getD k (0, 0, 0, 0, 0, 0, 0)).2.2.1), .int .i64 ((l.getD k (0, 0, 0, 0, 0, 0, 0)).2.2.2.1), .int .i64 ((l.getD k (0, 0, 0, 0, 0, 0, 0)).2.2.2.2.1), .int .i64 ((l.getD k (0, 0, 0, 0, 0, 0, 0)).2.2.2.2.2.1), .int .i64 ((l.getD k (0, 0, 0, 0, 0, 0, 0)).2.2.2.2.2.2)] #[.int .i64 nx2, .int .i64 ((l.getD k (0, 0, 0, 0, 0, 0, 0)).2.2.2.1), .int .i64 ((l.getD k (0, 0, 0, 0, 0, 0, 0)).2.2.2.2.1), .int .i64 ((l.getD k (0, 0, 0, 0, 0, 0, 0)).2.2.2.2.2.1), .int .i64 ((l.getD k (0, 0, 0, 0, 0, 0, 0)).2.2.2.2.2.2)] 29 [.int .i64 nx2] [.blk g5 #[.int .i64 nx2, .int .i64 ((l.getD k (0, 0, 0, 0, 0, 0, 0)).2.2.2.1), .int .i64 ((l.getD k (0, 0, 0, 0, 0, 0, 0)).2.2.2.2.1), .int .i64 ((l.getD k (0, 0, 0, 0, 0, 0, 0)).2.2.2.2.2.1), .int .i64 ((l.getD k (0, 0, 0, 0, 0, 0, 0)).2.2.2.2.2.2)] 29, .blk p #[sv2, .int .i64 ((room : Nat) : Int), .int .i64 nx2, .bool lo2] 80, .row (sv2) 29 5 (List.length xs2) (List.flatMap recL xs2), .blk g2 #[xv2, .int .i64 ((room : Nat) : Int), .int .i64 nx2, .bool lo2] 41, .row (xv2) 46 5 (List.length xs2) (List.flatMap recL xs2), .blk g4 #[.int .i64 ((l.getD k (0, 0, 0, 0, 0, 0, 0)).1), .int .i64 ((l.getD k (0, 0, 0, 0, 0, 0, 0)).2.1), .int .i64 ((l.getD k (0, 0, 0, 0, 0, 0, 0)).2.2.1), .int .i64 ((l.getD k (0, 0, 0, 0, 0, 0, 0)).2.2.2.1), .int .i64 ((l.getD k (0, 0, 0, 0, 0, 0, 0)).2.2.2.2.1), .int .i64 ((l.getD k (0, 0, 0, 0, 0, 0, 0)).2.2.2.2.2.1), .int .i64 ((l.getD k (0, 0, 0, 0, 0, 0, 0)).2.2.2.2.2.2)] 43, .blk g1 #[.int .i64 stop] 3] (by kernel_rfl) rfl (by kernel_rfl) (by kernel_rfl) (by kernel_rfl) (by kernel_rfl) (by kernel_rfl) (by kernel_rfl) (by kernel_rfl) (by kernel_rfl) ?_
              clear H
              intro v24 H
              refine x_nil ?_
              refine x_then ?_
              refine x_seq ?_
              refine x_region ?_
              refine x_loadn (t := 41) H 3 g2 0 #[xv2, .int .i64 ((room : Nat) : Int), .int .i64 nx2, .bool lo2] 41 [xv2, .int .i64 ((room : Nat) : Int), .int .i64 nx2, .bool lo2] (by kernel_rfl) (by kernel_rfl) (by kernel_rfl) rfl (by kernel_rfl) (by kernel_rfl) ?_
              refine x_val (.pointer (some ⟨g4, 2, none⟩)) (by kernel_rfl) rfl (by kernel_rfl) ?_
              refine x_loadn (t := 29) H 5 g4 2 #[.int .i64 ((l.getD k (0, 0, 0, 0, 0, 0, 0)).1), .int .i64 ((l.getD k (0, 0, 0, 0, 0, 0, 0)).2.1), .int .i64 ((l.getD k (0, 0, 0, 0, 0, 0, 0)).2.2.1), .int .i64 ((l.getD k (0, 0, 0, 0, 0, 0, 0)).2.2.2.1), .int .i64 ((l.getD k (0, 0, 0, 0, 0, 0, 0)).2.2.2.2.1), .int .i64 ((l.getD k (0, 0, 0, 0, 0, 0, 0)).2.2.2.2.2.1), .int .i64 ((l.getD k (0, 0, 0, 0, 0, 0, 0)).2.2.2.2.2.2)] 43 [.int .i64 ((l.getD k (0, 0, 0, 0, 0, 0, 0)).2.2.1), .int .i64 ((l.getD k (0, 0, 0, 0, 0, 0, 0)).2.2.2.1), .int .i64 ((l.getD k (0, 0, 0, 0, 0, 0, 0)).2.2.2.2.1), .int .i64 ((l.getD k (0, 0, 0, 0, 0, 0, 0)).2.2.2.2.2.1), .int .i64 ((l.getD k (0, 0, 0, 0, 0, 0, 0)).2.2.2.2.2.2)] (by kernel_rfl) (by kernel_rfl) (by kernel_rfl) rfl (by kernel_rfl) (by kernel_rfl) ?_
              refine x_call (by kernel_rfl) rfl (by kernel_rfl) (Hs.useE (A := [.row (xv2) 46 5 (List.length xs2) (List.flatMap recL xs2)]) (R := [.blk g5 #[.int .i64 nx2, .int .i64 ((l.getD k (0, 0, 0, 0, 0, 0, 0)).2.2.2.1), .int .i64 ((l.getD k (0, 0, 0, 0, 0, 0, 0)).2.2.2.2.1), .int .i64 ((l.getD k (0, 0, 0, 0, 0, 0, 0)).2.2.2.2.2.1), .int .i64 ((l.getD k (0, 0, 0, 0, 0, 0, 0)).2.2.2.2.2.2)] 29, .blk p #[sv2, .int .i64 ((room : Nat) : Int), .int .i64 nx2, .bool lo2] 80, .row (sv2) 29 5 (List.length xs2) (List.flatMap recL xs2), .blk g2 #[xv2, .int .i64 ((room : Nat) : Int), .int .i64 nx2, .bool lo2] 41, .blk g4 #[.int .i64 ((l.getD k (0, 0, 0, 0, 0, 0, 0)).1), .int .i64 ((l.getD k (0, 0, 0, 0, 0, 0, 0)).2.1), .int .i64 ((l.getD k (0, 0, 0, 0, 0, 0, 0)).2.2.1), .int .i64 ((l.getD k (0, 0, 0, 0, 0, 0, 0)).2.2.2.1), .int .i64 ((l.getD k (0, 0, 0, 0, 0, 0, 0)).2.2.2.2.1), .int .i64 ((l.getD k (0, 0, 0, 0, 0, 0, 0)).2.2.2.2.2.1), .int .i64 ((l.getD k (0, 0, 0, 0, 0, 0, 0)).2.2.2.2.2.2)] 43, .blk g1 #[.int .i64 stop] 3]) (fun xva => [.row (xva) 46 5 (List.length (addS room xs2 (nx2, ((l.getD k (0, 0, 0, 0, 0, 0, 0)).2.2.2.1), ((l.getD k (0, 0, 0, 0, 0, 0, 0)).2.2.2.2.1), ((l.getD k (0, 0, 0, 0, 0, 0, 0)).2.2.2.2.2.1), ((l.getD k (0, 0, 0, 0, 0, 0, 0)).2.2.2.2.2.2))).1) (List.flatMap recL ((addS room xs2 (nx2, ((l.getD k (0, 0, 0, 0, 0, 0, 0)).2.2.2.1), ((l.getD k (0, 0, 0, 0, 0, 0, 0)).2.2.2.2.1), ((l.getD k (0, 0, 0, 0, 0, 0, 0)).2.2.2.2.2.1), ((l.getD k (0, 0, 0, 0, 0, 0, 0)).2.2.2.2.2.2))).1))]) (fun xva => .tuple #[.agg #[xva, .int .i64 ((room : Nat) : Int), .int .i64 (nx2 + 1), .bool (lo2 || !(decide (List.length xs2 < room)))], .bool ((addS room xs2 (nx2, ((l.getD k (0, 0, 0, 0, 0, 0, 0)).2.2.2.1), ((l.getD k (0, 0, 0, 0, 0, 0, 0)).2.2.2.2.1), ((l.getD k (0, 0, 0, 0, 0, 0, 0)).2.2.2.2.2.1), ((l.getD k (0, 0, 0, 0, 0, 0, 0)).2.2.2.2.2.2))).2)]) (H.pick [4, 0, 1, 2, 3, 5, 6] _ (by decide) (by kernel_rfl)) (fun h => Ref_any ((l.getD k (0, 0, 0, 0, 0, 0, 0)).2.2.1) ((l.getD k (0, 0, 0, 0, 0, 0, 0)).2.2.2.1) ((l.getD k (0, 0, 0, 0, 0, 0, 0)).2.2.2.2.1) ((l.getD k (0, 0, 0, 0, 0, 0, 0)).2.2.2.2.2.1) ((l.getD k (0, 0, 0, 0, 0, 0, 0)).2.2.2.2.2.2) (by omega) (by omega) (by omega) (by omega) _ h)) ?_
              rintro _ v25 ⟨xva, rfl, H'⟩
              refine ⟨_, rfl, ?_⟩
              clear H
              have H : Hs [] w0 _ [.row (xva) 46 5 (List.length (addS room xs2 (nx2, ((l.getD k (0, 0, 0, 0, 0, 0, 0)).2.2.2.1), ((l.getD k (0, 0, 0, 0, 0, 0, 0)).2.2.2.2.1), ((l.getD k (0, 0, 0, 0, 0, 0, 0)).2.2.2.2.2.1), ((l.getD k (0, 0, 0, 0, 0, 0, 0)).2.2.2.2.2.2))).1) (List.flatMap recL ((addS room xs2 (nx2, ((l.getD k (0, 0, 0, 0, 0, 0, 0)).2.2.2.1), ((l.getD k (0, 0, 0, 0, 0, 0, 0)).2.2.2.2.1), ((l.getD k (0, 0, 0, 0, 0, 0, 0)).2.2.2.2.2.1), ((l.getD k (0, 0, 0, 0, 0, 0, 0)).2.2.2.2.2.2))).1)), .blk g5 #[.int .i64 nx2, .int .i64 ((l.getD k (0, 0, 0, 0, 0, 0, 0)).2.2.2.1), .int .i64 ((l.getD k (0, 0, 0, 0, 0, 0, 0)).2.2.2.2.1), .int .i64 ((l.getD k (0, 0, 0, 0, 0, 0, 0)).2.2.2.2.2.1), .int .i64 ((l.getD k (0, 0, 0, 0, 0, 0, 0)).2.2.2.2.2.2)] 29, .blk p #[sv2, .int .i64 ((room : Nat) : Int), .int .i64 nx2, .bool lo2] 80, .row (sv2) 29 5 (List.length xs2) (List.flatMap recL xs2), .blk g2 #[xv2, .int .i64 ((room : Nat) : Int), .int .i64 nx2, .bool lo2] 41, .blk g4 #[.int .i64 ((l.getD k (0, 0, 0, 0, 0, 0, 0)).1), .int .i64 ((l.getD k (0, 0, 0, 0, 0, 0, 0)).2.1), .int .i64 ((l.getD k (0, 0, 0, 0, 0, 0, 0)).2.2.1), .int .i64 ((l.getD k (0, 0, 0, 0, 0, 0, 0)).2.2.2.1), .int .i64 ((l.getD k (0, 0, 0, 0, 0, 0, 0)).2.2.2.2.1), .int .i64 ((l.getD k (0, 0, 0, 0, 0, 0, 0)).2.2.2.2.2.1), .int .i64 ((l.getD k (0, 0, 0, 0, 0, 0, 0)).2.2.2.2.2.2)] 43, .blk g1 #[.int .i64 stop] 3] := H'
              clear H'
              refine x_val (.tuple #[.agg #[xva, .int .i64 ((room : Nat) : Int), .int .i64 (nx2 + 1), .bool (lo2 || !(decide (List.length xs2 < room)))], .bool ((addS room xs2 (nx2, ((l.getD k (0, 0, 0, 0, 0, 0, 0)).2.2.2.1), ((l.getD k (0, 0, 0, 0, 0, 0, 0)).2.2.2.2.1), ((l.getD k (0, 0, 0, 0, 0, 0, 0)).2.2.2.2.2.1), ((l.getD k (0, 0, 0, 0, 0, 0, 0)).2.2.2.2.2.2))).2)]) (by kernel_rfl) rfl (by kernel_rfl) ?_
              refine x_val (.agg #[xva, .int .i64 ((room : Nat) : Int), .int .i64 (nx2 + 1), .bool (lo2 || !(decide (List.length xs2 < room)))]) (by kernel_rfl) rfl (by kernel_rfl) ?_
              refine x_val (.bool ((addS room xs2 (nx2, ((l.getD k (0, 0, 0, 0, 0, 0, 0)).2.2.2.1), ((l.getD k (0, 0, 0, 0, 0, 0, 0)).2.2.2.2.1), ((l.getD k (0, 0, 0, 0, 0, 0, 0)).2.2.2.2.2.1), ((l.getD k (0, 0, 0, 0, 0, 0, 0)).2.2.2.2.2.2))).2)) (by kernel_rfl) rfl (by kernel_rfl) ?_
              refine x_box H #[.slice none 0 0, .int .i64 0, .int .i64 0, .bool false] 41 (by kernel_rfl) rfl (by kernel_rfl) ?_
              clear H
              intro v26 g6 H
              have h12o := H.rowOne 1 rfl
              refine x_store (t := 41) (v := .agg #[xva, .int .i64 ((room : Nat) : Int), .int .i64 (nx2 + 1), .bool (lo2 || !(decide (List.length xs2 < room)))]) H 0 g6 0 #[.slice none 0 0, .int .i64 0, .int .i64 0, .bool false] #[xva, .int .i64 ((room : Nat) : Int), .int .i64 (nx2 + 1), .bool (lo2 || !(decide (List.length xs2 < room)))] 41 [xva, .int .i64 ((room : Nat) : Int), .int .i64 (nx2 + 1), .bool (lo2 || !(decide (List.length xs2 < room)))] [.blk g6 #[xva, .int .i64 ((room : Nat) : Int), .int .i64 (nx2 + 1), .bool (lo2 || !(decide (List.length xs2 < room)))] 41, .row (xva) 46 5 (List.length (addS room xs2 (nx2, ((l.getD k (0, 0, 0, 0, 0, 0, 0)).2.2.2.1), ((l.getD k (0, 0, 0, 0, 0, 0, 0)).2.2.2.2.1), ((l.getD k (0, 0, 0, 0, 0, 0, 0)).2.2.2.2.2.1), ((l.getD k (0, 0, 0, 0, 0, 0, 0)).2.2.2.2.2.2))).1) (List.flatMap recL ((addS room xs2 (nx2, ((l.getD k (0, 0, 0, 0, 0, 0, 0)).2.2.2.1), ((l.getD k (0, 0, 0, 0, 0, 0, 0)).2.2.2.2.1), ((l.getD k (0, 0, 0, 0, 0, 0, 0)).2.2.2.2.2.1), ((l.getD k (0, 0, 0, 0, 0, 0, 0)).2.2.2.2.2.2))).1)), .blk g5 #[.int .i64 nx2, .int .i64 ((l.getD k (0, 0, 0, 0, 0, 0, 0)).2.2.2.1), .int .i64 ((l.getD k (0, 0, 0, 0, 0, 0, 0)).2.2.2.2.1), .int .i64 ((l.getD k (0, 0, 0, 0, 0, 0, 0)).2.2.2.2.2.1), .int .i64 ((l.getD k (0, 0, 0, 0, 0, 0, 0)).2.2.2.2.2.2)] 29, .blk p #[sv2, .int .i64 ((room : Nat) : Int), .int .i64 nx2, .bool lo2] 80, .row (sv2) 29 5 (List.length xs2) (List.flatMap recL xs2), .blk g2 #[xv2, .int .i64 ((room : Nat) : Int), .int .i64 nx2, .bool lo2] 41, .blk g4 #[.int .i64 ((l.getD k (0, 0, 0, 0, 0, 0, 0)).1), .int .i64 ((l.getD k (0, 0, 0, 0, 0, 0, 0)).2.1), .int .i64 ((l.getD k (0, 0, 0, 0, 0, 0, 0)).2.2.1), .int .i64 ((l.getD k (0, 0, 0, 0, 0, 0, 0)).2.2.2.1), .int .i64 ((l.getD k (0, 0, 0, 0, 0, 0, 0)).2.2.2.2.1), .int .i64 ((l.getD k (0, 0, 0, 0, 0, 0, 0)).2.2.2.2.2.1), .int .i64 ((l.getD k (0, 0, 0, 0, 0, 0, 0)).2.2.2.2.2.2)] 43, .blk g1 #[.int .i64 stop] 3] (by kernel_rfl) rfl (by kernel_rfl) (by simp only [List.all_cons, List.all_nil, h12o, Bool.and_true, Bool.true_and] <;> rfl) (by kernel_rfl) (by kernel_rfl) (by kernel_rfl) (by kernel_rfl) (by kernel_rfl) (by kernel_rfl) ?_
              clear H
              intro v27 H
              refine x_val (.bool ((addS room xs2 (nx2, ((l.getD k (0, 0, 0, 0, 0, 0, 0)).2.2.2.1), ((l.getD k (0, 0, 0, 0, 0, 0, 0)).2.2.2.2.1), ((l.getD k (0, 0, 0, 0, 0, 0, 0)).2.2.2.2.2.1), ((l.getD k (0, 0, 0, 0, 0, 0, 0)).2.2.2.2.2.2))).2)) (by kernel_rfl) rfl (by kernel_rfl) ?_
              refine x_nil ?_
              refine x_then ?_
              refine x_seq ?_
              refine x_region ?_
              refine x_loadn (t := 41) H 0 g6 0 #[xva, .int .i64 ((room : Nat) : Int), .int .i64 (nx2 + 1), .bool (lo2 || !(decide (List.length xs2 < room)))] 41 [xva, .int .i64 ((room : Nat) : Int), .int .i64 (nx2 + 1), .bool (lo2 || !(decide (List.length xs2 < room)))] (by kernel_rfl) (by kernel_rfl) (by kernel_rfl) rfl (by kernel_rfl) (by kernel_rfl) ?_
              have h13o := H.rowOne 1 rfl
              refine x_store (t := 41) (v := .agg #[xva, .int .i64 ((room : Nat) : Int), .int .i64 (nx2 + 1), .bool (lo2 || !(decide (List.length xs2 < room)))]) H 5 g2 0 #[xv2, .int .i64 ((room : Nat) : Int), .int .i64 nx2, .bool lo2] #[xva, .int .i64 ((room : Nat) : Int), .int .i64 (nx2 + 1), .bool (lo2 || !(decide (List.length xs2 < room)))] 41 [xva, .int .i64 ((room : Nat) : Int), .int .i64 (nx2 + 1), .bool (lo2 || !(decide (List.length xs2 < room)))] [.blk g6 #[xva, .int .i64 ((room : Nat) : Int), .int .i64 (nx2 + 1), .bool (lo2 || !(decide (List.length xs2 < room)))] 41, .row (xva) 46 5 (List.length (addS room xs2 (nx2, ((l.getD k (0, 0, 0, 0, 0, 0, 0)).2.2.2.1), ((l.getD k (0, 0, 0, 0, 0, 0, 0)).2.2.2.2.1), ((l.getD k (0, 0, 0, 0, 0, 0, 0)).2.2.2.2.2.1), ((l.getD k (0, 0, 0, 0, 0, 0, 0)).2.2.2.2.2.2))).1) (List.flatMap recL ((addS room xs2 (nx2, ((l.getD k (0, 0, 0, 0, 0, 0, 0)).2.2.2.1), ((l.getD k (0, 0, 0, 0, 0, 0, 0)).2.2.2.2.1), ((l.getD k (0, 0, 0, 0, 0, 0, 0)).2.2.2.2.2.1), ((l.getD k (0, 0, 0, 0, 0, 0, 0)).2.2.2.2.2.2))).1)), .blk g5 #[.int .i64 nx2, .int .i64 ((l.getD k (0, 0, 0, 0, 0, 0, 0)).2.2.2.1), .int .i64 ((l.getD k (0, 0, 0, 0, 0, 0, 0)).2.2.2.2.1), .int .i64 ((l.getD k (0, 0, 0, 0, 0, 0, 0)).2.2.2.2.2.1), .int .i64 ((l.getD k (0, 0, 0, 0, 0, 0, 0)).2.2.2.2.2.2)] 29, .blk p #[sv2, .int .i64 ((room : Nat) : Int), .int .i64 nx2, .bool lo2] 80, .row (sv2) 29 5 (List.length xs2) (List.flatMap recL xs2), .blk g2 #[xva, .int .i64 ((room : Nat) : Int), .int .i64 (nx2 + 1), .bool (lo2 || !(decide (List.length xs2 < room)))] 41, .blk g4 #[.int .i64 ((l.getD k (0, 0, 0, 0, 0, 0, 0)).1), .int .i64 ((l.getD k (0, 0, 0, 0, 0, 0, 0)).2.1), .int .i64 ((l.getD k (0, 0, 0, 0, 0, 0, 0)).2.2.1), .int .i64 ((l.getD k (0, 0, 0, 0, 0, 0, 0)).2.2.2.1), .int .i64 ((l.getD k (0, 0, 0, 0, 0, 0, 0)).2.2.2.2.1), .int .i64 ((l.getD k (0, 0, 0, 0, 0, 0, 0)).2.2.2.2.2.1), .int .i64 ((l.getD k (0, 0, 0, 0, 0, 0, 0)).2.2.2.2.2.2)] 43, .blk g1 #[.int .i64 stop] 3] (by kernel_rfl) rfl (by kernel_rfl) (by simp only [List.all_cons, List.all_nil, h13o, Bool.and_true, Bool.true_and] <;> rfl) (by kernel_rfl) (by kernel_rfl) (by kernel_rfl) (by kernel_rfl) (by kernel_rfl) (by kernel_rfl) ?_
              clear H
              intro v28 H
              refine x_nil ?_
              refine x_then ?_
              refine x_seq ?_
              refine x_region ?_
              refine x_val (.pointer (some ⟨p, 0, none⟩)) (by kernel_rfl) rfl (by kernel_rfl) ?_
              refine x_val (.pointer (some ⟨g4, 2, none⟩)) (by kernel_rfl) rfl (by kernel_rfl) ?_
              refine x_loadn (t := 29) H 6 g4 2 #[.int .i64 ((l.getD k (0, 0, 0, 0, 0, 0, 0)).1), .int .i64 ((l.getD k (0, 0, 0, 0, 0, 0, 0)).2.1), .int .i64 ((l.getD k (0, 0, 0, 0, 0, 0, 0)).2.2.1), .int .i64 ((l.getD k (0, 0, 0, 0, 0, 0, 0)).2.2.2.1), .int .i64 ((l.getD k (0, 0, 0, 0, 0, 0, 0)).2.2.2.2.1), .int .i64 ((l.getD k (0, 0, 0, 0, 0, 0, 0)).2.2.2.2.2.1), .int .i64 ((l.getD k (0, 0, 0, 0, 0, 0, 0)).2.2.2.2.2.2)] 43 [.int .i64 ((l.getD k (0, 0, 0, 0, 0, 0, 0)).2.2.1), .int .i64 ((l.getD k (0, 0, 0, 0, 0, 0, 0)).2.2.2.1), .int .i64 ((l.getD k (0, 0, 0, 0, 0, 0, 0)).2.2.2.2.1), .int .i64 ((l.getD k (0, 0, 0, 0, 0, 0, 0)).2.2.2.2.2.1), .int .i64 ((l.getD k (0, 0, 0, 0, 0, 0, 0)).2.2.2.2.2.2)] (by kernel_rfl) (by kernel_rfl) (by kernel_rfl) rfl (by kernel_rfl) (by kernel_rfl) ?_
              refine x_call (by kernel_rfl) rfl (by kernel_rfl) (Hs.useE (A := [.blk p #[sv2, .int .i64 ((room : Nat) : Int), .int .i64 nx2, .bool lo2] 80, .row (sv2) 29 5 (List.length xs2) (List.flatMap recL xs2)]) (R := [.blk g6 #[xva, .int .i64 ((room : Nat) : Int), .int .i64 (nx2 + 1), .bool (lo2 || !(decide (List.length xs2 < room)))] 41, .row (xva) 46 5 (List.length (addS room xs2 (nx2, ((l.getD k (0, 0, 0, 0, 0, 0, 0)).2.2.2.1), ((l.getD k (0, 0, 0, 0, 0, 0, 0)).2.2.2.2.1), ((l.getD k (0, 0, 0, 0, 0, 0, 0)).2.2.2.2.2.1), ((l.getD k (0, 0, 0, 0, 0, 0, 0)).2.2.2.2.2.2))).1) (List.flatMap recL ((addS room xs2 (nx2, ((l.getD k (0, 0, 0, 0, 0, 0, 0)).2.2.2.1), ((l.getD k (0, 0, 0, 0, 0, 0, 0)).2.2.2.2.1), ((l.getD k (0, 0, 0, 0, 0, 0, 0)).2.2.2.2.2.1), ((l.getD k (0, 0, 0, 0, 0, 0, 0)).2.2.2.2.2.2))).1)), .blk g5 #[.int .i64 nx2, .int .i64 ((l.getD k (0, 0, 0, 0, 0, 0, 0)).2.2.2.1), .int .i64 ((l.getD k (0, 0, 0, 0, 0, 0, 0)).2.2.2.2.1), .int .i64 ((l.getD k (0, 0, 0, 0, 0, 0, 0)).2.2.2.2.2.1), .int .i64 ((l.getD k (0, 0, 0, 0, 0, 0, 0)).2.2.2.2.2.2)] 29, .blk g2 #[xva, .int .i64 ((room : Nat) : Int), .int .i64 (nx2 + 1), .bool (lo2 || !(decide (List.length xs2 < room)))] 41, .blk g4 #[.int .i64 ((l.getD k (0, 0, 0, 0, 0, 0, 0)).1), .int .i64 ((l.getD k (0, 0, 0, 0, 0, 0, 0)).2.1), .int .i64 ((l.getD k (0, 0, 0, 0, 0, 0, 0)).2.2.1), .int .i64 ((l.getD k (0, 0, 0, 0, 0, 0, 0)).2.2.2.1), .int .i64 ((l.getD k (0, 0, 0, 0, 0, 0, 0)).2.2.2.2.1), .int .i64 ((l.getD k (0, 0, 0, 0, 0, 0, 0)).2.2.2.2.2.1), .int .i64 ((l.getD k (0, 0, 0, 0, 0, 0, 0)).2.2.2.2.2.2)] 43, .blk g1 #[.int .i64 stop] 3]) (fun sva => [.blk p #[sva, .int .i64 ((room : Nat) : Int), .int .i64 (nx2 + 1), .bool (lo2 || !(decide (List.length xs2 < room)))] 80, .row (sva) 29 5 (List.length ((addS room xs2 (nx2, ((l.getD k (0, 0, 0, 0, 0, 0, 0)).2.2.2.1), ((l.getD k (0, 0, 0, 0, 0, 0, 0)).2.2.2.2.1), ((l.getD k (0, 0, 0, 0, 0, 0, 0)).2.2.2.2.2.1), ((l.getD k (0, 0, 0, 0, 0, 0, 0)).2.2.2.2.2.2))).1)) (List.flatMap recL ((addS room xs2 (nx2, ((l.getD k (0, 0, 0, 0, 0, 0, 0)).2.2.2.1), ((l.getD k (0, 0, 0, 0, 0, 0, 0)).2.2.2.2.1), ((l.getD k (0, 0, 0, 0, 0, 0, 0)).2.2.2.2.2.1), ((l.getD k (0, 0, 0, 0, 0, 0, 0)).2.2.2.2.2.2))).1))]) (fun _ => .tuple #[.agg #[.int .i64 nx2, .int .i64 ((l.getD k (0, 0, 0, 0, 0, 0, 0)).2.2.2.1), .int .i64 ((l.getD k (0, 0, 0, 0, 0, 0, 0)).2.2.2.2.1), .int .i64 ((l.getD k (0, 0, 0, 0, 0, 0, 0)).2.2.2.2.2.1), .int .i64 ((l.getD k (0, 0, 0, 0, 0, 0, 0)).2.2.2.2.2.2)], .bool ((addS room xs2 (nx2, ((l.getD k (0, 0, 0, 0, 0, 0, 0)).2.2.2.1), ((l.getD k (0, 0, 0, 0, 0, 0, 0)).2.2.2.2.1), ((l.getD k (0, 0, 0, 0, 0, 0, 0)).2.2.2.2.2.1), ((l.getD k (0, 0, 0, 0, 0, 0, 0)).2.2.2.2.2.2))).2)]) (H.pick [3, 4, 0, 1, 2, 5, 6, 7] _ (by decide) (by kernel_rfl)) (fun h => Add_any ((l.getD k (0, 0, 0, 0, 0, 0, 0)).2.2.1) ((l.getD k (0, 0, 0, 0, 0, 0, 0)).2.2.2.1) ((l.getD k (0, 0, 0, 0, 0, 0, 0)).2.2.2.2.1) ((l.getD k (0, 0, 0, 0, 0, 0, 0)).2.2.2.2.2.1) ((l.getD k (0, 0, 0, 0, 0, 0, 0)).2.2.2.2.2.2) (by first | omega | decide) (by omega) (by omega) (by omega) _ h)) ?_
              rintro _ v29 ⟨sva, rfl, H'⟩
              refine ⟨_, rfl, ?_⟩
              clear H
              have H : Hs [] w0 _ [.blk p #[sva, .int .i64 ((room : Nat) : Int), .int .i64 (nx2 + 1), .bool (lo2 || !(decide (List.length xs2 < room)))] 80, .row (sva) 29 5 (List.length ((addS room xs2 (nx2, ((l.getD k (0, 0, 0, 0, 0, 0, 0)).2.2.2.1), ((l.getD k (0, 0, 0, 0, 0, 0, 0)).2.2.2.2.1), ((l.getD k (0, 0, 0, 0, 0, 0, 0)).2.2.2.2.2.1), ((l.getD k (0, 0, 0, 0, 0, 0, 0)).2.2.2.2.2.2))).1)) (List.flatMap recL ((addS room xs2 (nx2, ((l.getD k (0, 0, 0, 0, 0, 0, 0)).2.2.2.1), ((l.getD k (0, 0, 0, 0, 0, 0, 0)).2.2.2.2.1), ((l.getD k (0, 0, 0, 0, 0, 0, 0)).2.2.2.2.2.1), ((l.getD k (0, 0, 0, 0, 0, 0, 0)).2.2.2.2.2.2))).1)), .blk g6 #[xva, .int .i64 ((room : Nat) : Int), .int .i64 (nx2 + 1), .bool (lo2 || !(decide (List.length xs2 < room)))] 41, .row (xva) 46 5 (List.length (addS room xs2 (nx2, ((l.getD k (0, 0, 0, 0, 0, 0, 0)).2.2.2.1), ((l.getD k (0, 0, 0, 0, 0, 0, 0)).2.2.2.2.1), ((l.getD k (0, 0, 0, 0, 0, 0, 0)).2.2.2.2.2.1), ((l.getD k (0, 0, 0, 0, 0, 0, 0)).2.2.2.2.2.2))).1) (List.flatMap recL ((addS room xs2 (nx2, ((l.getD k (0, 0, 0, 0, 0, 0, 0)).2.2.2.1), ((l.getD k (0, 0, 0, 0, 0, 0, 0)).2.2.2.2.1), ((l.getD k (0, 0, 0, 0, 0, 0, 0)).2.2.2.2.2.1), ((l.getD k (0, 0, 0, 0, 0, 0, 0)).2.2.2.2.2.2))).1)), .blk g5 #[.int .i64 nx2, .int .i64 ((l.getD k (0, 0, 0, 0, 0, 0, 0)).2.2.2.1), .int .i64 ((l.getD k (0, 0, 0, 0, 0, 0, 0)).2.2.2.2.1), .int .i64 ((l.getD k (0, 0, 0, 0, 0, 0, 0)).2.2.2.2.2.1), .int .i64 ((l.getD k (0, 0, 0, 0, 0, 0, 0)).2.2.2.2.2.2)] 29, .blk g2 #[xva, .int .i64 ((room : Nat) : Int), .int .i64 (nx2 + 1), .bool (lo2 || !(decide (List.length xs2 < room)))] 41, .blk g4 #[.int .i64 ((l.getD k (0, 0, 0, 0, 0, 0, 0)).1), .int .i64 ((l.getD k (0, 0, 0, 0, 0, 0, 0)).2.1), .int .i64 ((l.getD k (0, 0, 0, 0, 0, 0, 0)).2.2.1), .int .i64 ((l.getD k (0, 0, 0, 0, 0, 0, 0)).2.2.2.1), .int .i64 ((l.getD k (0, 0, 0, 0, 0, 0, 0)).2.2.2.2.1), .int .i64 ((l.getD k (0, 0, 0, 0, 0, 0, 0)).2.2.2.2.2.1), .int .i64 ((l.getD k (0, 0, 0, 0, 0, 0, 0)).2.2.2.2.2.2)] 43, .blk g1 #[.int .i64 stop] 3] := H'
              clear H'
              refine x_val (.tuple #[.agg #[.int .i64 nx2, .int .i64 ((l.getD k (0, 0, 0, 0, 0, 0, 0)).2.2.2.1), .int .i64 ((l.getD k (0, 0, 0, 0, 0, 0, 0)).2.2.2.2.1), .int .i64 ((l.getD k (0, 0, 0, 0, 0, 0, 0)).2.2.2.2.2.1), .int .i64 ((l.getD k (0, 0, 0, 0, 0, 0, 0)).2.2.2.2.2.2)], .bool ((addS room xs2 (nx2, ((l.getD k (0, 0, 0, 0, 0, 0, 0)).2.2.2.1), ((l.getD k (0, 0, 0, 0, 0, 0, 0)).2.2.2.2.1), ((l.getD k (0, 0, 0, 0, 0, 0, 0)).2.2.2.2.2.1), ((l.getD k (0, 0, 0, 0, 0, 0, 0)).2.2.2.2.2.2))).2)]) (by kernel_rfl) rfl (by kernel_rfl) ?_
              refine x_val (.agg #[.int .i64 nx2, .int .i64 ((l.getD k (0, 0, 0, 0, 0, 0, 0)).2.2.2.1), .int .i64 ((l.getD k (0, 0, 0, 0, 0, 0, 0)).2.2.2.2.1), .int .i64 ((l.getD k (0, 0, 0, 0, 0, 0, 0)).2.2.2.2.2.1), .int .i64 ((l.getD k (0, 0, 0, 0, 0, 0, 0)).2.2.2.2.2.2)]) (by kernel_rfl) rfl (by kernel_rfl) ?_
              refine x_val (.bool ((addS room xs2 (nx2, ((l.getD k (0, 0, 0, 0, 0, 0, 0)).2.2.2.1), ((l.getD k (0, 0, 0, 0, 0, 0, 0)).2.2.2.2.1), ((l.getD k (0, 0, 0, 0, 0, 0, 0)).2.2.2.2.2.1), ((l.getD k (0, 0, 0, 0, 0, 0, 0)).2.2.2.2.2.2))).2)) (by kernel_rfl) rfl (by kernel_rfl) ?_
              refine x_box H #[.int .i64 0, .int .i64 0, .int .i64 0, .int .i64 0, .int .i64 0] 29 (by kernel_rfl) rfl (by kernel_rfl) ?_
              clear H
              intro v30 g7 H
              refine x_store (t := 29) (v := .agg #[.int .i64 nx2, .int .i64 ((l.getD k (0, 0, 0, 0, 0, 0, 0)).2.2.2.1), .int .i64 ((l.getD k (0, 0, 0, 0, 0, 0, 0)).2.2.2.2.1), .int .i64 ((l.getD k (0, 0, 0, 0, 0, 0, 0)).2.2.2.2.2.1), .int .i64 ((l.getD k (0, 0, 0, 0, 0, 0, 0)).2.2.2.2.2.2)]) H 0 g7 0 #[.int .i64 0, .int .i64 0, .int .i64 0, .int .i64 0, .int .i64 0] #[.int .i64 nx2, .int .i64 ((l.getD k (0, 0, 0, 0, 0, 0, 0)).2.2.2.1), .int .i64 ((l.getD k (0, 0, 0, 0, 0, 0, 0)).2.2.2.2.1), .int .i64 ((l.getD k (0, 0, 0, 0, 0, 0, 0)).2.2.2.2.2.1), .int .i64 ((l.getD k (0, 0, 0, 0, 0, 0, 0)).2.2.2.2.2.2)] 29 [.int .i64 nx2, .int .i64 ((l.getD k (0, 0, 0, 0, 0, 0, 0)).2.2.2.1), .int .i64 ((l.getD k (0, 0, 0, 0, 0, 0, 0)).2.2.2.2.1), .int .i64 ((l.getD k (0, 0, 0, 0, 0, 0, 0)).2.2.2.2.2.1), .int .i64 ((l.getD k (0, 0, 0, 0, 0, 0, 0)).2.2.2.2.2.2)] [.blk g7 #[.int .i64 nx2, .int .i64 ((l.getD k (0, 0, 0, 0, 0, 0, 0)).2.2.2.1), .int .i64 ((l.getD k (0, 0, 0, 0, 0, 0, 0)).2.2.2.2.1), .int .i64 ((l.getD k (0, 0, 0, 0, 0, 0, 0)).2.2.2.2.2.1), .int .i64 ((l.getD k (0, 0, 0, 0, 0, 0, 0)).2.2.2.2.2.2)] 29, .blk p #[sva, .int .i64 ((room : Nat) : Int), .int .i64 (nx2 + 1), .bool (lo2 || !(decide (List.length xs2 < room)))] 80, .row (sva) 29 5 (List.length ((addS room xs2 (nx2, ((l.getD k (0, 0, 0, 0, 0, 0, 0)).2.2.2.1), ((l.getD k (0, 0, 0, 0, 0, 0, 0)).2.2.2.2.1), ((l.getD k (0, 0, 0, 0, 0, 0, 0)).2.2.2.2.2.1), ((l.getD k (0, 0, 0, 0, 0, 0, 0)).2.2.2.2.2.2))).1)) (List.flatMap recL ((addS room xs2 (nx2, ((l.getD k (0, 0, 0, 0, 0, 0, 0)).2.2.2.1), ((l.getD k (0, 0, 0, 0, 0, 0, 0)).2.2.2.2.1), ((l.getD k (0, 0, 0, 0, 0, 0, 0)).2.2.2.2.2.1), ((l.getD k (0, 0, 0, 0, 0, 0, 0)).2.2.2.2.2.2))).1)), .blk g6 #[xva, .int .i64 ((room : Nat) : Int), .int .i64 (nx2 + 1), .bool (lo2 || !(decide (List.length xs2 < room)))] 41, .row (xva) 46 5 (List.length (addS room xs2 (nx2, ((l.getD k (0, 0, 0, 0, 0, 0, 0)).2.2.2.1), ((l.getD k (0, 0, 0, 0, 0, 0, 0)).2.2.2.2.1), ((l.getD k (0, 0, 0, 0, 0, 0, 0)).2.2.2.2.2.1), ((l.getD k (0, 0, 0, 0, 0, 0, 0)).2.2.2.2.2.2))).1) (List.flatMap recL ((addS room xs2 (nx2, ((l.getD k (0, 0, 0, 0, 0, 0, 0)).2.2.2.1), ((l.getD k (0, 0, 0, 0, 0, 0, 0)).2.2.2.2.1), ((l.getD k (0, 0, 0, 0, 0, 0, 0)).2.2.2.2.2.1), ((l.getD k (0, 0, 0, 0, 0, 0, 0)).2.2.2.2.2.2))).1)), .blk g5 #[.int .i64 nx2, .int .i64 ((l.getD k (0, 0, 0, 0, 0, 0, 0)).2.2.2.1), .int .i64 ((l.getD k (0, 0, 0, 0, 0, 0, 0)).2.2.2.2.1), .int .i64 ((l.getD k (0, 0, 0, 0, 0, 0, 0)).2.2.2.2.2.1), .int .i64 ((l.getD k (0, 0, 0, 0, 0, 0, 0)).2.2.2.2.2.2)] 29, .blk g2 #[xva, .int .i64 ((room : Nat) : Int), .int .i64 (nx2 + 1), .bool (lo2 || !(decide (List.length xs2 < room)))] 41, .blk g4 #[.int .i64 ((l.getD k (0, 0, 0, 0, 0, 0, 0)).1), .int .i64 ((l.getD k (0, 0, 0, 0, 0, 0, 0)).2.1), .int .i64 ((l.getD k (0, 0, 0, 0, 0, 0, 0)).2.2.1), .int .i64 ((l.getD k (0, 0, 0, 0, 0, 0, 0)).2.2.2.1), .int .i64 ((l.getD k (0, 0, 0, 0, 0, 0, 0)).2.2.2.2.1), .int .i64 ((l.getD k (0, 0, 0, 0, 0, 0, 0)).2.2.2.2.2.1), .int .i64 ((l.getD k (0, 0, 0, 0, 0, 0, 0)).2.2.2.2.2.2)] 43, .blk g1 #[.int .i64 stop] 3] (by kernel_rfl) rfl (by kernel_rfl) (by kernel_rfl) (by kernel_rfl) (by kernel_rfl) (by kernel_rfl) (by kernel_rfl) (by kernel_rfl) (by kernel_rfl) ?_
              clear H
              intro v31 H
              refine x_val (.bool ((addS room xs2 (nx2, ((l.getD k (0, 0, 0, 0, 0, 0, 0)).2.2.2.1), ((l.getD k (0, 0, 0, 0, 0, 0, 0)).2.2.2.2.1), ((l.getD k (0, 0, 0, 0, 0, 0, 0)).2.2.2.2.2.1), ((l.getD k (0, 0, 0, 0, 0, 0, 0)).2.2.2.2.2.2))).2)) (by kernel_rfl) rfl (by kernel_rfl) ?_
              refine x_nil ?_
              refine x_frame' { tmps := #[.int .i64 ((room : Nat) : Int), .slice ad nA cA, .int .i64 stop, undef, undef, .pointer (some ⟨g1, 0, none⟩), (uf2 0), .pointer (some ⟨p, 0, none⟩), .int .i64 0, .pointer (some ⟨g2, 0, none⟩), undef, .pointer (some ⟨g4, 0, none⟩), .int .i64 1, .pointer (some ⟨g5, 0, none⟩), .pointer (some ⟨g6, 0, none⟩), .bool ((addS room xs2 (nx2, ((l.getD k (0, 0, 0, 0, 0, 0, 0)).2.2.2.1), ((l.getD k (0, 0, 0, 0, 0, 0, 0)).2.2.2.2.1), ((l.getD k (0, 0, 0, 0, 0, 0, 0)).2.2.2.2.2.1), ((l.getD k (0, 0, 0, 0, 0, 0, 0)).2.2.2.2.2.2))).2), .pointer (some ⟨g7, 0, none⟩), .bool ((addS room xs2 (nx2, ((l.getD k (0, 0, 0, 0, 0, 0, 0)).2.2.2.1), ((l.getD k (0, 0, 0, 0, 0, 0, 0)).2.2.2.2.1), ((l.getD k (0, 0, 0, 0, 0, 0, 0)).2.2.2.2.2.1), ((l.getD k (0, 0, 0, 0, 0, 0, 0)).2.2.2.2.2.2))).2), undef, .bool true, .bool false, .tuple #[.pointer (some ⟨p, 0, none⟩), .int .i64 0], .int .i64 ((room : Nat) : Int), .tuple #[.pointer (some ⟨p, 0, none⟩), .int .i64 0], .pointer (some ⟨p, 0, none⟩), .int .i64 0, .int .i64 ((room : Nat) : Int), .bool false, .bool false, .int .i64 ((room : Nat) : Int), .bool false, .bool false, undef, undef, undef, undef, undef, undef, .int .i64 0, .bool false, .bool false, .pointer (some ⟨p, 0, none⟩), .bool false, .bool false, .slice ad nA cA, .int .i64 ((nA : Nat) : Int), .bool false, .int .i64 ((room : Nat) : Int), .agg #[.slice none 0 0, .int .i64 ((room : Nat) : Int), .int .i64 1, .bool false], .slice ad nA cA, .int .i64 ((nA : Nat) : Int), .int .i64 ((k : Nat) : Int), .bool true, .pointer (some ⟨ga, oa + k * 7, none⟩), .agg #[.int .i64 ((l.getD k (0, 0, 0, 0, 0, 0, 0)).1), .int .i64 ((l.getD k (0, 0, 0, 0, 0, 0, 0)).2.1), .int .i64 ((l.getD k (0, 0, 0, 0, 0, 0, 0)).2.2.1), .int .i64 ((l.getD k (0, 0, 0, 0, 0, 0, 0)).2.2.2.1), .int .i64 ((l.getD k (0, 0, 0, 0, 0, 0, 0)).2.2.2.2.1), .int .i64 ((l.getD k (0, 0, 0, 0, 0, 0, 0)).2.2.2.2.2.1), .int .i64 ((l.getD k (0, 0, 0, 0, 0, 0, 0)).2.2.2.2.2.2)], .pointer (some ⟨g4, 0, none⟩), .int .i64 ((l.getD k (0, 0, 0, 0, 0, 0, 0)).1), .bool false, (uf1 14), (uf1 15), (uf1 16), (uf1 17), .pointer (some ⟨g4, 0, none⟩), .int .i64 ((l.getD k (0, 0, 0, 0, 0, 0, 0)).1), .bool false, (uf1 21), (uf1 22), (uf1 23), (uf1 24), (uf1 25), (uf1 26), (uf1 27), (uf1 28), .int .i64 1, .int .i64 ((j : Nat) : Int), .bool true, .pointer (some ⟨g4, 0, none⟩), .int .i64 ((l.getD k (0, 0, 0, 0, 0, 0, 0)).1), .bool false, .bool false, undef, undef, undef, .bool false, .pointer (some ⟨g4, 2, none⟩), .agg #[.int .i64 ((l.getD k (0, 0, 0, 0, 0, 0, 0)).2.2.1), .int .i64 ((l.getD k (0, 0, 0, 0, 0, 0, 0)).2.2.2.1), .int .i64 ((l.getD k (0, 0, 0, 0, 0, 0, 0)).2.2.2.2.1), .int .i64 ((l.getD k (0, 0, 0, 0, 0, 0, 0)).2.2.2.2.2.1), .int .i64 ((l.getD k (0, 0, 0, 0, 0, 0, 0)).2.2.2.2.2.2)], .pointer (some ⟨g2, 2, none⟩), .int .i64 nx2, .pointer (some ⟨g5, 0, none⟩), .tuple #[.agg #[xva, .int .i64 ((room : Nat) : Int), .int .i64 (nx2 + 1), .bool (lo2 || !(decide (List.length xs2 < room)))], .bool ((addS room xs2 (nx2, ((l.getD k (0, 0, 0, 0, 0, 0, 0)).2.2.2.1), ((l.getD k (0, 0, 0, 0, 0, 0, 0)).2.2.2.2.1), ((l.getD k (0, 0, 0, 0, 0, 0, 0)).2.2.2.2.2.1), ((l.getD k (0, 0, 0, 0, 0, 0, 0)).2.2.2.2.2.2))).2)], .agg #[xv2, .int .i64 ((room : Nat) : Int), .int .i64 nx2, .bool lo2], .pointer (some ⟨g4, 2, none⟩), .agg #[.int .i64 ((l.getD k (0, 0, 0, 0, 0, 0, 0)).2.2.1), .int .i64 ((l.getD k (0, 0, 0, 0, 0, 0, 0)).2.2.2.1), .int .i64 ((l.getD k (0, 0, 0, 0, 0, 0, 0)).2.2.2.2.1), .int .i64 ((l.getD k (0, 0, 0, 0, 0, 0, 0)).2.2.2.2.2.1), .int .i64 ((l.getD k (0, 0, 0, 0, 0, 0, 0)).2.2.2.2.2.2)], .tuple #[.agg #[xva, .int .i64 ((room : Nat) : Int), .int .i64 (nx2 + 1), .bool (lo2 || !(decide (List.length xs2 < room)))], .bool ((addS room xs2 (nx2, ((l.getD k (0, 0, 0, 0, 0, 0, 0)).2.2.2.1), ((l.getD k (0, 0, 0, 0, 0, 0, 0)).2.2.2.2.1), ((l.getD k (0, 0, 0, 0, 0, 0, 0)).2.2.2.2.2.1), ((l.getD k (0, 0, 0, 0, 0, 0, 0)).2.2.2.2.2.2))).2)], .agg #[xva, .int .i64 ((room : Nat) : Int), .int .i64 (nx2 + 1), .bool (lo2 || !(decide (List.length xs2 < room)))], .bool ((addS room xs2 (nx2, ((l.getD k (0, 0, 0, 0, 0, 0, 0)).2.2.2.1), ((l.getD k (0, 0, 0, 0, 0, 0, 0)).2.2.2.2.1), ((l.getD k (0, 0, 0, 0, 0, 0, 0)).2.2.2.2.2.1), ((l.getD k (0, 0, 0, 0, 0, 0, 0)).2.2.2.2.2.2))).2), .agg #[xva, .int .i64 ((room : Nat) : Int), .int .i64 (nx2 + 1), .bool (lo2 || !(decide (List.length xs2 < room)))], .tuple #[.agg #[.int .i64 nx2, .int .i64 ((l.getD k (0, 0, 0, 0, 0, 0, 0)).2.2.2.1), .int .i64 ((l.getD k (0, 0, 0, 0, 0, 0, 0)).2.2.2.2.1), .int .i64 ((l.getD k (0, 0, 0, 0, 0, 0, 0)).2.2.2.2.2.1), .int .i64 ((l.getD k (0, 0, 0, 0, 0, 0, 0)).2.2.2.2.2.2)], .bool ((addS room xs2 (nx2, ((l.getD k (0, 0, 0, 0, 0, 0, 0)).2.2.2.1), ((l.getD k (0, 0, 0, 0, 0, 0, 0)).2.2.2.2.1), ((l.getD k (0, 0, 0, 0, 0, 0, 0)).2.2.2.2.2.1), ((l.getD k (0, 0, 0, 0, 0, 0, 0)).2.2.2.2.2.2))).2)], .pointer (some ⟨p, 0, none⟩), .pointer (some ⟨g4, 2, none⟩), .agg #[.int .i64 ((l.getD k (0, 0, 0, 0, 0, 0, 0)).2.2.1), .int .i64 ((l.getD k (0, 0, 0, 0, 0, 0, 0)).2.2.2.1), .int .i64 ((l.getD k (0, 0, 0, 0, 0, 0, 0)).2.2.2.2.1), .int .i64 ((l.getD k (0, 0, 0, 0, 0, 0, 0)).2.2.2.2.2.1), .int .i64 ((l.getD k (0, 0, 0, 0, 0, 0, 0)).2.2.2.2.2.2)], .tuple #[.agg #[.int .i64 nx2, .int .i64 ((l.getD k (0, 0, 0, 0, 0, 0, 0)).2.2.2.1), .int .i64 ((l.getD k (0, 0, 0, 0, 0, 0, 0)).2.2.2.2.1), .int .i64 ((l.getD k (0, 0, 0, 0, 0, 0, 0)).2.2.2.2.2.1), .int .i64 ((l.getD k (0, 0, 0, 0, 0, 0, 0)).2.2.2.2.2.2)], .bool ((addS room xs2 (nx2, ((l.getD k (0, 0, 0, 0, 0, 0, 0)).2.2.2.1), ((l.getD k (0, 0, 0, 0, 0, 0, 0)).2.2.2.2.1), ((l.getD k (0, 0, 0, 0, 0, 0, 0)).2.2.2.2.2.1), ((l.getD k (0, 0, 0, 0, 0, 0, 0)).2.2.2.2.2.2))).2)], .agg #[.int .i64 nx2, .int .i64 ((l.getD k (0, 0, 0, 0, 0, 0, 0)).2.2.2.1), .int .i64 ((l.getD k (0, 0, 0, 0, 0, 0, 0)).2.2.2.2.1), .int .i64 ((l.getD k (0, 0, 0, 0, 0, 0, 0)).2.2.2.2.2.1), .int .i64 ((l.getD k (0, 0, 0, 0, 0, 0, 0)).2.2.2.2.2.2)], .bool ((addS room xs2 (nx2, ((l.getD k (0, 0, 0, 0, 0, 0, 0)).2.2.2.1), ((l.getD k (0, 0, 0, 0, 0, 0, 0)).2.2.2.2.1), ((l.getD k (0, 0, 0, 0, 0, 0, 0)).2.2.2.2.2.1), ((l.getD k (0, 0, 0, 0, 0, 0, 0)).2.2.2.2.2.2))).2), (uf2 35), (uf2 36), (uf2 37), (uf2 38), (uf2 39), (uf2 40), (uf2 41), (uf2 42), (uf2 43), (uf1 69), (uf1 70), (uf1 71), (uf1 72), (uf1 73), undef, undef, undef, undef, undef, undef, undef, undef, undef, undef, undef, undef, undef, undef, undef, undef, undef, undef, undef, undef, undef, undef, undef, undef, undef], defers := [] } (by kernel_rfl) ?_
              refine x_then ?_
              refine x_seq ?_
              refine x_region ?_
              refine x_loadn (t := 29) H 0 g7 0 #[.int .i64 nx2, .int .i64 ((l.getD k (0, 0, 0, 0, 0, 0, 0)).2.2.2.1), .int .i64 ((l.getD k (0, 0, 0, 0, 0, 0, 0)).2.2.2.2.1), .int .i64 ((l.getD k (0, 0, 0, 0, 0, 0, 0)).2.2.2.2.2.1), .int .i64 ((l.getD k (0, 0, 0, 0, 0, 0, 0)).2.2.2.2.2.2)] 29 [.int .i64 nx2, .int .i64 ((l.getD k (0, 0, 0, 0, 0, 0, 0)).2.2.2.1), .int .i64 ((l.getD k (0, 0, 0, 0, 0, 0, 0)).2.2.2.2.1), .int .i64 ((l.getD k (0, 0, 0, 0, 0, 0, 0)).2.2.2.2.2.1), .int .i64 ((l.getD k (0, 0, 0, 0, 0, 0, 0)).2.2.2.2.2.2)] (by kernel_rfl) (by kernel_rfl) (by kernel_rfl) rfl (by kernel_rfl) (by kernel_rfl) ?_
              refine x_loadn (t := 29) H 5 g5 0 #[.int .i64 nx2, .int .i64 ((l.getD k (0, 0, 0, 0, 0, 0, 0)).2.2.2.1), .int .i64 ((l.getD k (0, 0, 0, 0, 0, 0, 0)).2.2.2.2.1), .int .i64 ((l.getD k (0, 0, 0, 0, 0, 0, 0)).2.2.2.2.2.1), .int .i64 ((l.getD k (0, 0, 0, 0, 0, 0, 0)).2.2.2.2.2.2)] 29 [.int .i64 nx2, .int .i64 ((l.getD k (0, 0, 0, 0, 0, 0, 0)).2.2.2.1), .int .i64 ((l.getD k (0, 0, 0, 0, 0, 0, 0)).2.2.2.2.1), .int .i64 ((l.getD k (0, 0, 0, 0, 0, 0, 0)).2.2.2.2.2.1), .int .i64 ((l.getD k (0, 0, 0, 0, 0, 0, 0)).2.2.2.2.2.2)] (by kernel_rfl) (by kernel_rfl) (by kernel_rfl) rfl (by kernel_rfl) (by kernel_rfl) ?_
              have h14 : (decide ((nx2 : Int) = nx2) && (decide ((((l.getD k (0, 0, 0, 0, 0, 0, 0)).2.2.2.1) : Int) = ((l.getD k (0, 0, 0, 0, 0, 0, 0)).2.2.2.1)) && (decide ((((l.getD k (0, 0, 0, 0, 0, 0, 0)).2.2.2.2.1) : Int) = ((l.getD k (0, 0, 0, 0, 0, 0, 0)).2.2.2.2.1)) && (decide ((((l.getD k (0, 0, 0, 0, 0, 0, 0)).2.2.2.2.2.1) : Int) = ((l.getD k (0, 0, 0, 0, 0, 0, 0)).2.2.2.2.2.1)) && (decide ((((l.getD k (0, 0, 0, 0, 0, 0, 0)).2.2.2.2.2.2) : Int) = ((l.getD k (0, 0, 0, 0, 0, 0, 0)).2.2.2.2.2.2)) && true))))) = true := by simp
              refine x_val (.bool false) (by kernel_rfl) rfl ((run_neS (t := 29) (x := .tmp 104) (y := .tmp 105) (xs := #[.int .i64 nx2, .int .i64 ((l.getD k (0, 0, 0, 0, 0, 0, 0)).2.2.2.1), .int .i64 ((l.getD k (0, 0, 0, 0, 0, 0, 0)).2.2.2.2.1), .int .i64 ((l.getD k (0, 0, 0, 0, 0, 0, 0)).2.2.2.2.2.1), .int .i64 ((l.getD k (0, 0, 0, 0, 0, 0, 0)).2.2.2.2.2.2)]) (ys := #[.int .i64 nx2, .int .i64 ((l.getD k (0, 0, 0, 0, 0, 0, 0)).2.2.2.1), .int .i64 ((l.getD k (0, 0, 0, 0, 0, 0, 0)).2.2.2.2.1), .int .i64 ((l.getD k (0, 0, 0, 0, 0, 0, 0)).2.2.2.2.2.1), .int .i64 ((l.getD k (0, 0, 0, 0, 0, 0, 0)).2.2.2.2.2.2)]) (B := decide ((nx2 : Int) = nx2) && (decide ((((l.getD k (0, 0, 0, 0, 0, 0, 0)).2.2.2.1) : Int) = ((l.getD k (0, 0, 0, 0, 0, 0, 0)).2.2.2.1)) && (decide ((((l.getD k (0, 0, 0, 0, 0, 0, 0)).2.2.2.2.1) : Int) = ((l.getD k (0, 0, 0, 0, 0, 0, 0)).2.2.2.2.1)) && (decide ((((l.getD k (0, 0, 0, 0, 0, 0, 0)).2.2.2.2.2.1) : Int) = ((l.getD k (0, 0, 0, 0, 0, 0, 0)).2.2.2.2.2.1)) && (decide ((((l.getD k (0, 0, 0, 0, 0, 0, 0)).2.2.2.2.2.2) : Int) = ((l.getD k (0, 0, 0, 0, 0, 0, 0)).2.2.2.2.2.2)) && true))))) (by kernel_rfl) (by kernel_rfl) (by kernel_rfl)).trans (by rw [h14]; rfl)) ?_
              refine x_val (.bool false) (by kernel_rfl) rfl (by kernel_rfl) ?_
              refine x_val (.bool ((addS room xs2 (nx2, ((l.getD k (0, 0, 0, 0, 0, 0, 0)).2.2.2.1), ((l.getD k (0, 0, 0, 0, 0, 0, 0)).2.2.2.2.1), ((l.getD k (0, 0, 0, 0, 0, 0, 0)).2.2.2.2.2.1), ((l.getD k (0, 0, 0, 0, 0, 0, 0)).2.2.2.2.2.2))).2)) (by kernel_rfl) rfl (by kernel_rfl) ?_
              refine x_val (.bool ((addS room xs2 (nx2, ((l.getD k (0, 0, 0, 0, 0, 0, 0)).2.2.2.1), ((l.getD k (0, 0, 0, 0, 0, 0, 0)).2.2.2.2.1), ((l.getD k (0, 0, 0, 0, 0, 0, 0)).2.2.2.2.2.1), ((l.getD k (0, 0, 0, 0, 0, 0, 0)).2.2.2.2.2.2))).2)) (by kernel_rfl) rfl (by kernel_rfl) ?_
              refine x_eq (.bool false) (show Value.bool (((addS room xs2 (nx2, ((l.getD k (0, 0, 0, 0, 0, 0, 0)).2.2.2.1), ((l.getD k (0, 0, 0, 0, 0, 0, 0)).2.2.2.2.1), ((l.getD k (0, 0, 0, 0, 0, 0, 0)).2.2.2.2.2.1), ((l.getD k (0, 0, 0, 0, 0, 0, 0)).2.2.2.2.2.2))).2) != ((addS room xs2 (nx2, ((l.getD k (0, 0, 0, 0, 0, 0, 0)).2.2.2.1), ((l.getD k (0, 0, 0, 0, 0, 0, 0)).2.2.2.2.1), ((l.getD k (0, 0, 0, 0, 0, 0, 0)).2.2.2.2.2.1), ((l.getD k (0, 0, 0, 0, 0, 0, 0)).2.2.2.2.2.2))).2)) = Value.bool false by simp) (by kernel_rfl) rfl (by kernel_rfl) ?_
              refine x_val (.bool false) (by kernel_rfl) rfl (by kernel_rfl) ?_
              refine x_nil ?_
              refine x_then ?_
              refine x_f (by kernel_rfl) ?_
              refine x_skipc ?_
              refine x_blk ?_
              refine x_then ?_
              refine x_region ?_
              refine x_ar (((j : Nat) : Int) + 1) ⟨by omega, by omega⟩ (by kernel_rfl) rfl (by kernel_rfl) ?_
              refine x_val (.int .i64 (((j : Nat) : Int) + 1)) (by kernel_rfl) rfl (by kernel_rfl) ?_
              refine x_nil ?_
              refine x_then ?_
              replace H := H.pick [1, 2, 6, 4, 7, 8] [.blk p #[sva, .int .i64 ((room : Nat) : Int), .int .i64 (nx2 + 1), .bool (lo2 || !(decide (List.length xs2 < room)))] 80, .row (sva) 29 5 (List.length ((addS room xs2 (nx2, ((l.getD k (0, 0, 0, 0, 0, 0, 0)).2.2.2.1), ((l.getD k (0, 0, 0, 0, 0, 0, 0)).2.2.2.2.1), ((l.getD k (0, 0, 0, 0, 0, 0, 0)).2.2.2.2.2.1), ((l.getD k (0, 0, 0, 0, 0, 0, 0)).2.2.2.2.2.2))).1)) (List.flatMap recL ((addS room xs2 (nx2, ((l.getD k (0, 0, 0, 0, 0, 0, 0)).2.2.2.1), ((l.getD k (0, 0, 0, 0, 0, 0, 0)).2.2.2.2.1), ((l.getD k (0, 0, 0, 0, 0, 0, 0)).2.2.2.2.2.1), ((l.getD k (0, 0, 0, 0, 0, 0, 0)).2.2.2.2.2.2))).1)), .blk g2 #[xva, .int .i64 ((room : Nat) : Int), .int .i64 (nx2 + 1), .bool (lo2 || !(decide (List.length xs2 < room)))] 41, .row (xva) 46 5 (List.length (addS room xs2 (nx2, ((l.getD k (0, 0, 0, 0, 0, 0, 0)).2.2.2.1), ((l.getD k (0, 0, 0, 0, 0, 0, 0)).2.2.2.2.1), ((l.getD k (0, 0, 0, 0, 0, 0, 0)).2.2.2.2.2.1), ((l.getD k (0, 0, 0, 0, 0, 0, 0)).2.2.2.2.2.2))).1) (List.flatMap recL ((addS room xs2 (nx2, ((l.getD k (0, 0, 0, 0, 0, 0, 0)).2.2.2.1), ((l.getD k (0, 0, 0, 0, 0, 0, 0)).2.2.2.2.1), ((l.getD k (0, 0, 0, 0, 0, 0, 0)).2.2.2.2.2.1), ((l.getD k (0, 0, 0, 0, 0, 0, 0)).2.2.2.2.2.2))).1)), .blk g4 #[.int .i64 ((l.getD k (0, 0, 0, 0, 0, 0, 0)).1), .int .i64 ((l.getD k (0, 0, 0, 0, 0, 0, 0)).2.1), .int .i64 ((l.getD k (0, 0, 0, 0, 0, 0, 0)).2.2.1), .int .i64 ((l.getD k (0, 0, 0, 0, 0, 0, 0)).2.2.2.1), .int .i64 ((l.getD k (0, 0, 0, 0, 0, 0, 0)).2.2.2.2.1), .int .i64 ((l.getD k (0, 0, 0, 0, 0, 0, 0)).2.2.2.2.2.1), .int .i64 ((l.getD k (0, 0, 0, 0, 0, 0, 0)).2.2.2.2.2.2)] 43, .blk g1 #[.int .i64 stop] 3] (by decide) (by kernel_rfl)
              exact ⟨(j + 1, sva, xva, ((addS room xs2 (nx2, ((l.getD k (0, 0, 0, 0, 0, 0, 0)).2.2.2.1), ((l.getD k (0, 0, 0, 0, 0, 0, 0)).2.2.2.2.1), ((l.getD k (0, 0, 0, 0, 0, 0, 0)).2.2.2.2.2.1), ((l.getD k (0, 0, 0, 0, 0, 0, 0)).2.2.2.2.2.2))).1), (nx2 + 1), (lo2 || !(decide (List.length xs2 < room)))), (by dsimp only; omega), (nthV [(uf2 0), .pointer (some ⟨g5, 0, none⟩), .pointer (some ⟨g6, 0, none⟩), .bool ((addS room xs2 (nx2, ((l.getD k (0, 0, 0, 0, 0, 0, 0)).2.2.2.1), ((l.getD k (0, 0, 0, 0, 0, 0, 0)).2.2.2.2.1), ((l.getD k (0, 0, 0, 0, 0, 0, 0)).2.2.2.2.2.1), ((l.getD k (0, 0, 0, 0, 0, 0, 0)).2.2.2.2.2.2))).2), .pointer (some ⟨g7, 0, none⟩), .bool ((addS room xs2 (nx2, ((l.getD k (0, 0, 0, 0, 0, 0, 0)).2.2.2.1), ((l.getD k (0, 0, 0, 0, 0, 0, 0)).2.2.2.2.1), ((l.getD k (0, 0, 0, 0, 0, 0, 0)).2.2.2.2.2.1), ((l.getD k (0, 0, 0, 0, 0, 0, 0)).2.2.2.2.2.2))).2), .bool true, .pointer (some ⟨g4, 0, none⟩), .int .i64 ((l.getD k (0, 0, 0, 0, 0, 0, 0)).1), .bool false, .bool false, undef, undef, undef, .bool false, .pointer (some ⟨g4, 2, none⟩), .agg #[.int .i64 ((l.getD k (0, 0, 0, 0, 0, 0, 0)).2.2.1), .int .i64 ((l.getD k (0, 0, 0, 0, 0, 0, 0)).2.2.2.1), .int .i64 ((l.getD k (0, 0, 0, 0, 0, 0, 0)).2.2.2.2.1), .int .i64 ((l.getD k (0, 0, 0, 0, 0, 0, 0)).2.2.2.2.2.1), .int .i64 ((l.getD k (0, 0, 0, 0, 0, 0, 0)).2.2.2.2.2.2)], .pointer (some ⟨g2, 2, none⟩), .int .i64 nx2, .pointer (some ⟨g5, 0, none⟩), .tuple #[.agg #[xva, .int .i64 ((room : Nat) : Int), .int .i64 (nx2 + 1), .bool (lo2 || !(decide (List.length xs2 < room)))], .bool ((addS room xs2 (nx2, ((l.getD k (0, 0, 0, 0, 0, 0, 0)).2.2.2.1), ((l.getD k (0, 0, 0, 0, 0, 0, 0)).2.2.2.2.1), ((l.getD k (0, 0, 0, 0, 0, 0, 0)).2.2.2.2.2.1), ((l.getD k (0, 0, 0, 0, 0, 0, 0)).2.2.2.2.2.2))).2)], .agg #[xv2, .int .i64 ((room : Nat) : Int), .int .i64 nx2, .bool lo2], .pointer (some ⟨g4, 2, none⟩), .agg #[.int .i64 ((l.getD k (0, 0, 0, 0, 0, 0, 0)).2.2.1), .int .i64 ((l.getD k (0, 0, 0, 0, 0, 0, 0)).2.2.2.1), .int .i64 ((l.getD k (0, 0, 0, 0, 0, 0, 0)).2.2.2.2.1), .int .i64 ((l.getD k (0, 0, 0, 0, 0, 0, 0)).2.2.2.2.2.1), .int .i64 ((l.getD k (0, 0, 0, 0, 0, 0, 0)).2.2.2.2.2.2)], .tuple #[.agg #[xva, .int .i64 ((room : Nat) : Int), .int .i64 (nx2 + 1), .bool (lo2 || !(decide (List.length xs2 < room)))], .bool ((addS room xs2 (nx2, ((l.getD k (0, 0, 0, 0, 0, 0, 0)).2.2.2.1), ((l.getD k (0, 0, 0, 0, 0, 0, 0)).2.2.2.2.1), ((l.getD k (0, 0, 0, 0, 0, 0, 0)).2.2.2.2.2.1), ((l.getD k (0, 0, 0, 0, 0, 0, 0)).2.2.2.2.2.2))).2)], .agg #[xva, .int .i64 ((room : Nat) : Int), .int .i64 (nx2 + 1), .bool (lo2 || !(decide (List.length xs2 < room)))], .bool ((addS room xs2 (nx2, ((l.getD k (0, 0, 0, 0, 0, 0, 0)).2.2.2.1), ((l.getD k (0, 0, 0, 0, 0, 0, 0)).2.2.2.2.1), ((l.getD k (0, 0, 0, 0, 0, 0, 0)).2.2.2.2.2.1), ((l.getD k (0, 0, 0, 0, 0, 0, 0)).2.2.2.2.2.2))).2), .agg #[xva, .int .i64 ((room : Nat) : Int), .int .i64 (nx2 + 1), .bool (lo2 || !(decide (List.length xs2 < room)))], .tuple #[.agg #[.int .i64 nx2, .int .i64 ((l.getD k (0, 0, 0, 0, 0, 0, 0)).2.2.2.1), .int .i64 ((l.getD k (0, 0, 0, 0, 0, 0, 0)).2.2.2.2.1), .int .i64 ((l.getD k (0, 0, 0, 0, 0, 0, 0)).2.2.2.2.2.1), .int .i64 ((l.getD k (0, 0, 0, 0, 0, 0, 0)).2.2.2.2.2.2)], .bool ((addS room xs2 (nx2, ((l.getD k (0, 0, 0, 0, 0, 0, 0)).2.2.2.1), ((l.getD k (0, 0, 0, 0, 0, 0, 0)).2.2.2.2.1), ((l.getD k (0, 0, 0, 0, 0, 0, 0)).2.2.2.2.2.1), ((l.getD k (0, 0, 0, 0, 0, 0, 0)).2.2.2.2.2.2))).2)], .pointer (some ⟨p, 0, none⟩), .pointer (some ⟨g4, 2, none⟩), .agg #[.int .i64 ((l.getD k (0, 0, 0, 0, 0, 0, 0)).2.2.1), .int .i64 ((l.getD k (0, 0, 0, 0, 0, 0, 0)).2.2.2.1), .int .i64 ((l.getD k (0, 0, 0, 0, 0, 0, 0)).2.2.2.2.1), .int .i64 ((l.getD k (0, 0, 0, 0, 0, 0, 0)).2.2.2.2.2.1), .int .i64 ((l.getD k (0, 0, 0, 0, 0, 0, 0)).2.2.2.2.2.2)], .tuple #[.agg #[.int .i64 nx2, .int .i64 ((l.getD k (0, 0, 0, 0, 0, 0, 0)).2.2.2.1), .int .i64 ((l.getD k (0, 0, 0, 0, 0, 0, 0)).2.2.2.2.1), .int .i64 ((l.getD k (0, 0, 0, 0, 0, 0, 0)).2.2.2.2.2.1), .int .i64 ((l.getD k (0, 0, 0, 0, 0, 0, 0)).2.2.2.2.2.2)], .bool ((addS room xs2 (nx2, ((l.getD k (0, 0, 0, 0, 0, 0, 0)).2.2.2.1), ((l.getD k (0, 0, 0, 0, 0, 0, 0)).2.2.2.2.1), ((l.getD k (0, 0, 0, 0, 0, 0, 0)).2.2.2.2.2.1), ((l.getD k (0, 0, 0, 0, 0, 0, 0)).2.2.2.2.2.2))).2)], .agg #[.int .i64 nx2, .int .i64 ((l.getD k (0, 0, 0, 0, 0, 0, 0)).2.2.2.1), .int .i64 ((l.getD k (0, 0, 0, 0, 0, 0, 0)).2.2.2.2.1), .int .i64 ((l.getD k (0, 0, 0, 0, 0, 0, 0)).2.2.2.2.2.1), .int .i64 ((l.getD k (0, 0, 0, 0, 0, 0, 0)).2.2.2.2.2.2)], .bool ((addS room xs2 (nx2, ((l.getD k (0, 0, 0, 0, 0, 0, 0)).2.2.2.1), ((l.getD k (0, 0, 0, 0, 0, 0, 0)).2.2.2.2.1), ((l.getD k (0, 0, 0, 0, 0, 0, 0)).2.2.2.2.2.1), ((l.getD k (0, 0, 0, 0, 0, 0, 0)).2.2.2.2.2.2))).2), .agg #[.int .i64 nx2, .int .i64 ((l.getD k (0, 0, 0, 0, 0, 0, 0)).2.2.2.1), .int .i64 ((l.getD k (0, 0, 0, 0, 0, 0, 0)).2.2.2.2.1), .int .i64 ((l.getD k (0, 0, 0, 0, 0, 0, 0)).2.2.2.2.2.1), .int .i64 ((l.getD k (0, 0, 0, 0, 0, 0, 0)).2.2.2.2.2.2)], .agg #[.int .i64 nx2, .int .i64 ((l.getD k (0, 0, 0, 0, 0, 0, 0)).2.2.2.1), .int .i64 ((l.getD k (0, 0, 0, 0, 0, 0, 0)).2.2.2.2.1), .int .i64 ((l.getD k (0, 0, 0, 0, 0, 0, 0)).2.2.2.2.2.1), .int .i64 ((l.getD k (0, 0, 0, 0, 0, 0, 0)).2.2.2.2.2.2)], .bool false, .bool false, .bool ((addS room xs2 (nx2, ((l.getD k (0, 0, 0, 0, 0, 0, 0)).2.2.2.1), ((l.getD k (0, 0, 0, 0, 0, 0, 0)).2.2.2.2.1), ((l.getD k (0, 0, 0, 0, 0, 0, 0)).2.2.2.2.2.1), ((l.getD k (0, 0, 0, 0, 0, 0, 0)).2.2.2.2.2.2))).2), .bool ((addS room xs2 (nx2, ((l.getD k (0, 0, 0, 0, 0, 0, 0)).2.2.2.1), ((l.getD k (0, 0, 0, 0, 0, 0, 0)).2.2.2.2.1), ((l.getD k (0, 0, 0, 0, 0, 0, 0)).2.2.2.2.2.1), ((l.getD k (0, 0, 0, 0, 0, 0, 0)).2.2.2.2.2.2))).2), .bool false, .bool false, .int .i64 (((j : Nat) : Int) + 1)]), (by kernel_rfl), H, (by omega), (addS_len _ _ _ (by omega)), (by omega)⟩
        · skip
          have h9p := of_decide_eq_true h9
          refine x_t (by kernel_rfl) ?_
          refine x_seq ?_
          refine x_seq ?_
          refine x_region_s 6 (fun w' => Hs [] w0 w' [.blk g4 #[.int .i64 ((l.getD k (0, 0, 0, 0, 0, 0, 0)).1), .int .i64 ((l.getD k (0, 0, 0, 0, 0, 0, 0)).2.1), .int .i64 ((l.getD k (0, 0, 0, 0, 0, 0, 0)).2.2.1), .int .i64 ((l.getD k (0, 0, 0, 0, 0, 0, 0)).2.2.2.1), .int .i64 ((l.getD k (0, 0, 0, 0, 0, 0, 0)).2.2.2.2.1), .int .i64 ((l.getD k (0, 0, 0, 0, 0, 0, 0)).2.2.2.2.2.1), .int .i64 ((l.getD k (0, 0, 0, 0, 0, 0, 0)).2.2.2.2.2.2)] 43, .blk g2 #[xv, .int .i64 ((room : Nat) : Int), .int .i64 nx, .bool lo] 41, .row (xv) 46 5 (List.length xs) (List.flatMap recL xs), .blk g1 #[.int .i64 stop] 3]) (fun w' => Hs [] w0 w' [.blk g4 #[.int .i64 ((l.getD k (0, 0, 0, 0, 0, 0, 0)).1), .int .i64 ((l.getD k (0, 0, 0, 0, 0, 0, 0)).2.1), .int .i64 ((l.getD k (0, 0, 0, 0, 0, 0, 0)).2.2.1), .int .i64 ((l.getD k (0, 0, 0, 0, 0, 0, 0)).2.2.2.1), .int .i64 ((l.getD k (0, 0, 0, 0, 0, 0, 0)).2.2.2.2.1), .int .i64 ((l.getD k (0, 0, 0, 0, 0, 0, 0)).2.2.2.2.2.1), .int .i64 ((l.getD k (0, 0, 0, 0, 0, 0, 0)).2.2.2.2.2.2)] 43, .blk p #[sv, .int .i64 ((room : Nat) : Int), .int .i64 nx, .bool lo] 80, .row (sv) 29 5 (List.length xs) (List.flatMap recL xs), .blk g2 #[xv, .int .i64 ((room : Nat) : Int), .int .i64 nx, .bool lo] 41, .row (xv) 46 5 (List.length xs) (List.flatMap recL xs), .blk g1 #[.int .i64 stop] 3]) (by kernel_rfl) (by kernel_rfl) (by kernel_rfl) hsShut (fun _ h => h.pick [0, 3, 4, 5] _ (by decide) (by kernel_rfl)) H.drew ?_
          refine s_quiet 0 rfl (by kernel_rfl) (y_val (.pointer (some ⟨p, 0, none⟩)) (by kernel_rfl) (fun _ => by kernel_rfl)) ?_
          refine s_quiet 2 rfl (by kernel_rfl) (y_val (.pointer (some ⟨g2, 0, none⟩)) (by kernel_rfl) (fun _ => by kernel_rfl)) ?_
          refine s_quiet 3 rfl (by kernel_rfl) (y_load1 1 g2 0 #[xv, .int .i64 ((room : Nat) : Int), .int .i64 nx, .bool lo] 41 (xv) (by kernel_rfl) (by kernel_rfl) (by kernel_rfl) (fun _ => by kernel_rfl)) ?_
          refine s_quiet 4 rfl (by kernel_rfl) (y_lenR 2 xv 39 46 5 (List.length xs) (List.flatMap recL xs) rfl (by kernel_rfl) (by kernel_rfl) (fun _ => by kernel_rfl)) ?_
          refine s_one 1 rfl (by kernel_rfl) rfl ?_
          clear H
          intro v32 H
          refine x_call (by kernel_rfl) rfl (by kernel_rfl) (Hs.useE (A := [.blk p #[sv, .int .i64 ((room : Nat) : Int), .int .i64 nx, .bool lo] 80, .row (sv) 29 5 (List.length xs) (List.flatMap recL xs)]) (R := [.blk g4 #[.int .i64 ((l.getD k (0, 0, 0, 0, 0, 0, 0)).1), .int .i64 ((l.getD k (0, 0, 0, 0, 0, 0, 0)).2.1), .int .i64 ((l.getD k (0, 0, 0, 0, 0, 0, 0)).2.2.1), .int .i64 ((l.getD k (0, 0, 0, 0, 0, 0, 0)).2.2.2.1), .int .i64 ((l.getD k (0, 0, 0, 0, 0, 0, 0)).2.2.2.2.1), .int .i64 ((l.getD k (0, 0, 0, 0, 0, 0, 0)).2.2.2.2.2.1), .int .i64 ((l.getD k (0, 0, 0, 0, 0, 0, 0)).2.2.2.2.2.2)] 43, .blk g2 #[xv, .int .i64 ((room : Nat) : Int), .int .i64 nx, .bool lo] 41, .row (xv) 46 5 (List.length xs) (List.flatMap recL xs), .blk g1 #[.int .i64 stop] 3]) (fun svc => [.blk p #[svc, .int .i64 ((room : Nat) : Int), .int .i64 nx, .bool false] 80, .row (svc) 29 5 (List.length ([] : List Rec)) (List.flatMap recL ([] : List Rec))]) (fun _ => .int .i64 (((List.length xs) : Nat) : Int)) (H.pick [1, 2, 0, 3, 4, 5] _ (by decide) (by kernel_rfl)) (fun h => Clear_ex _ h)) ?_
          rintro _ v33 ⟨svc, rfl, H'⟩
          refine ⟨_, rfl, ?_⟩
          clear H
          have H : Hs [] w0 _ [.blk p #[svc, .int .i64 ((room : Nat) : Int), .int .i64 nx, .bool false] 80, .row (svc) 29 5 (List.length ([] : List Rec)) (List.flatMap recL ([] : List Rec)), .blk g4 #[.int .i64 ((l.getD k (0, 0, 0, 0, 0, 0, 0)).1), .int .i64 ((l.getD k (0, 0, 0, 0, 0, 0, 0)).2.1), .int .i64 ((l.getD k (0, 0, 0, 0, 0, 0, 0)).2.2.1), .int .i64 ((l.getD k (0, 0, 0, 0, 0, 0, 0)).2.2.2.1), .int .i64 ((l.getD k (0, 0, 0, 0, 0, 0, 0)).2.2.2.2.1), .int .i64 ((l.getD k (0, 0, 0, 0, 0, 0, 0)).2.2.2.2.2.1), .int .i64 ((l.getD k (0, 0, 0, 0, 0, 0, 0)).2.2.2.2.2.2)] 43, .blk g2 #[xv, .int .i64 ((room : Nat) : Int), .int .i64 nx, .bool lo] 41, .row (xv) 46 5 (List.length xs) (List.flatMap recL xs), .blk g1 #[.int .i64 stop] 3] := H'
          clear H'
          refine x_nil ?_
          refine x_then ?_
          refine ⟨fun w' => Hs [] w0 w' [.blk p #[svc, .int .i64 ((room : Nat) : Int), .int .i64 nx, .bool false] 80, .row (svc) 29 5 (List.length ([] : List Rec)) (List.flatMap recL ([] : List Rec)), .blk g4 #[.int .i64 ((l.getD k (0, 0, 0, 0, 0, 0, 0)).1), .int .i64 ((l.getD k (0, 0, 0, 0, 0, 0, 0)).2.1), .int .i64 ((l.getD k (0, 0, 0, 0, 0, 0, 0)).2.2.1), .int .i64 ((l.getD k (0, 0, 0, 0, 0, 0, 0)).2.2.2.1), .int .i64 ((l.getD k (0, 0, 0, 0, 0, 0, 0)).2.2.2.2.1), .int .i64 ((l.getD k (0, 0, 0, 0, 0, 0, 0)).2.2.2.2.2.1), .int .i64 ((l.getD k (0, 0, 0, 0, 0, 0, 0)).2.2.2.2.2.2)] 43, .blk g2 #[xv, .int .i64 ((room : Nat) : Int), .int .i64 nx, .bool lo] 41, .row (xv) 46 5 (List.length xs) (List.flatMap recL xs), .blk g1 #[.int .i64 stop] 3], fun w' => Hs [] w0 w' [.blk p #[svc, .int .i64 ((room : Nat) : Int), .int .i64 nx, .bool false] 80, .row (svc) 29 5 (List.length ([] : List Rec)) (List.flatMap recL ([] : List Rec)), .blk g4 #[.int .i64 ((l.getD k (0, 0, 0, 0, 0, 0, 0)).1), .int .i64 ((l.getD k (0, 0, 0, 0, 0, 0, 0)).2.1), .int .i64 ((l.getD k (0, 0, 0, 0, 0, 0, 0)).2.2.1), .int .i64 ((l.getD k (0, 0, 0, 0, 0, 0, 0)).2.2.2.1), .int .i64 ((l.getD k (0, 0, 0, 0, 0, 0, 0)).2.2.2.2.1), .int .i64 ((l.getD k (0, 0, 0, 0, 0, 0, 0)).2.2.2.2.2.1), .int .i64 ((l.getD k (0, 0, 0, 0, 0, 0, 0)).2.2.2.2.2.2)] 43, .blk g2 #[xv, .int .i64 ((room : Nat) : Int), .int .i64 nx, .bool lo] 41, .row (xv) 46 5 (List.length xs) (List.flatMap recL xs), .blk g1 #[.int .i64 stop] 3], H, hsShut, fun _ h => h.pick [0, 1, 2, 3, 4, 5] _ (by decide) (by kernel_rfl), fun _ h => h.pick [2, 3, 4, 5] _ (by decide) (by kernel_rfl), ?_⟩
          refine s_quiet 5 rfl (by kernel_rfl) (y_eq (.bool false) (show Value.bool (!decide ((((List.length xs) : Nat) : Int) = (((List.length xs) : Nat) : Int))) = Value.bool false by simp) (by kernel_rfl) (fun _ => by kernel_rfl)) ?_
          refine s_done (by kernel_rfl) ?_
          clear H
          intro v34 H
          refine x_then ?_
          refine x_f (by kernel_rfl) ?_
          refine x_skipc ?_
          refine x_then ?_
          refine x_region ?_
          refine x_val (.pointer (some ⟨g2, 0, none⟩)) (by kernel_rfl) rfl (by kernel_rfl) ?_
          refine x_store (t := 39) (v := .slice none 0 0) H 3 g2 0 #[xv, .int .i64 ((room : Nat) : Int), .int .i64 nx, .bool lo] #[.slice none 0 0, .int .i64 ((room : Nat) : Int), .int .i64 nx, .bool lo] 41 [.slice none 0 0] [.blk p #[svc, .int .i64 ((room : Nat) : Int), .int .i64 nx, .bool false] 80, .row (svc) 29 5 (List.length ([] : List Rec)) (List.flatMap recL ([] : List Rec)), .blk g4 #[.int .i64 ((l.getD k (0, 0, 0, 0, 0, 0, 0)).1), .int .i64 ((l.getD k (0, 0, 0, 0, 0, 0, 0)).2.1), .int .i64 ((l.getD k (0, 0, 0, 0, 0, 0, 0)).2.2.1), .int .i64 ((l.getD k (0, 0, 0, 0, 0, 0, 0)).2.2.2.1), .int .i64 ((l.getD k (0, 0, 0, 0, 0, 0, 0)).2.2.2.2.1), .int .i64 ((l.getD k (0, 0, 0, 0, 0, 0, 0)).2.2.2.2.2.1), .int .i64 ((l.getD k (0, 0, 0, 0, 0, 0, 0)).2.2.2.2.2.2)] 43, .blk g2 #[.slice none 0 0, .int .i64 ((room : Nat) : Int), .int .i64 nx, .bool lo] 41, .row (xv) 46 5 (List.length xs) (List.flatMap recL xs), .blk g1 #[.int .i64 stop] 3] (by kernel_rfl) rfl (by kernel_rfl) (by kernel_rfl) (by kernel_rfl) (by kernel_rfl) (by kernel_rfl) (by kernel_rfl) (by kernel_rfl) (by kernel_rfl) ?_
          clear H
          intro v35 H
          refine x_val (.pointer (some ⟨g2, 3, none⟩)) (by kernel_rfl) rfl (by kernel_rfl) ?_
          refine x_store (t := 4) (v := .bool false) H 3 g2 3 #[.slice none 0 0, .int .i64 ((room : Nat) : Int), .int .i64 nx, .bool lo] #[.slice none 0 0, .int .i64 ((room : Nat) : Int), .int .i64 nx, .bool false] 41 [.bool false] [.blk p #[svc, .int .i64 ((room : Nat) : Int), .int .i64 nx, .bool false] 80, .row (svc) 29 5 (List.length ([] : List Rec)) (List.flatMap recL ([] : List Rec)), .blk g4 #[.int .i64 ((l.getD k (0, 0, 0, 0, 0, 0, 0)).1), .int .i64 ((l.getD k (0, 0, 0, 0, 0, 0, 0)).2.1), .int .i64 ((l.getD k (0, 0, 0, 0, 0, 0, 0)).2.2.1), .int .i64 ((l.getD k (0, 0, 0, 0, 0, 0, 0)).2.2.2.1), .int .i64 ((l.getD k (0, 0, 0, 0, 0, 0, 0)).2.2.2.2.1), .int .i64 ((l.getD k (0, 0, 0, 0, 0, 0, 0)).2.2.2.2.2.1), .int .i64 ((l.getD k (0, 0, 0, 0, 0, 0, 0)).2.2.2.2.2.2)] 43, .blk g2 #[.slice none 0 0, .int .i64 ((room : Nat) : Int), .int .i64 nx, .bool false] 41, .row (xv) 46 5 (List.length xs) (List.flatMap recL xs), .blk g1 #[.int .i64 stop] 3] (by kernel_rfl) rfl (by kernel_rfl) (by kernel_rfl) (by kernel_rfl) (by kernel_rfl) (by kernel_rfl) (by kernel_rfl) (by kernel_rfl) (by kernel_rfl) ?_
          clear H
          intro v36 H
          refine x_nil ?_
          refine x_then ?_
          refine x_seq ?_
          refine x_seq ?_
          refine x_region ?_
          refine x_val (.int .i64 1) (by kernel_rfl) rfl (by kernel_rfl) ?_
          refine x_val (.int .i64 0) (by kernel_rfl) rfl (by kernel_rfl) ?_
          refine x_nil ?_
          refine x_then ?_
          refine x_block ?_
          replace H := H.nilRow 46 5
          replace H : Hs [] w0 _ [.row (.slice none 0 0) 46 5 (List.length ([] : List Rec)) (List.flatMap recL ([] : List Rec)), .blk p #[svc, .int .i64 ((room : Nat) : Int), .int .i64 nx, .bool false] 80, .row (svc) 29 5 (List.length ([] : List Rec)) (List.flatMap recL ([] : List Rec)), .blk g4 #[.int .i64 ((l.getD k (0, 0, 0, 0, 0, 0, 0)).1), .int .i64 ((l.getD k (0, 0, 0, 0, 0, 0, 0)).2.1), .int .i64 ((l.getD k (0, 0, 0, 0, 0, 0, 0)).2.2.1), .int .i64 ((l.getD k (0, 0, 0, 0, 0, 0, 0)).2.2.2.1), .int .i64 ((l.getD k (0, 0, 0, 0, 0, 0, 0)).2.2.2.2.1), .int .i64 ((l.getD k (0, 0, 0, 0, 0, 0, 0)).2.2.2.2.2.1), .int .i64 ((l.getD k (0, 0, 0, 0, 0, 0, 0)).2.2.2.2.2.2)] 43, .blk g2 #[.slice none 0 0, .int .i64 ((room : Nat) : Int), .int .i64 nx, .bool false] 41, .row (xv) 46 5 (List.length xs) (List.flatMap recL xs), .blk g1 #[.int .i64 stop] 3] := H
          replace H := H.pick [1, 2, 4, 0, 3, 6] [.blk p #[svc, .int .i64 ((room : Nat) : Int), .int .i64 nx, .bool false] 80, .row (svc) 29 5 (List.length ([] : List Rec)) (List.flatMap recL ([] : List Rec)), .blk g2 #[.slice none 0 0, .int .i64 ((room : Nat) : Int), .int .i64 nx, .bool false] 41, .row (.slice none 0 0) 46 5 (List.length ([] : List Rec)) (List.flatMap recL ([] : List Rec)), .blk g4 #[.int .i64 ((l.getD k (0, 0, 0, 0, 0, 0, 0)).1), .int .i64 ((l.getD k (0, 0, 0, 0, 0, 0, 0)).2.1), .int .i64 ((l.getD k (0, 0, 0, 0, 0, 0, 0)).2.2.1), .int .i64 ((l.getD k (0, 0, 0, 0, 0, 0, 0)).2.2.2.1), .int .i64 ((l.getD k (0, 0, 0, 0, 0, 0, 0)).2.2.2.2.1), .int .i64 ((l.getD k (0, 0, 0, 0, 0, 0, 0)).2.2.2.2.2.1), .int .i64 ((l.getD k (0, 0, 0, 0, 0, 0, 0)).2.2.2.2.2.2)] 43, .blk g1 #[.int .i64 stop] 3] (by decide) (by kernel_rfl)
          refine x_loop (G := Nat × Value × Value × List Rec × Int × Bool) (fun gh a w' => match gh with | (j, sv2, xv2, xs2, nx2, lo2) => ∃ uf3 : Nat → Value, a = { tmps := #[.int .i64 ((room : Nat) : Int), .slice ad nA cA, .int .i64 stop, undef, undef, .pointer (some ⟨g1, 0, none⟩), (uf3 0), .pointer (some ⟨p, 0, none⟩), .int .i64 0, .pointer (some ⟨g2, 0, none⟩), undef, .pointer (some ⟨g4, 0, none⟩), .int .i64 1, (uf3 1), (uf3 2), (uf3 3), (uf3 4), (uf3 5), undef, .bool true, .bool false, .tuple #[.pointer (some ⟨p, 0, none⟩), .int .i64 0], .int .i64 ((room : Nat) : Int), .tuple #[.pointer (some ⟨p, 0, none⟩), .int .i64 0], .pointer (some ⟨p, 0, none⟩), .int .i64 0, .int .i64 ((room : Nat) : Int), .bool false, .bool false, .int .i64 ((room : Nat) : Int), .bool false, .bool false, undef, undef, undef, undef, undef, undef, .int .i64 0, .bool false, .bool false, .pointer (some ⟨p, 0, none⟩), .bool false, .bool false, .slice ad nA cA, .int .i64 ((nA : Nat) : Int), .bool false, .int .i64 ((room : Nat) : Int), .agg #[.slice none 0 0, .int .i64 ((room : Nat) : Int), .int .i64 1, .bool false], .slice ad nA cA, .int .i64 ((nA : Nat) : Int), .int .i64 ((k : Nat) : Int), .bool true, .pointer (some ⟨ga, oa + k * 7, none⟩), .agg #[.int .i64 ((l.getD k (0, 0, 0, 0, 0, 0, 0)).1), .int .i64 ((l.getD k (0, 0, 0, 0, 0, 0, 0)).2.1), .int .i64 ((l.getD k (0, 0, 0, 0, 0, 0, 0)).2.2.1), .int .i64 ((l.getD k (0, 0, 0, 0, 0, 0, 0)).2.2.2.1), .int .i64 ((l.getD k (0, 0, 0, 0, 0, 0, 0)).2.2.2.2.1), .int .i64 ((l.getD k (0, 0, 0, 0, 0, 0, 0)).2.2.2.2.2.1), .int .i64 ((l.getD k (0, 0, 0, 0, 0, 0, 0)).2.2.2.2.2.2)], .pointer (some ⟨g4, 0, none⟩), .int .i64 ((l.getD k (0, 0, 0, 0, 0, 0, 0)).1), .bool false, (uf1 14), (uf1 15), (uf1 16), (uf1 17), .pointer (some ⟨g4, 0, none⟩), .int .i64 ((l.getD k (0, 0, 0, 0, 0, 0, 0)).1), .bool true, .pointer (some ⟨p, 0, none⟩), .int .i64 (((List.length xs) : Nat) : Int), .pointer (some ⟨g2, 0, none⟩), xv, .int .i64 (((List.length xs) : Nat) : Int), .bool false, .pointer (some ⟨g2, 0, none⟩), .pointer (some ⟨g2, 3, none⟩), .int .i64 1, .int .i64 ((j : Nat) : Int), (uf3 6), (uf3 7), (uf3 8), (uf3 9), (uf3 10), (uf3 11), (uf3 12), (uf3 13), (uf3 14), (uf3 15), (uf3 16), (uf3 17), (uf3 18), (uf3 19), (uf3 20), (uf3 21), (uf3 22), (uf3 23), (uf3 24), (uf3 25), (uf3 26), (uf3 27), (uf3 28), (uf3 29), (uf3 30), (uf3 31), (uf3 32), (uf3 33), (uf3 34), (uf3 35), (uf3 36), (uf3 37), (uf3 38), (uf3 39), (uf3 40), (uf3 41), (uf3 42), (uf3 43), (uf1 69), (uf1 70), (uf1 71), (uf1 72), (uf1 73), undef, undef, undef, undef, undef, undef, undef, undef, undef, undef, undef, undef, undef, undef, undef, undef, undef, undef, undef, undef, undef, undef, undef, undef, undef], defers := [] } ∧ Hs [] w0 w' [.blk p #[sv2, .int .i64 ((room : Nat) : Int), .int .i64 nx2, .bool lo2] 80, .row (sv2) 29 5 (List.length xs2) (List.flatMap recL xs2), .blk g2 #[xv2, .int .i64 ((room : Nat) : Int), .int .i64 nx2, .bool lo2] 41, .row (xv2) 46 5 (List.length xs2) (List.flatMap recL xs2), .blk g4 #[.int .i64 ((l.getD k (0, 0, 0, 0, 0, 0, 0)).1), .int .i64 ((l.getD k (0, 0, 0, 0, 0, 0, 0)).2.1), .int .i64 ((l.getD k (0, 0, 0, 0, 0, 0, 0)).2.2.1), .int .i64 ((l.getD k (0, 0, 0, 0, 0, 0, 0)).2.2.2.1), .int .i64 ((l.getD k (0, 0, 0, 0, 0, 0, 0)).2.2.2.2.1), .int .i64 ((l.getD k (0, 0, 0, 0, 0, 0, 0)).2.2.2.2.2.1), .int .i64 ((l.getD k (0, 0, 0, 0, 0, 0, 0)).2.2.2.2.2.2)] 43, .blk g1 #[.int .i64 stop] 3] ∧ (j ≤ 300) ∧ (xs2.length ≤ room) ∧ (1 ≤ nx2 ∧ nx2 ≤ 1 + 300 * (k : Int) + (j : Int))) (fun gh => match gh with | (j, sv2, xv2, xs2, nx2, lo2) => 300 - j) (0, svc, .slice none 0 0, ([] : List Rec), nx, false) ⟨(nthV [(uf1 0), (uf1 3), (uf1 4), (uf1 5), (uf1 6), (uf1 7), (uf1 31), (uf1 32), (uf1 33), (uf1 34), (uf1 35), (uf1 36), (uf1 37), (uf1 38), (uf1 39), (uf1 40), (uf1 41), (uf1 42), (uf1 43), (uf1 44), (uf1 45), (uf1 46), (uf1 47), (uf1 48), (uf1 49), (uf1 50), (uf1 51), (uf1 52), (uf1 53), (uf1 54), (uf1 55), (uf1 56), (uf1 57), (uf1 58), (uf1 59), (uf1 60), (uf1 61), (uf1 62), (uf1 63), (uf1 64), (uf1 65), (uf1 66), (uf1 67), (uf1 68)]), (by kernel_rfl), H, (Nat.zero_le _), (by first | omega | exact Nat.zero_le _), (by omega)⟩ ?_
          clear H
          rintro ⟨j, sv2, xv2, xs2, nx2, lo2⟩ _ v37 ⟨uf3, rfl, H, r1, r2, r3⟩
          refine x_seq ?_
          refine x_region ?_
          refine x_val (.bool (decide (((j : Nat) : Int) < 1))) (by kernel_rfl) rfl (by kernel_rfl) ?_
          refine x_nil ?_
          refine x_then ?_
          refine x_seq ?_
          cases h15 : decide (((j : Nat) : Int) < 1)
          · skip
            have h15p := of_decide_eq_false h15
            refine x_f (by kernel_rfl) ?_
            refine x_exit ?_
            refine x_then_exit ?_
            refine x_then_exit ?_
            refine x_blk_exit ?_
            refine x_then ?_
            refine x_seq ?_
            refine x_region ?_
            refine x_val (.pointer (some ⟨p, 0, none⟩)) (by kernel_rfl) rfl (by kernel_rfl) ?_
            refine x_loadn (t := 41) H 2 g2 0 #[xv2, .int .i64 ((room : Nat) : Int), .int .i64 nx2, .bool lo2] 41 [xv2, .int .i64 ((room : Nat) : Int), .int .i64 nx2, .bool lo2] (by kernel_rfl) (by kernel_rfl) (by kernel_rfl) rfl (by kernel_rfl) (by kernel_rfl) ?_
            refine x_callH (.bool true) [.blk p #[sv2, .int .i64 ((room : Nat) : Int), .int .i64 nx2, .bool lo2] 80, .row (sv2) 29 5 (List.length xs2) (List.flatMap recL xs2), .row (xv2) 46 5 (List.length xs2) (List.flatMap recL xs2), .blk g2 #[xv2, .int .i64 ((room : Nat) : Int), .int .i64 nx2, .bool lo2] 41, .blk g4 #[.int .i64 ((l.getD k (0, 0, 0, 0, 0, 0, 0)).1), .int .i64 ((l.getD k (0, 0, 0, 0, 0, 0, 0)).2.1), .int .i64 ((l.getD k (0, 0, 0, 0, 0, 0, 0)).2.2.1), .int .i64 ((l.getD k (0, 0, 0, 0, 0, 0, 0)).2.2.2.1), .int .i64 ((l.getD k (0, 0, 0, 0, 0, 0, 0)).2.2.2.2.1), .int .i64 ((l.getD k (0, 0, 0, 0, 0, 0, 0)).2.2.2.2.2.1), .int .i64 ((l.getD k (0, 0, 0, 0, 0, 0, 0)).2.2.2.2.2.2)] 43, .blk g1 #[.int .i64 stop] 3] (by kernel_rfl) rfl (by kernel_rfl) (Hs.use (A := [.blk p #[sv2, .int .i64 ((room : Nat) : Int), .int .i64 nx2, .bool lo2] 80, .row (sv2) 29 5 (List.length xs2) (List.flatMap recL xs2), .row (xv2) 46 5 (List.length xs2) (List.flatMap recL xs2)]) (R := [.blk g2 #[xv2, .int .i64 ((room : Nat) : Int), .int .i64 nx2, .bool lo2] 41, .blk g4 #[.int .i64 ((l.getD k (0, 0, 0, 0, 0, 0, 0)).1), .int .i64 ((l.getD k (0, 0, 0, 0, 0, 0, 0)).2.1), .int .i64 ((l.getD k (0, 0, 0, 0, 0, 0, 0)).2.2.1), .int .i64 ((l.getD k (0, 0, 0, 0, 0, 0, 0)).2.2.2.1), .int .i64 ((l.getD k (0, 0, 0, 0, 0, 0, 0)).2.2.2.2.1), .int .i64 ((l.getD k (0, 0, 0, 0, 0, 0, 0)).2.2.2.2.2.1), .int .i64 ((l.getD k (0, 0, 0, 0, 0, 0, 0)).2.2.2.2.2.2)] 43, .blk g1 #[.int .i64 stop] 3]) (H.pick [0, 1, 3, 2, 4, 5] _ (by decide) (by kernel_rfl)) (fun h => same_yes (rx := ((room : Nat) : Int)) (by omega) _ h)) ?_
            clear H
            intro v38 H
            refine x_val (.bool false) (by kernel_rfl) rfl (by kernel_rfl) ?_
            refine x_nil ?_
            refine x_then ?_
            refine x_f (by kernel_rfl) ?_
            refine x_skipc ?_
            refine x_blk ?_
            refine x_then ?_
            refine x_region ?_
            refine x_ar (((k : Nat) : Int) + 1) ⟨by omega, by omega⟩ (by kernel_rfl) rfl (by kernel_rfl) ?_
            refine x_val (.int .i64 (((k : Nat) : Int) + 1)) (by kernel_rfl) rfl (by kernel_rfl) ?_
            refine x_nil ?_
            refine x_then ?_
            replace H := H.pick [0, 1, 3, 2, 5] [.blk p #[sv2, .int .i64 ((room : Nat) : Int), .int .i64 nx2, .bool lo2] 80, .row (sv2) 29 5 (List.length xs2) (List.flatMap recL xs2), .blk g2 #[xv2, .int .i64 ((room : Nat) : Int), .int .i64 nx2, .bool lo2] 41, .row (xv2) 46 5 (List.length xs2) (List.flatMap recL xs2), .blk g1 #[.int .i64 stop] 3] (by decide) (by kernel_rfl)
            exact ⟨(k + 1, sv2, xv2, xs2, nx2, lo2), (by dsimp only; omega), (nthV [(uf3 0), .pointer (some ⟨g4, 0, none⟩), .int .i64 1, (uf3 1), (uf3 2), (uf3 3), (uf3 4), (uf3 5), .bool true, .pointer (some ⟨ga, oa + k * 7, none⟩), .agg #[.int .i64 ((l.getD k (0, 0, 0, 0, 0, 0, 0)).1), .int .i64 ((l.getD k (0, 0, 0, 0, 0, 0, 0)).2.1), .int .i64 ((l.getD k (0, 0, 0, 0, 0, 0, 0)).2.2.1), .int .i64 ((l.getD k (0, 0, 0, 0, 0, 0, 0)).2.2.2.1), .int .i64 ((l.getD k (0, 0, 0, 0, 0, 0, 0)).2.2.2.2.1), .int .i64 ((l.getD k (0, 0, 0, 0, 0, 0, 0)).2.2.2.2.2.1), .int .i64 ((l.getD k (0, 0, 0, 0, 0, 0, 0)).2.2.2.2.2.2)], .pointer (some ⟨g4, 0, none⟩), .int .i64 ((l.getD k (0, 0, 0, 0, 0, 0, 0)).1), .bool false, (uf1 14), (uf1 15), (uf1 16), (uf1 17), .pointer (some ⟨g4, 0, none⟩), .int .i64 ((l.getD k (0, 0, 0, 0, 0, 0, 0)).1), .bool true, .pointer (some ⟨p, 0, none⟩), .int .i64 (((List.length xs) : Nat) : Int), .pointer (some ⟨g2, 0, none⟩), xv, .int .i64 (((List.length xs) : Nat) : Int), .bool false, .pointer (some ⟨g2, 0, none⟩), .pointer (some ⟨g2, 3, none⟩), .int .i64 1, .int .i64 ((j : Nat) : Int), .bool false, (uf3 7), (uf3 8), (uf3 9), (uf3 10), (uf3 11), (uf3 12), (uf3 13), (uf3 14), (uf3 15), (uf3 16), (uf3 17), (uf3 18), (uf3 19), (uf3 20), (uf3 21), (uf3 22), (uf3 23), (uf3 24), (uf3 25), (uf3 26), (uf3 27), (uf3 28), (uf3 29), (uf3 30), (uf3 31), (uf3 32), (uf3 33), (uf3 34), (uf3 35), (uf3 36), (uf3 37), (uf3 38), (uf3 39), (uf3 40), (uf3 41), (uf3 42), (uf3 43), .pointer (some ⟨p, 0, none⟩), .agg #[xv2, .int .i64 ((room : Nat) : Int), .int .i64 nx2, .bool lo2], .bool true, .bool false, .int .i64 (((k : Nat) : Int) + 1)]), (by kernel_rfl), H, (by omega), (by omega), (by omega)⟩
          · skip
            have h15p := of_decide_eq_true h15
            refine x_t (by kernel_rfl) ?_
            refine x_skipc ?_
            refine x_then ?_
            refine x_seq ?_
            refine x_block ?_
            refine x_seq ?_
            refine x_seq ?_
            refine x_region ?_
            refine x_val (.pointer (some ⟨g4, 0, none⟩)) (by kernel_rfl) rfl (by kernel_rfl) ?_
            refine x_load1 H 4 g4 0 #[.int .i64 ((l.getD k (0, 0, 0, 0, 0, 0, 0)).1), .int .i64 ((l.getD k (0, 0, 0, 0, 0, 0, 0)).2.1), .int .i64 ((l.getD k (0, 0, 0, 0, 0, 0, 0)).2.2.1), .int .i64 ((l.getD k (0, 0, 0, 0, 0, 0, 0)).2.2.2.1), .int .i64 ((l.getD k (0, 0, 0, 0, 0, 0, 0)).2.2.2.2.1), .int .i64 ((l.getD k (0, 0, 0, 0, 0, 0, 0)).2.2.2.2.2.1), .int .i64 ((l.getD k (0, 0, 0, 0, 0, 0, 0)).2.2.2.2.2.2)] 43 (.int .i64 ((l.getD k (0, 0, 0, 0, 0, 0, 0)).1)) (by kernel_rfl) (by kernel_rfl) (by kernel_rfl) rfl (by kernel_rfl) ?_
            refine x_val (.bool (!(decide (((l.getD k (0, 0, 0, 0, 0, 0, 0)).1) = 1)))) (by kernel_rfl) rfl (by kernel_rfl) ?_
            refine x_val (.bool (!(decide (((l.getD k (0, 0, 0, 0, 0, 0, 0)).1) = 1)))) (by kernel_rfl) rfl (by kernel_rfl) ?_
            cases h16 : decide (((l.getD k (0, 0, 0, 0, 0, 0, 0)).1) = 1)
            · skip
              have h16p := of_decide_eq_false h16
              refine x_val (.pointer (some ⟨g4, 0, none⟩)) (by kernel_rfl) rfl (by kernel_rfl) ?_
              refine x_load1 H 4 g4 0 #[.int .i64 ((l.getD k (0, 0, 0, 0, 0, 0, 0)).1), .int .i64 ((l.getD k (0, 0, 0, 0, 0, 0, 0)).2.1), .int .i64 ((l.getD k (0, 0, 0, 0, 0, 0, 0)).2.2.1), .int .i64 ((l.getD k (0, 0, 0, 0, 0, 0, 0)).2.2.2.1), .int .i64 ((l.getD k (0, 0, 0, 0, 0, 0, 0)).2.2.2.2.1), .int .i64 ((l.getD k (0, 0, 0, 0, 0, 0, 0)).2.2.2.2.2.1), .int .i64 ((l.getD k (0, 0, 0, 0, 0, 0, 0)).2.2.2.2.2.2)] 43 (.int .i64 ((l.getD k (0, 0, 0, 0, 0, 0, 0)).1)) (by kernel_rfl) (by kernel_rfl) (by kernel_rfl) rfl (by kernel_rfl) ?_
              refine x_val (.bool (!(decide (((l.getD k (0, 0, 0, 0, 0, 0, 0)).1) = 3)))) (by kernel_rfl) rfl (by kernel_rfl) ?_
              refine x_val (.bool (!(decide (((l.getD k (0, 0, 0, 0, 0, 0, 0)).1) = 3)))) (by kernel_rfl) rfl (by kernel_rfl) ?_
              refine x_nil ?_
              refine x_then ?_
              rw [h8]
              refine x_t (by kernel_rfl) ?_
              refine x_exit ?_
              refine x_then_exit ?_
              refine x_blk_out (by decide) ?_
              refine x_then_exit ?_
              refine x_then_exit ?_
              refine x_blk_exit ?_
              refine x_then ?_
              refine x_seq ?_
              refine x_region ?_
              refine x_val (.pointer (some ⟨p, 0, none⟩)) (by kernel_rfl) rfl (by kernel_rfl) ?_
              refine x_loadn (t := 41) H 2 g2 0 #[xv2, .int .i64 ((room : Nat) : Int), .int .i64 nx2, .bool lo2] 41 [xv2, .int .i64 ((room : Nat) : Int), .int .i64 nx2, .bool lo2] (by kernel_rfl) (by kernel_rfl) (by kernel_rfl) rfl (by kernel_rfl) (by kernel_rfl) ?_
              refine x_callH (.bool true) [.blk p #[sv2, .int .i64 ((room : Nat) : Int), .int .i64 nx2, .bool lo2] 80, .row (sv2) 29 5 (List.length xs2) (List.flatMap recL xs2), .row (xv2) 46 5 (List.length xs2) (List.flatMap recL xs2), .blk g2 #[xv2, .int .i64 ((room : Nat) : Int), .int .i64 nx2, .bool lo2] 41, .blk g4 #[.int .i64 ((l.getD k (0, 0, 0, 0, 0, 0, 0)).1), .int .i64 ((l.getD k (0, 0, 0, 0, 0, 0, 0)).2.1), .int .i64 ((l.getD k (0, 0, 0, 0, 0, 0, 0)).2.2.1), .int .i64 ((l.getD k (0, 0, 0, 0, 0, 0, 0)).2.2.2.1), .int .i64 ((l.getD k (0, 0, 0, 0, 0, 0, 0)).2.2.2.2.1), .int .i64 ((l.getD k (0, 0, 0, 0, 0, 0, 0)).2.2.2.2.2.1), .int .i64 ((l.getD k (0, 0, 0, 0, 0, 0, 0)).2.2.2.2.2.2)] 43, .blk g1 #[.int .i64 stop] 3] (by kernel_rfl) rfl (by kernel_rfl) (Hs.use (A := [.blk p #[sv2, .int .i64 ((room : Nat) : Int), .int .i64 nx2, .bool lo2] 80, .row (sv2) 29 5 (List.length xs2) (List.flatMap recL xs2), .row (xv2) 46 5 (List.length xs2) (List.flatMap recL xs2)]) (R := [.blk g2 #[xv2, .int .i64 ((room : Nat) : Int), .int .i64 nx2, .bool lo2] 41, .blk g4 #[.int .i64 ((l.getD k (0, 0, 0, 0, 0, 0, 0)).1), .int .i64 ((l.getD k (0, 0, 0, 0, 0, 0, 0)).2.1), .int .i64 ((l.getD k (0, 0, 0, 0, 0, 0, 0)).2.2.1), .int .i64 ((l.getD k (0, 0, 0, 0, 0, 0, 0)).2.2.2.1), .int .i64 ((l.getD k (0, 0, 0, 0, 0, 0, 0)).2.2.2.2.1), .int .i64 ((l.getD k (0, 0, 0, 0, 0, 0, 0)).2.2.2.2.2.1), .int .i64 ((l.getD k (0, 0, 0, 0, 0, 0, 0)).2.2.2.2.2.2)] 43, .blk g1 #[.int .i64 stop] 3]) (H.pick [0, 1, 3, 2, 4, 5] _ (by decide) (by kernel_rfl)) (fun h => same_yes (rx := ((room : Nat) : Int)) (by omega) _ h)) ?_
              clear H
              intro v39 H
              refine x_val (.bool false) (by kernel_rfl) rfl (by kernel_rfl) ?_
              refine x_nil ?_
              refine x_then ?_
              refine x_f (by kernel_rfl) ?_
              refine x_skipc ?_
              refine x_blk ?_
              refine x_then ?_
              refine x_region ?_
              refine x_ar (((k : Nat) : Int) + 1) ⟨by omega, by omega⟩ (by kernel_rfl) rfl (by kernel_rfl) ?_
              refine x_val (.int .i64 (((k : Nat) : Int) + 1)) (by kernel_rfl) rfl (by kernel_rfl) ?_
              refine x_nil ?_
              refine x_then ?_
              replace H := H.pick [0, 1, 3, 2, 5] [.blk p #[sv2, .int .i64 ((room : Nat) : Int), .int .i64 nx2, .bool lo2] 80, .row (sv2) 29 5 (List.length xs2) (List.flatMap recL xs2), .blk g2 #[xv2, .int .i64 ((room : Nat) : Int), .int .i64 nx2, .bool lo2] 41, .row (xv2) 46 5 (List.length xs2) (List.flatMap recL xs2), .blk g1 #[.int .i64 stop] 3] (by decide) (by kernel_rfl)
              exact ⟨(k + 1, sv2, xv2, xs2, nx2, lo2), (by dsimp only; omega), (nthV [(uf3 0), .pointer (some ⟨g4, 0, none⟩), .int .i64 1, (uf3 1), (uf3 2), (uf3 3), (uf3 4), (uf3 5), .bool true, .pointer (some ⟨ga, oa + k * 7, none⟩), .agg #[.int .i64 ((l.getD k (0, 0, 0, 0, 0, 0, 0)).1), .int .i64 ((l.getD k (0, 0, 0, 0, 0, 0, 0)).2.1), .int .i64 ((l.getD k (0, 0, 0, 0, 0, 0, 0)).2.2.1), .int .i64 ((l.getD k (0, 0, 0, 0, 0, 0, 0)).2.2.2.1), .int .i64 ((l.getD k (0, 0, 0, 0, 0, 0, 0)).2.2.2.2.1), .int .i64 ((l.getD k (0, 0, 0, 0, 0, 0, 0)).2.2.2.2.2.1), .int .i64 ((l.getD k (0, 0, 0, 0, 0, 0, 0)).2.2.2.2.2.2)], .pointer (some ⟨g4, 0, none⟩), .int .i64 ((l.getD k (0, 0, 0, 0, 0, 0, 0)).1), .bool false, (uf1 14), (uf1 15), (uf1 16), (uf1 17), .pointer (some ⟨g4, 0, none⟩), .int .i64 ((l.getD k (0, 0, 0, 0, 0, 0, 0)).1), .bool true, .pointer (some ⟨p, 0, none⟩), .int .i64 (((List.length xs) : Nat) : Int), .pointer (some ⟨g2, 0, none⟩), xv, .int .i64 (((List.length xs) : Nat) : Int), .bool false, .pointer (some ⟨g2, 0, none⟩), .pointer (some ⟨g2, 3, none⟩), .int .i64 1, .int .i64 ((j : Nat) : Int), .bool true, .pointer (some ⟨g4, 0, none⟩), .int .i64 ((l.getD k (0, 0, 0, 0, 0, 0, 0)).1), .bool true, .bool true, .pointer (some ⟨g4, 0, none⟩), .int .i64 ((l.getD k (0, 0, 0, 0, 0, 0, 0)).1), .bool true, .bool true, (uf3 15), (uf3 16), (uf3 17), (uf3 18), (uf3 19), (uf3 20), (uf3 21), (uf3 22), (uf3 23), (uf3 24), (uf3 25), (uf3 26), (uf3 27), (uf3 28), (uf3 29), (uf3 30), (uf3 31), (uf3 32), (uf3 33), (uf3 34), (uf3 35), (uf3 36), (uf3 37), (uf3 38), (uf3 39), (uf3 40), (uf3 41), (uf3 42), (uf3 43), .pointer (some ⟨p, 0, none⟩), .agg #[xv2, .int .i64 ((room : Nat) : Int), .int .i64 nx2, .bool lo2], .bool true, .bool false, .int .i64 (((k : Nat) : Int) + 1)]), (by kernel_rfl), H, (by omega), (by omega), (by omega)⟩
            · skip
              have h16p := of_decide_eq_true h16
              exact absurd h16p (by omega)
      · skip
        have h8p := of_decide_eq_true h8
        refine x_t (by kernel_rfl) ?_
        refine x_region ?_
        refine x_val (.pointer (some ⟨g4, 1, none⟩)) (by kernel_rfl) rfl (by kernel_rfl) ?_
        refine x_load1 H 0 g4 1 #[.int .i64 ((l.getD k (0, 0, 0, 0, 0, 0, 0)).1), .int .i64 ((l.getD k (0, 0, 0, 0, 0, 0, 0)).2.1), .int .i64 ((l.getD k (0, 0, 0, 0, 0, 0, 0)).2.2.1), .int .i64 ((l.getD k (0, 0, 0, 0, 0, 0, 0)).2.2.2.1), .int .i64 ((l.getD k (0, 0, 0, 0, 0, 0, 0)).2.2.2.2.1), .int .i64 ((l.getD k (0, 0, 0, 0, 0, 0, 0)).2.2.2.2.2.1), .int .i64 ((l.getD k (0, 0, 0, 0, 0, 0, 0)).2.2.2.2.2.2)] 43 (.int .i64 ((l.getD k (0, 0, 0, 0, 0, 0, 0)).2.1)) (by kernel_rfl) (by kernel_rfl) (by kernel_rfl) rfl (by kernel_rfl) ?_
        refine x_eq (.int .i64 (min ((l.getD k (0, 0, 0, 0, 0, 0, 0)).2.1) 300)) (e_min ((l.getD k (0, 0, 0, 0, 0, 0, 0)).2.1) 300) (by kernel_rfl) rfl (by kernel_rfl) ?_
        refine x_eq (.int .i64 (max (min ((l.getD k (0, 0, 0, 0, 0, 0, 0)).2.1) 300) 0)) (e_max (min ((l.getD k (0, 0, 0, 0, 0, 0, 0)).2.1) 300) 0) (by kernel_rfl) rfl (by kernel_rfl) ?_
        refine x_val (.int .i64 (max (min ((l.getD k (0, 0, 0, 0, 0, 0, 0)).2.1) 300) 0)) (by kernel_rfl) rfl (by kernel_rfl) ?_
        refine x_nil ?_
        refine x_then ?_
        refine x_seq ?_
        refine x_seq ?_
        refine x_region ?_
        refine x_val (.pointer (some ⟨g4, 0, none⟩)) (by kernel_rfl) rfl (by kernel_rfl) ?_
        refine x_load1 H 0 g4 0 #[.int .i64 ((l.getD k (0, 0, 0, 0, 0, 0, 0)).1), .int .i64 ((l.getD k (0, 0, 0, 0, 0, 0, 0)).2.1), .int .i64 ((l.getD k (0, 0, 0, 0, 0, 0, 0)).2.2.1), .int .i64 ((l.getD k (0, 0, 0, 0, 0, 0, 0)).2.2.2.1), .int .i64 ((l.getD k (0, 0, 0, 0, 0, 0, 0)).2.2.2.2.1), .int .i64 ((l.getD k (0, 0, 0, 0, 0, 0, 0)).2.2.2.2.2.1), .int .i64 ((l.getD k (0, 0, 0, 0, 0, 0, 0)).2.2.2.2.2.2)] 43 (.int .i64 ((l.getD k (0, 0, 0, 0, 0, 0, 0)).1)) (by kernel_rfl) (by kernel_rfl) (by kernel_rfl) rfl (by kernel_rfl) ?_
        refine x_val (.bool (decide (((l.getD k (0, 0, 0, 0, 0, 0, 0)).1) = 2))) (by kernel_rfl) rfl (by kernel_rfl) ?_
        refine x_nil ?_
        refine x_then ?_
        cases h17 : decide (((l.getD k (0, 0, 0, 0, 0, 0, 0)).1) = 2)
        · skip
          have h17p := of_decide_eq_false h17
          refine x_f (by kernel_rfl) ?_
          refine x_skipc ?_
          refine x_then ?_
          refine x_seq ?_
          refine x_seq ?_
          refine x_region ?_
          refine x_val (.int .i64 (max (min ((l.getD k (0, 0, 0, 0, 0, 0, 0)).2.1) 300) 0)) (by kernel_rfl) rfl (by kernel_rfl) ?_
          refine x_val (.int .i64 0) (by kernel_rfl) rfl (by kernel_rfl) ?_
          refine x_nil ?_
          refine x_then ?_
          refine x_block ?_
          replace H := H.pick [1, 2, 3, 4, 0, 5] [.blk p #[sv, .int .i64 ((room : Nat) : Int), .int .i64 nx, .bool lo] 80, .row (sv) 29 5 (List.length xs) (List.flatMap recL xs), .blk g2 #[xv, .int .i64 ((room : Nat) : Int), .int .i64 nx, .bool lo] 41, .row (xv) 46 5 (List.length xs) (List.flatMap recL xs), .blk g4 #[.int .i64 ((l.getD k (0, 0, 0, 0, 0, 0, 0)).1), .int .i64 ((l.getD k (0, 0, 0, 0, 0, 0, 0)).2.1), .int .i64 ((l.getD k (0, 0, 0, 0, 0, 0, 0)).2.2.1), .int .i64 ((l.getD k (0, 0, 0, 0, 0, 0, 0)).2.2.2.1), .int .i64 ((l.getD k (0, 0, 0, 0, 0, 0, 0)).2.2.2.2.1), .int .i64 ((l.getD k (0, 0, 0, 0, 0, 0, 0)).2.2.2.2.2.1), .int .i64 ((l.getD k (0, 0, 0, 0, 0, 0, 0)).2.2.2.2.2.2)] 43, .blk g1 #[.int .i64 stop] 3] (by decide) (by kernel_rfl)
          refine x_loop (G := Nat × Value × Value × List Rec × Int × Bool) (fun gh a w' => match gh with | (j, sv2, xv2, xs2, nx2, lo2) => ∃ uf4 : Nat → Value, a = { tmps := #[.int .i64 ((room : Nat) : Int), .slice ad nA cA, .int .i64 stop, undef, undef, .pointer (some ⟨g1, 0, none⟩), (uf4 0), .pointer (some ⟨p, 0, none⟩), .int .i64 0, .pointer (some ⟨g2, 0, none⟩), undef, .pointer (some ⟨g4, 0, none⟩), .int .i64 (max (min ((l.getD k (0, 0, 0, 0, 0, 0, 0)).2.1) 300) 0), (uf4 1), (uf4 2), (uf4 3), (uf4 4), (uf4 5), undef, .bool true, .bool false, .tuple #[.pointer (some ⟨p, 0, none⟩), .int .i64 0], .int .i64 ((room : Nat) : Int), .tuple #[.pointer (some ⟨p, 0, none⟩), .int .i64 0], .pointer (some ⟨p, 0, none⟩), .int .i64 0, .int .i64 ((room : Nat) : Int), .bool false, .bool false, .int .i64 ((room : Nat) : Int), .bool false, .bool false, undef, undef, undef, undef, undef, undef, .int .i64 0, .bool false, .bool false, .pointer (some ⟨p, 0, none⟩), .bool false, .bool false, .slice ad nA cA, .int .i64 ((nA : Nat) : Int), .bool false, .int .i64 ((room : Nat) : Int), .agg #[.slice none 0 0, .int .i64 ((room : Nat) : Int), .int .i64 1, .bool false], .slice ad nA cA, .int .i64 ((nA : Nat) : Int), .int .i64 ((k : Nat) : Int), .bool true, .pointer (some ⟨ga, oa + k * 7, none⟩), .agg #[.int .i64 ((l.getD k (0, 0, 0, 0, 0, 0, 0)).1), .int .i64 ((l.getD k (0, 0, 0, 0, 0, 0, 0)).2.1), .int .i64 ((l.getD k (0, 0, 0, 0, 0, 0, 0)).2.2.1), .int .i64 ((l.getD k (0, 0, 0, 0, 0, 0, 0)).2.2.2.1), .int .i64 ((l.getD k (0, 0, 0, 0, 0, 0, 0)).2.2.2.2.1), .int .i64 ((l.getD k (0, 0, 0, 0, 0, 0, 0)).2.2.2.2.2.1), .int .i64 ((l.getD k (0, 0, 0, 0, 0, 0, 0)).2.2.2.2.2.2)], .pointer (some ⟨g4, 0, none⟩), .int .i64 ((l.getD k (0, 0, 0, 0, 0, 0, 0)).1), .bool true, .pointer (some ⟨g4, 1, none⟩), .int .i64 ((l.getD k (0, 0, 0, 0, 0, 0, 0)).2.1), .int .i64 (min ((l.getD k (0, 0, 0, 0, 0, 0, 0)).2.1) 300), .int .i64 (max (min ((l.getD k (0, 0, 0, 0, 0, 0, 0)).2.1) 300) 0), .pointer (some ⟨g4, 0, none⟩), .int .i64 ((l.getD k (0, 0, 0, 0, 0, 0, 0)).1), .bool false, (uf1 21), (uf1 22), (uf1 23), (uf1 24), (uf1 25), (uf1 26), (uf1 27), (uf1 28), .int .i64 (max (min ((l.getD k (0, 0, 0, 0, 0, 0, 0)).2.1) 300) 0), .int .i64 ((j : Nat) : Int), (uf4 6), (uf4 7), (uf4 8), (uf4 9), (uf4 10), (uf4 11), (uf4 12), (uf4 13), (uf4 14), (uf4 15), (uf4 16), (uf4 17), (uf4 18), (uf4 19), (uf4 20), (uf4 21), (uf4 22), (uf4 23), (uf4 24), (uf4 25), (uf4 26), (uf4 27), (uf4 28), (uf4 29), (uf4 30), (uf4 31), (uf4 32), (uf4 33), (uf4 34), (uf4 35), (uf4 36), (uf4 37), (uf4 38), (uf4 39), (uf4 40), (uf4 41), (uf4 42), (uf4 43), (uf1 69), (uf1 70), (uf1 71), (uf1 72), (uf1 73), undef, undef, undef, undef, undef, undef, undef, undef, undef, undef, undef, undef, undef, undef, undef, undef, undef, undef, undef, undef, undef, undef, undef, undef, undef], defers := [] } ∧ Hs [] w0 w' [.blk p #[sv2, .int .i64 ((room : Nat) : Int), .int .i64 nx2, .bool lo2] 80, .row (sv2) 29 5 (List.length xs2) (List.flatMap recL xs2), .blk g2 #[xv2, .int .i64 ((room : Nat) : Int), .int .i64 nx2, .bool lo2] 41, .row (xv2) 46 5 (List.length xs2) (List.flatMap recL xs2), .blk g4 #[.int .i64 ((l.getD k (0, 0, 0, 0, 0, 0, 0)).1), .int .i64 ((l.getD k (0, 0, 0, 0, 0, 0, 0)).2.1), .int .i64 ((l.getD k (0, 0, 0, 0, 0, 0, 0)).2.2.1), .int .i64 ((l.getD k (0, 0, 0, 0, 0, 0, 0)).2.2.2.1), .int .i64 ((l.getD k (0, 0, 0, 0, 0, 0, 0)).2.2.2.2.1), .int .i64 ((l.getD k (0, 0, 0, 0, 0, 0, 0)).2.2.2.2.2.1), .int .i64 ((l.getD k (0, 0, 0, 0, 0, 0, 0)).2.2.2.2.2.2)] 43, .blk g1 #[.int .i64 stop] 3] ∧ (j ≤ 300) ∧ (xs2.length ≤ room) ∧ (1 ≤ nx2 ∧ nx2 ≤ 1 + 300 * (k : Int) + (j : Int))) (fun gh => match gh with | (j, sv2, xv2, xs2, nx2, lo2) => 300 - j) (0, sv, xv, xs, nx, lo) ⟨(nthV [(uf1 0), (uf1 3), (uf1 4), (uf1 5), (uf1 6), (uf1 7), (uf1 31), (uf1 32), (uf1 33), (uf1 34), (uf1 35), (uf1 36), (uf1 37), (uf1 38), (uf1 39), (uf1 40), (uf1 41), (uf1 42), (uf1 43), (uf1 44), (uf1 45), (uf1 46), (uf1 47), (uf1 48), (uf1 49), (uf1 50), (uf1 51), (uf1 52), (uf1 53), (uf1 54), (uf1 55), (uf1 56), (uf1 57), (uf1 58), (uf1 59), (uf1 60), (uf1 61), (uf1 62), (uf1 63), (uf1 64), (uf1 65), (uf1 66), (uf1 67), (uf1 68)]), (by kernel_rfl), H, (Nat.zero_le _), (by first | omega | exact Nat.zero_le _), (by omega)⟩ ?_
          clear H
          rintro ⟨j, sv2, xv2, xs2, nx2, lo2⟩ _ v40 ⟨uf4, rfl, H, r1, r2, r3⟩
          refine x_seq ?_
          refine x_region ?_
          refine x_val (.bool (decide (((j : Nat) : Int) < (max (min ((l.getD k (0, 0, 0, 0, 0, 0, 0)).2.1) 300) 0)))) (by kernel_rfl) rfl (by kernel_rfl) ?_
          refine x_nil ?_
          refine x_then ?_
          refine x_seq ?_
          cases h18 : decide (((j : Nat) : Int) < (max (min ((l.getD k (0, 0, 0, 0, 0, 0, 0)).2.1) 300) 0))
          · skip
            have h18p := of_decide_eq_false h18
            refine x_f (by kernel_rfl) ?_
            refine x_exit ?_
            refine x_then_exit ?_
            refine x_then_exit ?_
            refine x_blk_exit ?_
            refine x_then ?_
            refine x_seq ?_
            refine x_region ?_
            refine x_val (.pointer (some ⟨p, 0, none⟩)) (by kernel_rfl) rfl (by kernel_rfl) ?_
            refine x_loadn (t := 41) H 2 g2 0 #[xv2, .int .i64 ((room : Nat) : Int), .int .i64 nx2, .bool lo2] 41 [xv2, .int .i64 ((room : Nat) : Int), .int .i64 nx2, .bool lo2] (by kernel_rfl) (by kernel_rfl) (by kernel_rfl) rfl (by kernel_rfl) (by kernel_rfl) ?_
            refine x_callH (.bool true) [.blk p #[sv2, .int .i64 ((room : Nat) : Int), .int .i64 nx2, .bool lo2] 80, .row (sv2) 29 5 (List.length xs2) (List.flatMap recL xs2), .row (xv2) 46 5 (List.length xs2) (List.flatMap recL xs2), .blk g2 #[xv2, .int .i64 ((room : Nat) : Int), .int .i64 nx2, .bool lo2] 41, .blk g4 #[.int .i64 ((l.getD k (0, 0, 0, 0, 0, 0, 0)).1), .int .i64 ((l.getD k (0, 0, 0, 0, 0, 0, 0)).2.1), .int .i64 ((l.getD k (0, 0, 0, 0, 0, 0, 0)).2.2.1), .int .i64 ((l.getD k (0, 0, 0, 0, 0, 0, 0)).2.2.2.1), .int .i64 ((l.getD k (0, 0, 0, 0, 0, 0, 0)).2.2.2.2.1), .int .i64 ((l.getD k (0, 0, 0, 0, 0, 0, 0)).2.2.2.2.2.1), .int .i64 ((l.getD k (0, 0, 0, 0, 0, 0, 0)).2.2.2.2.2.2)] 43, .blk g1 #[.int .i64 stop] 3] (by kernel_rfl) rfl (by kernel_rfl) (Hs.use (A := [.blk p #[sv2, .int .i64 ((room : Nat) : Int), .int .i64 nx2, .bool lo2] 80, .row (sv2) 29 5 (List.length xs2) (List.flatMap recL xs2), .row (xv2) 46 5 (List.length xs2) (List.flatMap recL xs2)]) (R := [.blk g2 #[xv2, .int .i64 ((room : Nat) : Int), .int .i64 nx2, .bool lo2] 41, .blk g4 #[.int .i64 ((l.getD k (0, 0, 0, 0, 0, 0, 0)).1), .int .i64 ((l.getD k (0, 0, 0, 0, 0, 0, 0)).2.1), .int .i64 ((l.getD k (0, 0, 0, 0, 0, 0, 0)).2.2.1), .int .i64 ((l.getD k (0, 0, 0, 0, 0, 0, 0)).2.2.2.1), .int .i64 ((l.getD k (0, 0, 0, 0, 0, 0, 0)).2.2.2.2.1), .int .i64 ((l.getD k (0, 0, 0, 0, 0, 0, 0)).2.2.2.2.2.1), .int .i64 ((l.getD k (0, 0, 0, 0, 0, 0, 0)).2.2.2.2.2.2)] 43, .blk g1 #[.int .i64 stop] 3]) (H.pick [0, 1, 3, 2, 4, 5] _ (by decide) (by kernel_rfl)) (fun h => same_yes (rx := ((room : Nat) : Int)) (by omega) _ h)) ?_
            clear H
            intro v41 H
            refine x_val (.bool false) (by kernel_rfl) rfl (by kernel_rfl) ?_
            refine x_nil ?_
            refine x_then ?_
            refine x_f (by kernel_rfl) ?_
            refine x_skipc ?_
            refine x_blk ?_
            refine x_then ?_
            refine x_region ?_
            refine x_ar (((k : Nat) : Int) + 1) ⟨by omega, by omega⟩ (by kernel_rfl) rfl (by kernel_rfl) ?_
            refine x_val (.int .i64 (((k : Nat) : Int) + 1)) (by kernel_rfl) rfl (by kernel_rfl) ?_
            refine x_nil ?_
            refine x_then ?_
            replace H := H.pick [0, 1, 3, 2, 5] [.blk p #[sv2, .int .i64 ((room : Nat) : Int), .int .i64 nx2, .bool lo2] 80, .row (sv2) 29 5 (List.length xs2) (List.flatMap recL xs2), .blk g2 #[xv2, .int .i64 ((room : Nat) : Int), .int .i64 nx2, .bool lo2] 41, .row (xv2) 46 5 (List.length xs2) (List.flatMap recL xs2), .blk g1 #[.int .i64 stop] 3] (by decide) (by kernel_rfl)
            exact ⟨(k + 1, sv2, xv2, xs2, nx2, lo2), (by dsimp only; omega), (nthV [(uf4 0), .pointer (some ⟨g4, 0, none⟩), .int .i64 (max (min ((l.getD k (0, 0, 0, 0, 0, 0, 0)).2.1) 300) 0), (uf4 1), (uf4 2), (uf4 3), (uf4 4), (uf4 5), .bool true, .pointer (some ⟨ga, oa + k * 7, none⟩), .agg #[.int .i64 ((l.getD k (0, 0, 0, 0, 0, 0, 0)).1), .int .i64 ((l.getD k (0, 0, 0, 0, 0, 0, 0)).2.1), .int .i64 ((l.getD k (0, 0, 0, 0, 0, 0, 0)).2.2.1), .int .i64 ((l.getD k (0, 0, 0, 0, 0, 0, 0)).2.2.2.1), .int .i64 ((l.getD k (0, 0, 0, 0, 0, 0, 0)).2.2.2.2.1), .int .i64 ((l.getD k (0, 0, 0, 0, 0, 0, 0)).2.2.2.2.2.1), .int .i64 ((l.getD k (0, 0, 0, 0, 0, 0, 0)).2.2.2.2.2.2)], .pointer (some ⟨g4, 0, none⟩), .int .i64 ((l.getD k (0, 0, 0, 0, 0, 0, 0)).1), .bool true, .pointer (some ⟨g4, 1, none⟩), .int .i64 ((l.getD k (0, 0, 0, 0, 0, 0, 0)).2.1), .int .i64 (min ((l.getD k (0, 0, 0, 0, 0, 0, 0)).2.1) 300), .int .i64 (max (min ((l.getD k (0, 0, 0, 0, 0, 0, 0)).2.1) 300) 0), .pointer (some ⟨g4, 0, none⟩), .int .i64 ((l.getD k (0, 0, 0, 0, 0, 0, 0)).1), .bool false, (uf1 21), (uf1 22), (uf1 23), (uf1 24), (uf1 25), (uf1 26), (uf1 27), (uf1 28), .int .i64 (max (min ((l.getD k (0, 0, 0, 0, 0, 0, 0)).2.1) 300) 0), .int .i64 ((j : Nat) : Int), .bool false, (uf4 7), (uf4 8), (uf4 9), (uf4 10), (uf4 11), (uf4 12), (uf4 13), (uf4 14), (uf4 15), (uf4 16), (uf4 17), (uf4 18), (uf4 19), (uf4 20), (uf4 21), (uf4 22), (uf4 23), (uf4 24), (uf4 25), (uf4 26), (uf4 27), (uf4 28), (uf4 29), (uf4 30), (uf4 31), (uf4 32), (uf4 33), (uf4 34), (uf4 35), (uf4 36), (uf4 37), (uf4 38), (uf4 39), (uf4 40), (uf4 41), (uf4 42), (uf4 43), .pointer (some ⟨p, 0, none⟩), .agg #[xv2, .int .i64 ((room : Nat) : Int), .int .i64 nx2, .bool lo2], .bool true, .bool false, .int .i64 (((k : Nat) : Int) + 1)]), (by kernel_rfl), H, (by omega), (by omega), (by omega)⟩
          · skip
            have h18p := of_decide_eq_true h18
            refine x_t (by kernel_rfl) ?_
            refine x_skipc ?_
            refine x_then ?_
            refine x_seq ?_
            refine x_block ?_
            refine x_seq ?_
            refine x_seq ?_
            refine x_region ?_
            refine x_val (.pointer (some ⟨g4, 0, none⟩)) (by kernel_rfl) rfl (by kernel_rfl) ?_
            refine x_load1 H 4 g4 0 #[.int .i64 ((l.getD k (0, 0, 0, 0, 0, 0, 0)).1), .int .i64 ((l.getD k (0, 0, 0, 0, 0, 0, 0)).2.1), .int .i64 ((l.getD k (0, 0, 0, 0, 0, 0, 0)).2.2.1), .int .i64 ((l.getD k (0, 0, 0, 0, 0, 0, 0)).2.2.2.1), .int .i64 ((l.getD k (0, 0, 0, 0, 0, 0, 0)).2.2.2.2.1), .int .i64 ((l.getD k (0, 0, 0, 0, 0, 0, 0)).2.2.2.2.2.1), .int .i64 ((l.getD k (0, 0, 0, 0, 0, 0, 0)).2.2.2.2.2.2)] 43 (.int .i64 ((l.getD k (0, 0, 0, 0, 0, 0, 0)).1)) (by kernel_rfl) (by kernel_rfl) (by kernel_rfl) rfl (by kernel_rfl) ?_
            refine x_val (.bool (!(decide (((l.getD k (0, 0, 0, 0, 0, 0, 0)).1) = 1)))) (by kernel_rfl) rfl (by kernel_rfl) ?_
            refine x_val (.bool (!(decide (((l.getD k (0, 0, 0, 0, 0, 0, 0)).1) = 1)))) (by kernel_rfl) rfl (by kernel_rfl) ?_
            cases h19 : decide (((l.getD k (0, 0, 0, 0, 0, 0, 0)).1) = 1)
            · skip
              have h19p := of_decide_eq_false h19
              refine x_val (.pointer (some ⟨g4, 0, none⟩)) (by kernel_rfl) rfl (by kernel_rfl) ?_
              refine x_load1 H 4 g4 0 #[.int .i64 ((l.getD k (0, 0, 0, 0, 0, 0, 0)).1), .int .i64 ((l.getD k (0, 0, 0, 0, 0, 0, 0)).2.1), .int .i64 ((l.getD k (0, 0, 0, 0, 0, 0, 0)).2.2.1), .int .i64 ((l.getD k (0, 0, 0, 0, 0, 0, 0)).2.2.2.1), .int .i64 ((l.getD k (0, 0, 0, 0, 0, 0, 0)).2.2.2.2.1), .int .i64 ((l.getD k (0, 0, 0, 0, 0, 0, 0)).2.2.2.2.2.1), .int .i64 ((l.getD k (0, 0, 0, 0, 0, 0, 0)).2.2.2.2.2.2)] 43 (.int .i64 ((l.getD k (0, 0, 0, 0, 0, 0, 0)).1)) (by kernel_rfl) (by kernel_rfl) (by kernel_rfl) rfl (by kernel_rfl) ?_
              refine x_val (.bool (!(decide (((l.getD k (0, 0, 0, 0, 0, 0, 0)).1) = 3)))) (by kernel_rfl) rfl (by kernel_rfl) ?_
              refine x_val (.bool (!(decide (((l.getD k (0, 0, 0, 0, 0, 0, 0)).1) = 3)))) (by kernel_rfl) rfl (by kernel_rfl) ?_
              refine x_nil ?_
              refine x_then ?_
              rw [h8]
              refine x_f (by kernel_rfl) ?_
              refine x_skipc ?_
              refine x_then ?_
              refine x_seq ?_
              refine x_region ?_
              refine x_val (.pointer (some ⟨g4, 2, none⟩)) (by kernel_rfl) rfl (by kernel_rfl) ?_
              refine x_loadn (t := 29) H 4 g4 2 #[.int .i64 ((l.getD k (0, 0, 0, 0, 0, 0, 0)).1), .int .i64 ((l.getD k (0, 0, 0, 0, 0, 0, 0)).2.1), .int .i64 ((l.getD k (0, 0, 0, 0, 0, 0, 0)).2.2.1), .int .i64 ((l.getD k (0, 0, 0, 0, 0, 0, 0)).2.2.2.1), .int .i64 ((l.getD k (0, 0, 0, 0, 0, 0, 0)).2.2.2.2.1), .int .i64 ((l.getD k (0, 0, 0, 0, 0, 0, 0)).2.2.2.2.2.1), .int .i64 ((l.getD k (0, 0, 0, 0, 0, 0, 0)).2.2.2.2.2.2)] 43 [.int .i64 ((l.getD k (0, 0, 0, 0, 0, 0, 0)).2.2.1), .int .i64 ((l.getD k (0, 0, 0, 0, 0, 0, 0)).2.2.2.1), .int .i64 ((l.getD k (0, 0, 0, 0, 0, 0, 0)).2.2.2.2.1), .int .i64 ((l.getD k (0, 0, 0, 0, 0, 0, 0)).2.2.2.2.2.1), .int .i64 ((l.getD k (0, 0, 0, 0, 0, 0, 0)).2.2.2.2.2.2)] (by kernel_rfl) (by kernel_rfl) (by kernel_rfl) rfl (by kernel_rfl) (by kernel_rfl) ?_
              refine x_box H #[.int .i64 0, .int .i64 0, .int .i64 0, .int .i64 0, .int .i64 0] 29 (by kernel_rfl) rfl (by kernel_rfl) ?_
              clear H
              intro v42 g8 H
              refine x_store (t := 29) (v := .agg #[.int .i64 ((l.getD k (0, 0, 0, 0, 0, 0, 0)).2.2.1), .int .i64 ((l.getD k (0, 0, 0, 0, 0, 0, 0)).2.2.2.1), .int .i64 ((l.getD k (0, 0, 0, 0, 0, 0, 0)).2.2.2.2.1), .int .i64 ((l.getD k (0, 0, 0, 0, 0, 0, 0)).2.2.2.2.2.1), .int .i64 ((l.getD k (0, 0, 0, 0, 0, 0, 0)).2.2.2.2.2.2)]) H 0 g8 0 #[.int .i64 0, .int .i64 0, .int .i64 0, .int .i64 0, .int .i64 0] #[.int .i64 ((l.getD k (0, 0, 0, 0, 0, 0, 0)).2.2.1), .int .i64 ((l.getD k (0, 0, 0, 0, 0, 0, 0)).2.2.2.1), .int .i64 ((l.getD k (0, 0, 0, 0, 0, 0, 0)).2.2.2.2.1), .int .i64 ((l.getD k (0, 0, 0, 0, 0, 0, 0)).2.2.2.2.2.1), .int .i64 ((l.getD k (0, 0, 0, 0, 0, 0, 0)).2.2.2.2.2.2)] 29 [.int .i64 ((l.getD k (0, 0, 0, 0, 0, 0, 0)).2.2.1), .int .i64 ((l.getD k (0, 0, 0, 0, 0, 0, 0)).2.2.2.1), .int .i64 ((l.getD k (0, 0, 0, 0, 0, 0, 0)).2.2.2.2.1), .int .i64 ((l.getD k (0, 0, 0, 0, 0, 0, 0)).2.2.2.2.2.1), .int .i64 ((l.getD k (0, 0, 0, 0, 0, 0, 0)).2.2.2.2.2.2)] [.blk g8 #[.int .i64 ((l.getD k (0, 0, 0, 0, 0, 0, 0)).2.2.1), .int .i64 ((l.getD k (0, 0, 0, 0, 0, 0, 0)).2.2.2.1), .int .i64 ((l.getD k (0, 0, 0, 0, 0, 0, 0)).2.2.2.2.1), .int .i64 ((l.getD k (0, 0, 0, 0, 0, 0, 0)).2.2.2.2.2.1), .int .i64 ((l.getD k (0, 0, 0, 0, 0, 0, 0)).2.2.2.2.2.2)] 29, .blk p #[sv2, .int .i64 ((room : Nat) : Int), .int .i64 nx2, .bool lo2] 80, .row (sv2) 29 5 (List.length xs2) (List.flatMap recL xs2), .blk g2 #[xv2, .int .i64 ((room : Nat) : Int), .int .i64 nx2, .bool lo2] 41, .row (xv2) 46 5 (List.length xs2) (List.flatMap recL xs2), .blk g4 #[.int .i64 ((l.getD k (0, 0, 0, 0, 0, 0, 0)).1), .int .i64 ((l.getD k (0, 0, 0, 0, 0, 0, 0)).2.1), .int .i64 ((l.getD k (0, 0, 0, 0, 0, 0, 0)).2.2.1), .int .i64 ((l.getD k (0, 0, 0, 0, 0, 0, 0)).2.2.2.1), .int .i64 ((l.getD k (0, 0, 0, 0, 0, 0, 0)).2.2.2.2.1), .int .i64 ((l.getD k (0, 0, 0, 0, 0, 0, 0)).2.2.2.2.2.1), .int .i64 ((l.getD k (0, 0, 0, 0, 0, 0, 0)).2.2.2.2.2.2)] 43, .blk g1 #[.int .i64 stop] 3] (by kernel_rfl) rfl (by kernel_rfl) (by kernel_rfl) (by kernel_rfl) (by kernel_rfl) (by kernel_rfl) (by kernel_rfl) (by kernel_rfl) (by kernel_rfl) ?_
              clear H
              intro v43 H
              refine x_nil ?_
              refine x_then ?_
              refine x_seq ?_
              refine x_region ?_
              refine x_val (.pointer (some ⟨g2, 2, none⟩)) (by kernel_rfl) rfl (by kernel_rfl) ?_
              refine x_load1 H 3 g2 2 #[xv2, .int .i64 ((room : Nat) : Int), .int .i64 nx2, .bool lo2] 41 (.int .i64 nx2) (by kernel_rfl) (by kernel_rfl) (by kernel_rfl) rfl (by kernel_rfl) ?_
              refine x_val (.pointer (some ⟨g8, 0, none⟩)) (by kernel_rfl) rfl (by kernel_rfl) ?_
              refine x_store (t := 3) (v := .int .i64 nx2) H 0 g8 0 #[.int .i64 ((l.getD k (0, 0, 0, 0, 0, 0, 0)).2.2.1), .int .i64 ((l.getD k (0, 0, 0, 0, 0, 0, 0)).2.2.2.1), .int .i64 ((l.getD k (0, 0, 0, 0, 0, 0, 0)).2.2.2.2.1), .int .i64 ((l.getD k (0, 0, 0, 0, 0, 0, 0)).2.2.2.2.2.1), .int .i64 ((l.getD k (0, 0, 0, 0, 0, 0, 0)).2.2.2.2.2.2)] #[.int .i64 nx2, .int .i64 ((l.getD k (0, 0, 0, 0, 0, 0, 0)).2.2.2.1), .int .i64 ((l.getD k (0, 0, 0, 0, 0, 0, 0)).2.2.2.2.1), .int .i64 ((l.getD k (0, 0, 0, 0, 0, 0, 0)).2.2.2.2.2.1), .int .i64 ((l.getD k (0, 0, 0, 0, 0, 0, 0)).2.2.2.2.2.2)] 29 [.int .i64 nx2] [.blk g8 #[.int .i64 nx2, .int .i64 ((l.getD k (0, 0, 0, 0, 0, 0, 0)).2.2.2.1), .int .i64 ((l.getD k (0, 0, 0, 0, 0, 0, 0)).2.2.2.2.1), .int .i64 ((l.getD k (0, 0, 0, 0, 0, 0, 0)).2.2.2.2.2.1), .int .i64 ((l.getD k (0, 0, 0, 0, 0, 0, 0)).2.2.2.2.2.2)] 29, .blk p #[sv2, .int .i64 ((room : Nat) : Int), .int .i64 nx2, .bool lo2] 80, .row (sv2) 29 5 (List.length xs2) (List.flatMap recL xs2), .blk g2 #[xv2, .int .i64 ((room : Nat) : Int), .int .i64 nx2, .bool lo2] 41, .row (xv2) 46 5 (List.length xs2) (List.flatMap recL xs2), .blk g4 #[.int .i64 ((l.getD k (0, 0, 0, 0, 0, 0, 0)).1), .int .i64 ((l.getD k (0, 0, 0, 0, 0, 0, 0)).2.1), .int .i64 ((l.getD k (0, 0, 0, 0, 0, 0, 0)).2.2.1), .int .i64 ((l.getD k (0, 0, 0, 0, 0, 0, 0)).2.2.2.1), .int .i64 ((l.getD k (0, 0, 0, 0, 0, 0, 0)).2.2.2.2.1), .int .i64 ((l.getD k (0, 0, 0, 0, 0, 0, 0)).2.2.2.2.2.1), .int .i64 ((l.getD k (0, 0, 0, 0, 0, 0, 0)).2.2.2.2.2.2)] 43, .blk g1 #[.int .i64 stop] 3] (by kernel_rfl) rfl (by kernel_rfl) (by kernel_rfl) (by kernel_rfl) (by kernel_rfl) (by kernel_rfl) (by kernel_rfl) (by kernel_rfl) (by kernel_rfl) ?_
              clear H
              intro v44 H
              refine x_nil ?_
              refine x_then ?_
              refine x_seq ?_
              refine x_region ?_
              refine x_loadn (t := 41) H 3 g2 0 #[xv2, .int .i64 ((room : Nat) : Int), .int .i64 nx2, .bool lo2] 41 [xv2, .int .i64 ((room : Nat) : Int), .int .i64 nx2, .bool lo2] (by kernel_rfl) (by kernel_rfl) (by kernel_rfl) rfl (by kernel_rfl) (by kernel_rfl) ?_
              refine x_val (.pointer (some ⟨g4, 2, none⟩)) (by kernel_rfl) rfl (by kernel_rfl) ?_
              refine x_loadn (t := 29) H 5 g4 2 #[.int .i64 ((l.getD k (0, 0, 0, 0, 0, 0, 0)).1), .int .i64 ((l.getD k (0, 0, 0, 0, 0, 0, 0)).2.1), .int .i64 ((l.getD k (0, 0, 0, 0, 0, 0, 0)).2.2.1), .int .i64 ((l.getD k (0, 0, 0, 0, 0, 0, 0)).2.2.2.1), .int .i64 ((l.getD k (0, 0, 0, 0, 0, 0, 0)).2.2.2.2.1), .int .i64 ((l.getD k (0, 0, 0, 0, 0, 0, 0)).2.2.2.2.2.1), .int .i64 ((l.getD k (0, 0, 0, 0, 0, 0, 0)).2.2.2.2.2.2)] 43 [.int .i64 ((l.getD k (0, 0, 0, 0, 0, 0, 0)).2.2.1), .int .i64 ((l.getD k (0, 0, 0, 0, 0, 0, 0)).2.2.2.1), .int .i64 ((l.getD k (0, 0, 0, 0, 0, 0, 0)).2.2.2.2.1), .int .i64 ((l.getD k (0, 0, 0, 0, 0, 0, 0)).2.2.2.2.2.1), .int .i64 ((l.getD k (0, 0, 0, 0, 0, 0, 0)).2.2.2.2.2.2)] (by kernel_rfl) (by kernel_rfl) (by kernel_rfl) rfl (by kernel_rfl) (by kernel_rfl) ?_
              refine x_call (by kernel_rfl) rfl (by kernel_rfl) (Hs.useE (A := [.row (xv2) 46 5 (List.length xs2) (List.flatMap recL xs2)]) (R := [.blk g8 #[.int .i64 nx2, .int .i64 ((l.getD k (0, 0, 0, 0, 0, 0, 0)).2.2.2.1), .int .i64 ((l.getD k (0, 0, 0, 0, 0, 0, 0)).2.2.2.2.1), .int .i64 ((l.getD k (0, 0, 0, 0, 0, 0, 0)).2.2.2.2.2.1), .int .i64 ((l.getD k (0, 0, 0, 0, 0, 0, 0)).2.2.2.2.2.2)] 29, .blk p #[sv2, .int .i64 ((room : Nat) : Int), .int .i64 nx2, .bool lo2] 80, .row (sv2) 29 5 (List.length xs2) (List.flatMap recL xs2), .blk g2 #[xv2, .int .i64 ((room : Nat) : Int), .int .i64 nx2, .bool lo2] 41, .blk g4 #[.int .i64 ((l.getD k (0, 0, 0, 0, 0, 0, 0)).1), .int .i64 ((l.getD k (0, 0, 0, 0, 0, 0, 0)).2.1), .int .i64 ((l.getD k (0, 0, 0, 0, 0, 0, 0)).2.2.1), .int .i64 ((l.getD k (0, 0, 0, 0, 0, 0, 0)).2.2.2.1), .int .i64 ((l.getD k (0, 0, 0, 0, 0, 0, 0)).2.2.2.2.1), .int .i64 ((l.getD k (0, 0, 0, 0, 0, 0, 0)).2.2.2.2.2.1), .int .i64 ((l.getD k (0, 0, 0, 0, 0, 0, 0)).2.2.2.2.2.2)] 43, .blk g1 #[.int .i64 stop] 3]) (fun xva => [.row (xva) 46 5 (List.length (addS room xs2 (nx2, ((l.getD k (0, 0, 0, 0, 0, 0, 0)).2.2.2.1), ((l.getD k (0, 0, 0, 0, 0, 0, 0)).2.2.2.2.1), ((l.getD k (0, 0, 0, 0, 0, 0, 0)).2.2.2.2.2.1), ((l.getD k (0, 0, 0, 0, 0, 0, 0)).2.2.2.2.2.2))).1) (List.flatMap recL ((addS room xs2 (nx2, ((l.getD k (0, 0, 0, 0, 0, 0, 0)).2.2.2.1), ((l.getD k (0, 0, 0, 0, 0, 0, 0)).2.2.2.2.1), ((l.getD k (0, 0, 0, 0, 0, 0, 0)).2.2.2.2.2.1), ((l.getD k (0, 0, 0, 0, 0, 0, 0)).2.2.2.2.2.2))).1))]) (fun xva => .tuple #[.agg #[xva, .int .i64 ((room : Nat) : Int), .int .i64 (nx2 + 1), .bool (lo2 || !(decide (List.length xs2 < room)))], .bool ((addS room xs2 (nx2, ((l.getD k (0, 0, 0, 0, 0, 0, 0)).2.2.2.1), ((l.getD k (0, 0, 0, 0, 0, 0, 0)).2.2.2.2.1), ((l.getD k (0, 0, 0, 0, 0, 0, 0)).2.2.2.2.2.1), ((l.getD k (0, 0, 0, 0, 0, 0, 0)).2.2.2.2.2.2))).2)]) (H.pick [4, 0, 1, 2, 3, 5, 6] _ (by decide) (by kernel_rfl)) (fun h => Ref_any ((l.getD k (0, 0, 0, 0, 0, 0, 0)).2.2.1) ((l.getD k (0, 0, 0, 0, 0, 0, 0)).2.2.2.1) ((l.getD k (0, 0, 0, 0, 0, 0, 0)).2.2.2.2.1) ((l.getD k (0, 0, 0, 0, 0, 0, 0)).2.2.2.2.2.1) ((l.getD k (0, 0, 0, 0, 0, 0, 0)).2.2.2.2.2.2) (by omega) (by omega) (by omega) (by omega) _ h)) ?_
              rintro _ v45 ⟨xva, rfl, H'⟩
              refine ⟨_, rfl, ?_⟩
              clear H
              have H : Hs [] w0 _ [.row (xva) 46 5 (List.length (addS room xs2 (nx2, ((l.getD k (0, 0, 0, 0, 0, 0, 0)).2.2.2.1), ((l.getD k (0, 0, 0, 0, 0, 0, 0)).2.2.2.2.1), ((l.getD k (0, 0, 0, 0, 0, 0, 0)).2.2.2.2.2.1), ((l.getD k (0, 0, 0, 0, 0, 0, 0)).2.2.2.2.2.2))).1) (List.flatMap recL ((addS room xs2 (nx2, ((l.getD k (0, 0, 0, 0, 0, 0, 0)).2.2.2.1), ((l.getD k (0, 0, 0, 0, 0, 0, 0)).2.2.2.2.1), ((l.getD k (0, 0, 0, 0, 0, 0, 0)).2.2.2.2.2.1), ((l.getD k (0, 0, 0, 0, 0, 0, 0)).2.2.2.2.2.2))).1)), .blk g8 #[.int .i64 nx2, .int .i64 ((l.getD k (0, 0, 0, 0, 0, 0, 0)).2.2.2.1), .int .i64 ((l.getD k (0, 0, 0, 0, 0, 0, 0)).2.2.2.2.1), .int .i64 ((l.getD k (0, 0, 0, 0, 0, 0, 0)).2.2.2.2.2.1), .int .i64 ((l.getD k (0, 0, 0, 0, 0, 0, 0)).2.2.2.2.2.2)] 29, .blk p #[sv2, .int .i64 ((room : Nat) : Int), .int .i64 nx2, .bool lo2] 80, .row (sv2) 29 5 (List.length xs2) (List.flatMap recL xs2), .blk g2 #[xv2, .int .i64 ((room : Nat) : Int), .int .i64 nx2, .bool lo2] 41, .blk g4 #[.int .i64 ((l.getD k (0, 0, 0, 0, 0, 0, 0)).1), .int .i64 ((l.getD k (0, 0, 0, 0, 0, 0, 0)).2.1), .int .i64 ((l.getD k (0, 0, 0, 0, 0, 0, 0)).2.2.1), .int .i64 ((l.getD k (0, 0, 0, 0, 0, 0, 0)).2.2.2.1), .int .i64 ((l.getD k (0, 0, 0, 0, 0, 0, 0)).2.2.2.2.1), .int .i64 ((l.getD k (0, 0, 0, 0, 0, 0, 0)).2.2.2.2.2.1), .int .i64 ((l.getD k (0, 0, 0, 0, 0, 0, 0)).2.2.2.2.2.2)] 43, .blk g1 #[.int .i64 stop] 3] := H'
              clear H'
              refine x_val (.tuple #[.agg #[xva, .int .i64 ((room : Nat) : Int), .int .i64 (nx2 + 1), .bool (lo2 || !(decide (List.length xs2 < room)))], .bool ((addS room xs2 (nx2, ((l.getD k (0, 0, 0, 0, 0, 0, 0)).2.2.2.1), ((l.getD k (0, 0, 0, 0, 0, 0, 0)).2.2.2.2.1), ((l.getD k (0, 0, 0, 0, 0, 0, 0)).2.2.2.2.2.1), ((l.getD k (0, 0, 0, 0, 0, 0, 0)).2.2.2.2.2.2))).2)]) (by kernel_rfl) rfl (by kernel_rfl) ?_
              refine x_val (.agg #[xva, .int .i64 ((room : Nat) : Int), .int .i64 (nx2 + 1), .bool (lo2 || !(decide (List.length xs2 < room)))]) (by kernel_rfl) rfl (by kernel_rfl) ?_
              refine x_val (.bool ((addS room xs2 (nx2, ((l.getD k (0, 0, 0, 0, 0, 0, 0)).2.2.2.1), ((l.getD k (0, 0, 0, 0, 0, 0, 0)).2.2.2.2.1), ((l.getD k (0, 0, 0, 0, 0, 0, 0)).2.2.2.2.2.1), ((l.getD k (0, 0, 0, 0, 0, 0, 0)).2.2.2.2.2.2))).2)) (by kernel_rfl) rfl (by kernel_rfl) ?_
              refine x_box H #[.slice none 0 0, .int .i64 0, .int .i64 0, .bool false] 41 (by kernel_rfl) rfl (by kernel_rfl) ?_
              clear H
              intro v46 g9 H
              have h20o := H.rowOne 1 rfl
              refine x_store (t := 41) (v := .agg #[xva, .int .i64 ((room : Nat) : Int), .int .i64 (nx2 + 1), .bool (lo2 || !(decide (List.length xs2 < room)))]) H 0 g9 0 #[.slice none 0 0, .int .i64 0, .int .i64 0, .bool false] #[xva, .int .i64 ((room : Nat) : Int), .int .i64 (nx2 + 1), .bool (lo2 || !(decide (List.length xs2 < room)))] 41 [xva, .int .i64 ((room : Nat) : Int), .int .i64 (nx2 + 1), .bool (lo2 || !(decide (List.length xs2 < room)))] [.blk g9 #[xva, .int .i64 ((room : Nat) : Int), .int .i64 (nx2 + 1), .bool (lo2 || !(decide (List.length xs2 < room)))] 41, .row (xva) 46 5 (List.length (addS room xs2 (nx2, ((l.getD k (0, 0, 0, 0, 0, 0, 0)).2.2.2.1), ((l.getD k (0, 0, 0, 0, 0, 0, 0)).2.2.2.2.1), ((l.getD k (0, 0, 0, 0, 0, 0, 0)).2.2.2.2.2.1), ((l.getD k (0, 0, 0, 0, 0, 0, 0)).2.2.2.2.2.2))).1) (List.flatMap recL ((addS room xs2 (nx2, ((l.getD k (0, 0, 0, 0, 0, 0, 0)).2.2.2.1), ((l.getD k (0, 0, 0, 0, 0, 0, 0)).2.2.2.2.1), ((l.getD k (0, 0, 0, 0, 0, 0, 0)).2.2.2.2.2.1), ((l.getD k (0, 0, 0, 0, 0, 0, 0)).2.2.2.2.2.2))).1)), .blk g8 #[.int .i64 nx2, .int .i64 ((l.getD k (0, 0, 0, 0, 0, 0, 0)).2.2.2.1), .int .i64 ((l.getD k (0, 0, 0, 0, 0, 0, 0)).2.2.2.2.1), .int .i64 ((l.getD k (0, 0, 0, 0, 0, 0, 0)).2.2.2.2.2.1), .int .i64 ((l.getD k (0, 0, 0, 0, 0, 0, 0)).2.2.2.2.2.2)] 29, .blk p #[sv2, .int .i64 ((room : Nat) : Int), .int .i64 nx2, .bool lo2] 80, .row (sv2) 29 5 (List.length xs2) (List.flatMap recL xs2), .blk g2 #[xv2, .int .i64 ((room : Nat) : Int), .int .i64 nx2, .bool lo2] 41, .blk g4 #[.int .i64 ((l.getD k (0, 0, 0, 0, 0, 0, 0)).1), .int .i64 ((l.getD k (0, 0, 0, 0, 0, 0, 0)).2.1), .int .i64 ((l.getD k (0, 0, 0, 0, 0, 0, 0)).2.2.1), .int .i64 ((l.getD k (0, 0, 0, 0, 0, 0, 0)).2.2.2.1), .int .i64 ((l.getD k (0, 0, 0, 0, 0, 0, 0)).2.2.2.2.1), .int .i64 ((l.getD k (0, 0, 0, 0, 0, 0, 0)).2.2.2.2.2.1), .int .i64 ((l.getD k (0, 0, 0, 0, 0, 0, 0)).2.2.2.2.2.2)] 43, .blk g1 #[.int .i64 stop] 3] (by kernel_rfl) rfl (by kernel_rfl) (by simp only [List.all_cons, List.all_nil, h20o, Bool.and_true, Bool.true_and] <;> rfl) (by kernel_rfl) (by kernel_rfl) (by kernel_rfl) (by kernel_rfl) (by kernel_rfl) (by kernel_rfl) ?_
              clear H
              intro v47 H
              refine x_val (.bool ((addS room xs2 (nx2, ((l.getD k (0, 0, 0, 0, 0, 0, 0)).2.2.2.1), ((l.getD k (0, 0, 0, 0, 0, 0, 0)).2.2.2.2.1), ((l.getD k (0, 0, 0, 0, 0, 0, 0)).2.2.2.2.2.1), ((l.getD k (0, 0, 0, 0, 0, 0, 0)).2.2.2.2.2.2))).2)) (by kernel_rfl) rfl (by kernel_rfl) ?_
              refine x_nil ?_
              refine x_then ?_
              refine x_seq ?_
              refine x_region ?_
              refine x_loadn (t := 41) H 0 g9 0 #[xva, .int .i64 ((room : Nat) : Int), .int .i64 (nx2 + 1), .bool (lo2 || !(decide (List.length xs2 < room)))] 41 [xva, .int .i64 ((room : Nat) : Int), .int .i64 (nx2 + 1), .bool (lo2 || !(decide (List.length xs2 < room)))] (by kernel_rfl) (by kernel_rfl) (by kernel_rfl) rfl (by kernel_rfl) (by kernel_rfl) ?_
              have h21o := H.rowOne 1 rfl
              refine x_store (t := 41) (v := .agg #[xva, .int .i64 ((room : Nat) : Int), .int .i64 (nx2 + 1), .bool (lo2 || !(decide (List.length xs2 < room)))]) H 5 g2 0 #[xv2, .int .i64 ((room : Nat) : Int), .int .i64 nx2, .bool lo2] #[xva, .int .i64 ((room : Nat) : Int), .int .i64 (nx2 + 1), .bool (lo2 || !(decide (List.length xs2 < room)))] 41 [xva, .int .i64 ((room : Nat) : Int), .int .i64 (nx2 + 1), .bool (lo2 || !(decide (List.length xs2 < room)))] [.blk g9 #[xva, .int .i64 ((room : Nat) : Int), .int .i64 (nx2 + 1), .bool (lo2 || !(decide (List.length xs2 < room)))] 41, .row (xva) 46 5 (List.length (addS room xs2 (nx2, ((l.getD k (0, 0, 0, 0, 0, 0, 0)).2.2.2.1), ((l.getD k (0, 0, 0, 0, 0, 0, 0)).2.2.2.2.1), ((l.getD k (0, 0, 0, 0, 0, 0, 0)).2.2.2.2.2.1), ((l.getD k (0, 0, 0, 0, 0, 0, 0)).2.2.2.2.2.2))).1) (List.flatMap recL ((addS room xs2 (nx2, ((l.getD k (0, 0, 0, 0, 0, 0, 0)).2.2.2.1), ((l.getD k (0, 0, 0, 0, 0, 0, 0)).2.2.2.2.1), ((l.getD k (0, 0, 0, 0, 0, 0, 0)).2.2.2.2.2.1), ((l.getD k (0, 0, 0, 0, 0, 0, 0)).2.2.2.2.2.2))).1)), .blk g8 #[.int .i64 nx2, .int .i64 ((l.getD k (0, 0, 0, 0, 0, 0, 0)).2.2.2.1), .int .i64 ((l.getD k (0, 0, 0, 0, 0, 0, 0)).2.2.2.2.1), .int .i64 ((l.getD k (0, 0, 0, 0, 0, 0, 0)).2.2.2.2.2.1), .int .i64 ((l.getD k (0, 0, 0, 0, 0, 0, 0)).2.2.2.2.2.2)] 29, .blk p #[sv2, .int .i64 ((room : Nat) : Int), .int .i64 nx2, .bool lo2] 80, .row (sv2) 29 5 (List.length xs2) (List.flatMap recL xs2), .blk g2 #[xva, .int .i64 ((room : Nat) : Int), .int .i64 (nx2 + 1), .bool (lo2 || !(decide (List.length xs2 < room)))] 41, .blk g4 #[.int .i64 ((l.getD k (0, 0, 0, 0, 0, 0, 0)).1), .int .i64 ((l.getD k (0, 0, 0, 0, 0, 0, 0)).2.1), .int .i64 ((l.getD k (0, 0, 0, 0, 0, 0, 0)).2.2.1), .int .i64 ((l.getD k (0, 0, 0, 0, 0, 0, 0)).2.2.2.1), .int .i64 ((l.getD k (0, 0, 0, 0, 0, 0, 0)).2.2.2.2.1), .int .i64 ((l.getD k (0, 0, 0, 0, 0, 0, 0)).2.2.2.2.2.1), .int .i64 ((l.getD k (0, 0, 0, 0, 0, 0, 0)).2.2.2.2.2.2)] 43, .blk g1 #[.int .i64 stop] 3] (by kernel_rfl) rfl (by kernel_rfl) (by simp only [List.all_cons, List.all_nil, h21o, Bool.and_true, Bool.true_and] <;> rfl) (by kernel_rfl) (by kernel_rfl) (by kernel_rfl) (by kernel_rfl) (by kernel_rfl) (by kernel_rfl) ?_
              clear H
              intro v48 H
              refine x_nil ?_
              refine x_then ?_
              refine x_seq ?_
              refine x_region ?_
              refine x_val (.pointer (some ⟨p, 0, none⟩)) (by kernel_rfl) rfl (by kernel_rfl) ?_
              refine x_val (.pointer (some ⟨g4, 2, none⟩)) (by kernel_rfl) rfl (by kernel_rfl) ?_
              refine x_loadn (t := 29) H 6 g4 2 #[.int .i64 ((l.getD k (0, 0, 0, 0, 0, 0, 0)).1), .int .i64 ((l.getD k (0, 0, 0, 0, 0, 0, 0)).2.1), .int .i64 ((l.getD k (0, 0, 0, 0, 0, 0, 0)).2.2.1), .int .i64 ((l.getD k (0, 0, 0, 0, 0, 0, 0)).2.2.2.1), .int .i64 ((l.getD k (0, 0, 0, 0, 0, 0, 0)).2.2.2.2.1), .int .i64 ((l.getD k (0, 0, 0, 0, 0, 0, 0)).2.2.2.2.2.1), .int .i64 ((l.getD k (0, 0, 0, 0, 0, 0, 0)).2.2.2.2.2.2)] 43 [.int .i64 ((l.getD k (0, 0, 0, 0, 0, 0, 0)).2.2.1), .int .i64 ((l.getD k (0, 0, 0, 0, 0, 0, 0)).2.2.2.1), .int .i64 ((l.getD k (0, 0, 0, 0, 0, 0, 0)).2.2.2.2.1), .int .i64 ((l.getD k (0, 0, 0, 0, 0, 0, 0)).2.2.2.2.2.1), .int .i64 ((l.getD k (0, 0, 0, 0, 0, 0, 0)).2.2.2.2.2.2)] (by kernel_rfl) (by kernel_rfl) (by kernel_rfl) rfl (by kernel_rfl) (by kernel_rfl) ?_
              refine x_call (by kernel_rfl) rfl (by kernel_rfl) (Hs.useE (A := [.blk p #[sv2, .int .i64 ((room : Nat) : Int), .int .i64 nx2, .bool lo2] 80, .row (sv2) 29 5 (List.length xs2) (List.flatMap recL xs2)]) (R := [.blk g9 #[xva, .int .i64 ((room : Nat) : Int), .int .i64 (nx2 + 1), .bool (lo2 || !(decide (List.length xs2 < room)))] 41, .row (xva) 46 5 (List.length (addS room xs2 (nx2, ((l.getD k (0, 0, 0, 0, 0, 0, 0)).2.2.2.1), ((l.getD k (0, 0, 0, 0, 0, 0, 0)).2.2.2.2.1), ((l.getD k (0, 0, 0, 0, 0, 0, 0)).2.2.2.2.2.1), ((l.getD k (0, 0, 0, 0, 0, 0, 0)).2.2.2.2.2.2))).1) (List.flatMap recL ((addS room xs2 (nx2, ((l.getD k (0, 0, 0, 0, 0, 0, 0)).2.2.2.1), ((l.getD k (0, 0, 0, 0, 0, 0, 0)).2.2.2.2.1), ((l.getD k (0, 0, 0, 0, 0, 0, 0)).2.2.2.2.2.1), ((l.getD k (0, 0, 0, 0, 0, 0, 0)).2.2.2.2.2.2))).1)), .blk g8 #[.int .i64 nx2, .int .i64 ((l.getD k (0, 0, 0, 0, 0, 0, 0)).2.2.2.1), .int .i64 ((l.getD k (0, 0, 0, 0, 0, 0, 0)).2.2.2.2.1), .int .i64 ((l.getD k (0, 0, 0, 0, 0, 0, 0)).2.2.2.2.2.1), .int .i64 ((l.getD k (0, 0, 0, 0, 0, 0, 0)).2.2.2.2.2.2)] 29, .blk g2 #[xva, .int .i64 ((room : Nat) : Int), .int .i64 (nx2 + 1), .bool (lo2 || !(decide (List.length xs2 < room)))] 41, .blk g4 #[.int .i64 ((l.getD k (0, 0, 0, 0, 0, 0, 0)).1), .int .i64 ((l.getD k (0, 0, 0, 0, 0, 0, 0)).2.1), .int .i64 ((l.getD k (0, 0, 0, 0, 0, 0, 0)).2.2.1), .int .i64 ((l.getD k (0, 0, 0, 0, 0, 0, 0)).2.2.2.1), .int .i64 ((l.getD k (0, 0, 0, 0, 0, 0, 0)).2.2.2.2.1), .int .i64 ((l.getD k (0, 0, 0, 0, 0, 0, 0)).2.2.2.2.2.1), .int .i64 ((l.getD k (0, 0, 0, 0, 0, 0, 0)).2.2.2.2.2.2)] 43, .blk g1 #[.int .i64 stop] 3]) (fun sva => [.blk p #[sva, .int .i64 ((room : Nat) : Int), .int .i64 (nx2 + 1), .bool (lo2 || !(decide (List.length xs2 < room)))] 80, .row (sva) 29 5 (List.length ((addS room xs2 (nx2, ((l.getD k (0, 0, 0, 0, 0, 0, 0)).2.2.2.1), ((l.getD k (0, 0, 0, 0, 0, 0, 0)).2.2.2.2.1), ((l.getD k (0, 0, 0, 0, 0, 0, 0)).2.2.2.2.2.1), ((l.getD k (0, 0, 0, 0, 0, 0, 0)).2.2.2.2.2.2))).1)) (List.flatMap recL ((addS room xs2 (nx2, ((l.getD k (0, 0, 0, 0, 0, 0, 0)).2.2.2.1), ((l.getD k (0, 0, 0, 0, 0, 0, 0)).2.2.2.2.1), ((l.getD k (0, 0, 0, 0, 0, 0, 0)).2.2.2.2.2.1), ((l.getD k (0, 0, 0, 0, 0, 0, 0)).2.2.2.2.2.2))).1))]) (fun _ => .tuple #[.agg #[.int .i64 nx2, .int .i64 ((l.getD k (0, 0, 0, 0, 0, 0, 0)).2.2.2.1), .int .i64 ((l.getD k (0, 0, 0, 0, 0, 0, 0)).2.2.2.2.1), .int .i64 ((l.getD k (0, 0, 0, 0, 0, 0, 0)).2.2.2.2.2.1), .int .i64 ((l.getD k (0, 0, 0, 0, 0, 0, 0)).2.2.2.2.2.2)], .bool ((addS room xs2 (nx2, ((l.getD k (0, 0, 0, 0, 0, 0, 0)).2.2.2.1), ((l.getD k (0, 0, 0, 0, 0, 0, 0)).2.2.2.2.1), ((l.getD k (0, 0, 0, 0, 0, 0, 0)).2.2.2.2.2.1), ((l.getD k (0, 0, 0, 0, 0, 0, 0)).2.2.2.2.2.2))).2)]) (H.pick [3, 4, 0, 1, 2, 5, 6, 7] _ (by decide) (by kernel_rfl)) (fun h => Add_any ((l.getD k (0, 0, 0, 0, 0, 0, 0)).2.2.1) ((l.getD k (0, 0, 0, 0, 0, 0, 0)).2.2.2.1) ((l.getD k (0, 0, 0, 0, 0, 0, 0)).2.2.2.2.1) ((l.getD k (0, 0, 0, 0, 0, 0, 0)).2.2.2.2.2.1) ((l.getD k (0, 0, 0, 0, 0, 0, 0)).2.2.2.2.2.2) (by first | omega | decide) (by omega) (by omega) (by omega) _ h)) ?_
              rintro _ v49 ⟨sva, rfl, H'⟩
              refine ⟨_, rfl, ?_⟩
              clear H
              have H : Hs [] w0 _ [.blk p #[sva, .int .i64 ((room : Nat) : Int), .int .i64 (nx2 + 1), .bool (lo2 || !(decide (List.length xs2 < room)))] 80, .row (sva) 29 5 (List.length ((addS room xs2 (nx2, ((l.getD k (0, 0, 0, 0, 0, 0, 0)).2.2.2.1), ((l.getD k (0, 0, 0, 0, 0, 0, 0)).2.2.2.2.1), ((l.getD k (0, 0, 0, 0, 0, 0, 0)).2.2.2.2.2.1), ((l.getD k (0, 0, 0, 0, 0, 0, 0)).2.2.2.2.2.2))).1)) (List.flatMap recL ((addS room xs2 (nx2, ((l.getD k (0, 0, 0, 0, 0, 0, 0)).2.2.2.1), ((l.getD k (0, 0, 0, 0, 0, 0, 0)).2.2.2.2.1), ((l.getD k (0, 0, 0, 0, 0, 0, 0)).2.2.2.2.2.1), ((l.getD k (0, 0, 0, 0, 0, 0, 0)).2.2.2.2.2.2))).1)), .blk g9 #[xva, .int .i64 ((room : Nat) : Int), .int .i64 (nx2 + 1), .bool (lo2 || !(decide (List.length xs2 < room)))] 41, .row (xva) 46 5 (List.length (addS room xs2 (nx2, ((l.getD k (0, 0, 0, 0, 0, 0, 0)).2.2.2.1), ((l.getD k (0, 0, 0, 0, 0, 0, 0)).2.2.2.2.1), ((l.getD k (0, 0, 0, 0, 0, 0, 0)).2.2.2.2.2.1), ((l.getD k (0, 0, 0, 0, 0, 0, 0)).2.2.2.2.2.2))).1) (List.flatMap recL ((addS room xs2 (nx2, ((l.getD k (0, 0, 0, 0, 0, 0, 0)).2.2.2.1), ((l.getD k (0, 0, 0, 0, 0, 0, 0)).2.2.2.2.1), ((l.getD k (0, 0, 0, 0, 0, 0, 0)).2.2.2.2.2.1), ((l.getD k (0, 0, 0, 0, 0, 0, 0)).2.2.2.2.2.2))).1)), .blk g8 #[.int .i64 nx2, .int .i64 ((l.getD k (0, 0, 0, 0, 0, 0, 0)).2.2.2.1), .int .i64 ((l.getD k (0, 0, 0, 0, 0, 0, 0)).2.2.2.2.1), .int .i64 ((l.getD k (0, 0, 0, 0, 0, 0, 0)).2.2.2.2.2.1), .int .i64 ((l.getD k (0, 0, 0, 0, 0, 0, 0)).2.2.2.2.2.2)] 29, .blk g2 #[xva, .int .i64 ((room : Nat) : Int), .int .i64 (nx2 + 1), .bool (lo2 || !(decide (List.length xs2 < room)))] 41, .blk g4 #[.int .i64 ((l.getD k (0, 0, 0, 0, 0, 0, 0)).1), .int .i64 ((l.getD k (0, 0, 0, 0, 0, 0, 0)).2.1), .int .i64 ((l.getD k (0, 0, 0, 0, 0, 0, 0)).2.2.1), .int .i64 ((l.getD k (0, 0, 0, 0, 0, 0, 0)).2.2.2.1), .int .i64 ((l.getD k (0, 0, 0, 0, 0, 0, 0)).2.2.2.2.1), .int .i64 ((l.getD k (0, 0, 0, 0, 0, 0, 0)).2.2.2.2.2.1), .int .i64 ((l.getD k (0, 0, 0, 0, 0, 0, 0)).2.2.2.2.2.2)] 43, .blk g1 #[.int .i64 stop] 3] := H'
              clear H'
              refine x_val (.tuple #[.agg #[.int .i64 nx2, .int .i64 ((l.getD k (0, 0, 0, 0, 0, 0, 0)).2.2.2.1), .int .i64 ((l.getD k (0, 0, 0, 0, 0, 0, 0)).2.2.2.2.1), .int .i64 ((l.getD k (0, 0, 0, 0, 0, 0, 0)).2.2.2.2.2.1), .int .i64 ((l.getD k (0, 0, 0, 0, 0, 0, 0)).2.2.2.2.2.2)], .bool ((addS room xs2 (nx2, ((l.getD k (0, 0, 0, 0, 0, 0, 0)).2.2.2.1), ((l.getD k (0, 0, 0, 0, 0, 0, 0)).2.2.2.2.1), ((l.getD k (0, 0, 0, 0, 0, 0, 0)).2.2.2.2.2.1), ((l.getD k (0, 0, 0, 0, 0, 0, 0)).2.2.2.2.2.2))).2)]) (by kernel_rfl) rfl (by kernel_rfl) ?_
              refine x_val (.agg #[.int .i64 nx2, .int .i64 ((l.getD k (0, 0, 0, 0, 0, 0, 0)).2.2.2.1), .int .i64 ((l.getD k (0, 0, 0, 0, 0, 0, 0)).2.2.2.2.1), .int .i64 ((l.getD k (0, 0, 0, 0, 0, 0, 0)).2.2.2.2.2.1), .int .i64 ((l.getD k (0, 0, 0, 0, 0, 0, 0)).2.2.2.2.2.2)]) (by kernel_rfl) rfl (by kernel_rfl) ?_
              refine x_val (.bool ((addS room xs2 (nx2, ((l.getD k (0, 0, 0, 0, 0, 0, 0)).2.2.2.1), ((l.getD k (0, 0, 0, 0, 0, 0, 0)).2.2.2.2.1), ((l.getD k (0, 0, 0, 0, 0, 0, 0)).2.2.2.2.2.1), ((l.getD k (0, 0, 0, 0, 0, 0, 0)).2.2.2.2.2.2))).2)) (by kernel_rfl) rfl (by kernel_rfl) ?_
              refine x_box H #[.int .i64 0, .int .i64 0, .int .i64 0, .int .i64 0, .int .i64 0] 29 (by kernel_rfl) rfl (by kernel_rfl) ?_
              clear H
              intro v50 g10 H
              refine x_store (t := 29) (v := .agg #[.int .i64 nx2, .int .i64 ((l.getD k (0, 0, 0, 0, 0, 0, 0)).2.2.2.1), .int .i64 ((l.getD k (0, 0, 0, 0, 0, 0, 0)).2.2.2.2.1), .int .i64 ((l.getD k (0, 0, 0, 0, 0, 0, 0)).2.2.2.2.2.1), .int .i64 ((l.getD k (0, 0, 0, 0, 0, 0, 0)).2.2.2.2.2.2)]) H 0 g10 0 #[.int .i64 0, .int .i64 0, .int .i64 0, .int .i64 0, .int .i64 0] #[.int .i64 nx2, .int .i64 ((l.getD k (0, 0, 0, 0, 0, 0, 0)).2.2.2.1), .int .i64 ((l.getD k (0, 0, 0, 0, 0, 0, 0)).2.2.2.2.1), .int .i64 ((l.getD k (0, 0, 0, 0, 0, 0, 0)).2.2.2.2.2.1), .int .i64 ((l.getD k (0, 0, 0, 0, 0, 0, 0)).2.2.2.2.2.2)] 29 [.int .i64 nx2, .int .i64 ((l.getD k (0, 0, 0, 0, 0, 0, 0)).2.2.2.1), .int .i64 ((l.getD k (0, 0, 0, 0, 0, 0, 0)).2.2.2.2.1), .int .i64 ((l.getD k (0, 0, 0, 0, 0, 0, 0)).2.2.2.2.2.1), .int .i64 ((l.getD k (0, 0, 0, 0, 0, 0, 0)).2.2.2.2.2.2)] [.blk g10 #[.int .i64 nx2, .int .i64 ((l.getD k (0, 0, 0, 0, 0, 0, 0)).2.2.2.1), .int .i64 ((l.getD k (0, 0, 0, 0, 0, 0, 0)).2.2.2.2.1), .int .i64 ((l.getD k (0, 0, 0, 0, 0, 0, 0)).2.2.2.2.2.1), .int .i64 ((l.getD k (0, 0, 0, 0, 0, 0, 0)).2.2.2.2.2.2)] 29, .blk p #[sva, .int .i64 ((room : Nat) : Int), .int .i64 (nx2 + 1), .bool (lo2 || !(decide (List.length xs2 < room)))] 80, .row (sva) 29 5 (List.length ((addS room xs2 (nx2, ((l.getD k (0, 0, 0, 0, 0, 0, 0)).2.2.2.1), ((l.getD k (0, 0, 0, 0, 0, 0, 0)).2.2.2.2.1), ((l.getD k (0, 0, 0, 0, 0, 0, 0)).2.2.2.2.2.1), ((l.getD k (0, 0, 0, 0, 0, 0, 0)).2.2.2.2.2.2))).1)) (List.flatMap recL ((addS room xs2 (nx2, ((l.getD k (0, 0, 0, 0, 0, 0, 0)).2.2.2.1), ((l.getD k (0, 0, 0, 0, 0, 0, 0)).2.2.2.2.1), ((l.getD k (0, 0, 0, 0, 0, 0, 0)).2.2.2.2.2.1), ((l.getD k (0, 0, 0, 0, 0, 0, 0)).2.2.2.2.2.2))).1)), .blk g9 #[xva, .int .i64 ((room : Nat) : Int), .int .i64 (nx2 + 1), .bool (lo2 || !(decide (List.length xs2 < room)))] 41, .row (xva) 46 5 (List.length (addS room xs2 (nx2, ((l.getD k (0, 0, 0, 0, 0, 0, 0)).2.2.2.1), ((l.getD k (0, 0, 0, 0, 0, 0, 0)).2.2.2.2.1), ((l.getD k (0, 0, 0, 0, 0, 0, 0)).2.2.2.2.2.1), ((l.getD k (0, 0, 0, 0, 0, 0, 0)).2.2.2.2.2.2))).1) (List.flatMap recL ((addS room xs2 (nx2, ((l.getD k (0, 0, 0, 0, 0, 0, 0)).2.2.2.1), ((l.getD k (0, 0, 0, 0, 0, 0, 0)).2.2.2.2.1), ((l.getD k (0, 0, 0, 0, 0, 0, 0)).2.2.2.2.2.1), ((l.getD k (0, 0, 0, 0, 0, 0, 0)).2.2.2.2.2.2))).1)), .blk g8 #[.int .i64 nx2, .int .i64 ((l.getD k (0, 0, 0, 0, 0, 0, 0)).2.2.2.1), .int .i64 ((l.getD k (0, 0, 0, 0, 0, 0, 0)).2.2.2.2.1), .int .i64 ((l.getD k (0, 0, 0, 0, 0, 0, 0)).2.2.2.2.2.1), .int .i64 ((l.getD k (0, 0, 0, 0, 0, 0, 0)).2.2.2.2.2.2)] 29, .blk g2 #[xva, .int .i64 ((room : Nat) : Int), .int .i64 (nx2 + 1), .bool (lo2 || !(decide (List.length xs2 < room)))] 41, .blk g4 #[.int .i64 ((l.getD k (0, 0, 0, 0, 0, 0, 0)).1), .int .i64 ((l.getD k (0, 0, 0, 0, 0, 0, 0)).2.1), .int .i64 ((l.getD k (0, 0, 0, 0, 0, 0, 0)).2.2.1), .int .i64 ((l.getD k (0, 0, 0, 0, 0, 0, 0)).2.2.2.1), .int .i64 ((l.getD k (0, 0, 0, 0, 0, 0, 0)).2.2.2.2.1), .int .i64 ((l.getD k (0, 0, 0, 0, 0, 0, 0)).2.2.2.2.2.1), .int .i64 ((l.getD k (0, 0, 0, 0, 0, 0, 0)).2.2.2.2.2.2)] 43, .blk g1 #[.int .i64 stop] 3] (by kernel_rfl) rfl (by kernel_rfl) (by kernel_rfl) (by kernel_rfl) (by kernel_rfl) (by kernel_rfl) (by kernel_rfl) (by kernel_rfl) (by kernel_rfl) ?_
              clear H
              intro v51 H
              refine x_val (.bool ((addS room xs2 (nx2, ((l.getD k (0, 0, 0, 0, 0, 0, 0)).2.2.2.1), ((l.getD k (0, 0, 0, 0, 0, 0, 0)).2.2.2.2.1), ((l.getD k (0, 0, 0, 0, 0, 0, 0)).2.2.2.2.2.1), ((l.getD k (0, 0, 0, 0, 0, 0, 0)).2.2.2.2.2.2))).2)) (by kernel_rfl) rfl (by kernel_rfl) ?_
              refine x_nil ?_
              refine x_frame' { tmps := #[.int .i64 ((room : Nat) : Int), .slice ad nA cA, .int .i64 stop, undef, undef, .pointer (some ⟨g1, 0, none⟩), (uf4 0), .pointer (some ⟨p, 0, none⟩), .int .i64 0, .pointer (some ⟨g2, 0, none⟩), undef, .pointer (some ⟨g4, 0, none⟩), .int .i64 (max (min ((l.getD k (0, 0, 0, 0, 0, 0, 0)).2.1) 300) 0), .pointer (some ⟨g8, 0, none⟩), .pointer (some ⟨g9, 0, none⟩), .bool ((addS room xs2 (nx2, ((l.getD k (0, 0, 0, 0, 0, 0, 0)).2.2.2.1), ((l.getD k (0, 0, 0, 0, 0, 0, 0)).2.2.2.2.1), ((l.getD k (0, 0, 0, 0, 0, 0, 0)).2.2.2.2.2.1), ((l.getD k (0, 0, 0, 0, 0, 0, 0)).2.2.2.2.2.2))).2), .pointer (some ⟨g10, 0, none⟩), .bool ((addS room xs2 (nx2, ((l.getD k (0, 0, 0, 0, 0, 0, 0)).2.2.2.1), ((l.getD k (0, 0, 0, 0, 0, 0, 0)).2.2.2.2.1), ((l.getD k (0, 0, 0, 0, 0, 0, 0)).2.2.2.2.2.1), ((l.getD k (0, 0, 0, 0, 0, 0, 0)).2.2.2.2.2.2))).2), undef, .bool true, .bool false, .tuple #[.pointer (some ⟨p, 0, none⟩), .int .i64 0], .int .i64 ((room : Nat) : Int), .tuple #[.pointer (some ⟨p, 0, none⟩), .int .i64 0], .pointer (some ⟨p, 0, none⟩), .int .i64 0, .int .i64 ((room : Nat) : Int), .bool false, .bool false, .int .i64 ((room : Nat) : Int), .bool false, .bool false, undef, undef, undef, undef, undef, undef, .int .i64 0, .bool false, .bool false, .pointer (some ⟨p, 0, none⟩), .bool false, .bool false, .slice ad nA cA, .int .i64 ((nA : Nat) : Int), .bool false, .int .i64 ((room : Nat) : Int), .agg #[.slice none 0 0, .int .i64 ((room : Nat) : Int), .int .i64 1, .bool false], .slice ad nA cA, .int .i64 ((nA : Nat) : Int), .int .i64 ((k : Nat) : Int), .bool true, .pointer (some ⟨ga, oa + k * 7, none⟩), .agg #[.int .i64 ((l.getD k (0, 0, 0, 0, 0, 0, 0)).1), .int .i64 ((l.getD k (0, 0, 0, 0, 0, 0, 0)).2.1), .int .i64 ((l.getD k (0, 0, 0, 0, 0, 0, 0)).2.2.1), .int .i64 ((l.getD k (0, 0, 0, 0, 0, 0, 0)).2.2.2.1), .int .i64 ((l.getD k (0, 0, 0, 0, 0, 0, 0)).2.2.2.2.1), .int .i64 ((l.getD k (0, 0, 0, 0, 0, 0, 0)).2.2.2.2.2.1), .int .i64 ((l.getD k (0, 0, 0, 0, 0, 0, 0)).2.2.2.2.2.2)], .pointer (some ⟨g4, 0, none⟩), .int .i64 ((l.getD k (0, 0, 0, 0, 0, 0, 0)).1), .bool true, .pointer (some ⟨g4, 1, none⟩), .int .i64 ((l.getD k (0, 0, 0, 0, 0, 0, 0)).2.1), .int .i64 (min ((l.getD k (0, 0, 0, 0, 0, 0, 0)).2.1) 300), .int .i64 (max (min ((l.getD k (0, 0, 0, 0, 0, 0, 0)).2.1) 300) 0), .pointer (some ⟨g4, 0, none⟩), .int .i64 ((l.getD k (0, 0, 0, 0, 0, 0, 0)).1), .bool false, (uf1 21), (uf1 22), (uf1 23), (uf1 24), (uf1 25), (uf1 26), (uf1 27), (uf1 28), .int .i64 (max (min ((l.getD k (0, 0, 0, 0, 0, 0, 0)).2.1) 300) 0), .int .i64 ((j : Nat) : Int), .bool true, .pointer (some ⟨g4, 0, none⟩), .int .i64 ((l.getD k (0, 0, 0, 0, 0, 0, 0)).1), .bool true, .bool true, .pointer (some ⟨g4, 0, none⟩), .int .i64 ((l.getD k (0, 0, 0, 0, 0, 0, 0)).1), .bool false, .bool false, .pointer (some ⟨g4, 2, none⟩), .agg #[.int .i64 ((l.getD k (0, 0, 0, 0, 0, 0, 0)).2.2.1), .int .i64 ((l.getD k (0, 0, 0, 0, 0, 0, 0)).2.2.2.1), .int .i64 ((l.getD k (0, 0, 0, 0, 0, 0, 0)).2.2.2.2.1), .int .i64 ((l.getD k (0, 0, 0, 0, 0, 0, 0)).2.2.2.2.2.1), .int .i64 ((l.getD k (0, 0, 0, 0, 0, 0, 0)).2.2.2.2.2.2)], .pointer (some ⟨g2, 2, none⟩), .int .i64 nx2, .pointer (some ⟨g8, 0, none⟩), .tuple #[.agg #[xva, .int .i64 ((room : Nat) : Int), .int .i64 (nx2 + 1), .bool (lo2 || !(decide (List.length xs2 < room)))], .bool ((addS room xs2 (nx2, ((l.getD k (0, 0, 0, 0, 0, 0, 0)).2.2.2.1), ((l.getD k (0, 0, 0, 0, 0, 0, 0)).2.2.2.2.1), ((l.getD k (0, 0, 0, 0, 0, 0, 0)).2.2.2.2.2.1), ((l.getD k (0, 0, 0, 0, 0, 0, 0)).2.2.2.2.2.2))).2)], .agg #[xv2, .int .i64 ((room : Nat) : Int), .int .i64 nx2, .bool lo2], .pointer (some ⟨g4, 2, none⟩), .agg #[.int .i64 ((l.getD k (0, 0, 0, 0, 0, 0, 0)).2.2.1), .int .i64 ((l.getD k (0, 0, 0, 0, 0, 0, 0)).2.2.2.1), .int .i64 ((l.getD k (0, 0, 0, 0, 0, 0, 0)).2.2.2.2.1), .int .i64 ((l.getD k (0, 0, 0, 0, 0, 0, 0)).2.2.2.2.2.1), .int .i64 ((l.getD k (0, 0, 0, 0, 0, 0, 0)).2.2.2.2.2.2)], .tuple #[.agg #[xva, .int .i64 ((room : Nat) : Int), .int .i64 (nx2 + 1), .bool (lo2 || !(decide (List.length xs2 < room)))], .bool ((addS room xs2 (nx2, ((l.getD k (0, 0, 0, 0, 0, 0, 0)).2.2.2.1), ((l.getD k (0, 0, 0, 0, 0, 0, 0)).2.2.2.2.1), ((l.getD k (0, 0, 0, 0, 0, 0, 0)).2.2.2.2.2.1), ((l.getD k (0, 0, 0, 0, 0, 0, 0)).2.2.2.2.2.2))).2)], .agg #[xva, .int .i64 ((room : Nat) : Int), .int .i64 (nx2 + 1), .bool (lo2 || !(decide (List.length xs2 < room)))], .bool ((addS room xs2 (nx2, ((l.getD k (0, 0, 0, 0, 0, 0, 0)).2.2.2.1), ((l.getD k (0, 0, 0, 0, 0, 0, 0)).2.2.2.2.1), ((l.getD k (0, 0, 0, 0, 0, 0, 0)).2.2.2.2.2.1), ((l.getD k (0, 0, 0, 0, 0, 0, 0)).2.2.2.2.2.2))).2), .agg #[xva, .int .i64 ((room : Nat) : Int), .int .i64 (nx2 + 1), .bool (lo2 || !(decide (List.length xs2 < room)))], .tuple #[.agg #[.int .i64 nx2, .int .i64 ((l.getD k (0, 0, 0, 0, 0, 0, 0)).2.2.2.1), .int .i64 ((l.getD k (0, 0, 0, 0, 0, 0, 0)).2.2.2.2.1), .int .i64 ((l.getD k (0, 0, 0, 0, 0, 0, 0)).2.2.2.2.2.1), .int .i64 ((l.getD k (0, 0, 0, 0, 0, 0, 0)).2.2.2.2.2.2)], .bool ((addS room xs2 (nx2, ((l.getD k (0, 0, 0, 0, 0, 0, 0)).2.2.2.1), ((l.getD k (0, 0, 0, 0, 0, 0, 0)).2.2.2.2.1), ((l.getD k (0, 0, 0, 0, 0, 0, 0)).2.2.2.2.2.1), ((l.getD k (0, 0, 0, 0, 0, 0, 0)).2.2.2.2.2.2))).2)], .pointer (some ⟨p, 0, none⟩), .pointer (some ⟨g4, 2, none⟩), .agg #[.int .i64 ((l.getD k (0, 0, 0, 0, 0, 0, 0)).2.2.1), .int .i64 ((l.getD k (0, 0, 0, 0, 0, 0, 0)).2.2.2.1), .int .i64 ((l.getD k (0, 0, 0, 0, 0, 0, 0)).2.2.2.2.1), .int .i64 ((l.getD k (0, 0, 0, 0, 0, 0, 0)).2.2.2.2.2.1), .int .i64 ((l.getD k (0, 0, 0, 0, 0, 0, 0)).2.2.2.2.2.2)], .tuple #[.agg #[.int .i64 nx2, .int .i64 ((l.getD k (0, 0, 0, 0, 0, 0, 0)).2.2.2.1), .int .i64 ((l.getD k (0, 0, 0, 0, 0, 0, 0)).2.2.2.2.1), .int .i64 ((l.getD k (0, 0, 0, 0, 0, 0, 0)).2.2.2.2.2.1), .int .i64 ((l.getD k (0, 0, 0, 0, 0, 0, 0)).2.2.2.2.2.2)], .bool ((addS room xs2 (nx2, ((l.getD k (0, 0, 0, 0, 0, 0, 0)).2.2.2.1), ((l.getD k (0, 0, 0, 0, 0, 0, 0)).2.2.2.2.1), ((l.getD k (0, 0, 0, 0, 0, 0, 0)).2.2.2.2.2.1), ((l.getD k (0, 0, 0, 0, 0, 0, 0)).2.2.2.2.2.2))).2)], .agg #[.int .i64 nx2, .int .i64 ((l.getD k (0, 0, 0, 0, 0, 0, 0)).2.2.2.1), .int .i64 ((l.getD k (0, 0, 0, 0, 0, 0, 0)).2.2.2.2.1), .int .i64 ((l.getD k (0, 0, 0, 0, 0, 0, 0)).2.2.2.2.2.1), .int .i64 ((l.getD k (0, 0, 0, 0, 0, 0, 0)).2.2.2.2.2.2)], .bool ((addS room xs2 (nx2, ((l.getD k (0, 0, 0, 0, 0, 0, 0)).2.2.2.1), ((l.getD k (0, 0, 0, 0, 0, 0, 0)).2.2.2.2.1), ((l.getD k (0, 0, 0, 0, 0, 0, 0)).2.2.2.2.2.1), ((l.getD k (0, 0, 0, 0, 0, 0, 0)).2.2.2.2.2.2))).2), (uf4 35), (uf4 36), (uf4 37), (uf4 38), (uf4 39), (uf4 40), (uf4 41), (uf4 42), (uf4 43), (uf1 69), (uf1 70), (uf1 71), (uf1 72), (uf1 73), undef, undef, undef, undef, undef, undef, undef, undef, undef, undef, undef, undef, undef, undef, undef, undef, undef, undef, undef, undef, undef, undef, undef, undef, undef], defers := [] } (by kernel_rfl) ?_
              refine x_then ?_
              refine x_seq ?_
              refine x_region ?_
              refine x_loadn (t := 29) H 0 g10 0 #[.int .i64 nx2, .int .i64 ((l.getD k (0, 0, 0, 0, 0, 0, 0)).2.2.2.1), .int .i64 ((l.getD k (0, 0, 0, 0, 0, 0, 0)).2.2.2.2.1), .int .i64 ((l.getD k (0, 0, 0, 0, 0, 0, 0)).2.2.2.2.2.1), .int .i64 ((l.getD k (0, 0, 0, 0, 0, 0, 0)).2.2.2.2.2.2)] 29 [.int .i64 nx2, .int .i64 ((l.getD k (0, 0, 0, 0, 0, 0, 0)).2.2.2.1), .int .i64 ((l.getD k (0, 0, 0, 0, 0, 0, 0)).2.2.2.2.1), .int .i64 ((l.getD k (0, 0, 0, 0, 0, 0, 0)).2.2.2.2.2.1), .int .i64 ((l.getD k (0, 0, 0, 0, 0, 0, 0)).2.2.2.2.2.2)] (by kernel_rfl) (by kernel_rfl) (by kernel_rfl) rfl (by kernel_rfl) (by kernel_rfl) ?_
              refine x_loadn (t := 29) H 5 g8 0 #[.int .i64 nx2, .int .i64 ((l.getD k (0, 0, 0, 0, 0, 0, 0)).2.2.2.1), .int .i64 ((l.getD k (0, 0, 0, 0, 0, 0, 0)).2.2.2.2.1), .int .i64 ((l.getD k (0, 0, 0, 0, 0, 0, 0)).2.2.2.2.2.1), .int .i64 ((l.getD k (0, 0, 0, 0, 0, 0, 0)).2.2.2.2.2.2)] 29 [.int .i64 nx2, .int .i64 ((l.getD k (0, 0, 0, 0, 0, 0, 0)).2.2.2.1), .int .i64 ((l.getD k (0, 0, 0, 0, 0, 0, 0)).2.2.2.2.1), .int .i64 ((l.getD k (0, 0, 0, 0, 0, 0, 0)).2.2.2.2.2.1), .int .i64 ((l.getD k (0, 0, 0, 0, 0, 0, 0)).2.2.2.2.2.2)] (by kernel_rfl) (by kernel_rfl) (by kernel_rfl) rfl (by kernel_rfl) (by kernel_rfl) ?_
              have h22 : (decide ((nx2 : Int) = nx2) && (decide ((((l.getD k (0, 0, 0, 0, 0, 0, 0)).2.2.2.1) : Int) = ((l.getD k (0, 0, 0, 0, 0, 0, 0)).2.2.2.1)) && (decide ((((l.getD k (0, 0, 0, 0, 0, 0, 0)).2.2.2.2.1) : Int) = ((l.getD k (0, 0, 0, 0, 0, 0, 0)).2.2.2.2.1)) && (decide ((((l.getD k (0, 0, 0, 0, 0, 0, 0)).2.2.2.2.2.1) : Int) = ((l.getD k (0, 0, 0, 0, 0, 0, 0)).2.2.2.2.2.1)) && (decide ((((l.getD k (0, 0, 0, 0, 0, 0, 0)).2.2.2.2.2.2) : Int) = ((l.getD k (0, 0, 0, 0, 0, 0, 0)).2.2.2.2.2.2)) && true))))) = true := by simp
              refine x_val (.bool false) (by kernel_rfl) rfl ((run_neS (t := 29) (x := .tmp 104) (y := .tmp 105) (xs := #[.int .i64 nx2, .int .i64 ((l.getD k (0, 0, 0, 0, 0, 0, 0)).2.2.2.1), .int .i64 ((l.getD k (0, 0, 0, 0, 0, 0, 0)).2.2.2.2.1), .int .i64 ((l.getD k (0, 0, 0, 0, 0, 0, 0)).2.2.2.2.2.1), .int .i64 ((l.getD k (0, 0, 0, 0, 0, 0, 0)).2.2.2.2.2.2)]) (ys := #[.int .i64 nx2, .int .i64 ((l.getD k (0, 0, 0, 0, 0, 0, 0)).2.2.2.1), .int .i64 ((l.getD k (0, 0, 0, 0, 0, 0, 0)).2.2.2.2.1), .int .i64 ((l.getD k (0, 0, 0, 0, 0, 0, 0)).2.2.2.2.2.1), .int .i64 ((l.getD k (0, 0, 0, 0, 0, 0, 0)).2.2.2.2.2.2)]) (B := decide ((nx2 : Int) = nx2) && (decide ((((l.getD k (0, 0, 0, 0, 0, 0, 0)).2.2.2.1) : Int) = ((l.getD k (0, 0, 0, 0, 0, 0, 0)).2.2.2.1)) && (decide ((((l.getD k (0, 0, 0, 0, 0, 0, 0)).2.2.2.2.1) : Int) = ((l.getD k (0, 0, 0, 0, 0, 0, 0)).2.2.2.2.1)) && (decide ((((l.getD k (0, 0, 0, 0, 0, 0, 0)).2.2.2.2.2.1) : Int) = ((l.getD k (0, 0, 0, 0, 0, 0, 0)).2.2.2.2.2.1)) && (decide ((((l.getD k (0, 0, 0, 0, 0, 0, 0)).2.2.2.2.2.2) : Int) = ((l.getD k (0, 0, 0, 0, 0, 0, 0)).2.2.2.2.2.2)) && true))))) (by kernel_rfl) (by kernel_rfl) (by kernel_rfl)).trans (by rw [h22]; rfl)) ?_
              refine x_val (.bool false) (by kernel_rfl) rfl (by kernel_rfl) ?_
              refine x_val (.bool ((addS room xs2 (nx2, ((l.getD k (0, 0, 0, 0, 0, 0, 0)).2.2.2.1), ((l.getD k (0, 0, 0, 0, 0, 0, 0)).2.2.2.2.1), ((l.getD k (0, 0, 0, 0, 0, 0, 0)).2.2.2.2.2.1), ((l.getD k (0, 0, 0, 0, 0, 0, 0)).2.2.2.2.2.2))).2)) (by kernel_rfl) rfl (by kernel_rfl) ?_
              refine x_val (.bool ((addS room xs2 (nx2, ((l.getD k (0, 0, 0, 0, 0, 0, 0)).2.2.2.1), ((l.getD k (0, 0, 0, 0, 0, 0, 0)).2.2.2.2.1), ((l.getD k (0, 0, 0, 0, 0, 0, 0)).2.2.2.2.2.1), ((l.getD k (0, 0, 0, 0, 0, 0, 0)).2.2.2.2.2.2))).2)) (by kernel_rfl) rfl (by kernel_rfl) ?_
              refine x_eq (.bool false) (show Value.bool (((addS room xs2 (nx2, ((l.getD k (0, 0, 0, 0, 0, 0, 0)).2.2.2.1), ((l.getD k (0, 0, 0, 0, 0, 0, 0)).2.2.2.2.1), ((l.getD k (0, 0, 0, 0, 0, 0, 0)).2.2.2.2.2.1), ((l.getD k (0, 0, 0, 0, 0, 0, 0)).2.2.2.2.2.2))).2) != ((addS room xs2 (nx2, ((l.getD k (0, 0, 0, 0, 0, 0, 0)).2.2.2.1), ((l.getD k (0, 0, 0, 0, 0, 0, 0)).2.2.2.2.1), ((l.getD k (0, 0, 0, 0, 0, 0, 0)).2.2.2.2.2.1), ((l.getD k (0, 0, 0, 0, 0, 0, 0)).2.2.2.2.2.2))).2)) = Value.bool false by simp) (by kernel_rfl) rfl (by kernel_rfl) ?_
              refine x_val (.bool false) (by kernel_rfl) rfl (by kernel_rfl) ?_
              refine x_nil ?_
              refine x_then ?_
              refine x_f (by kernel_rfl) ?_
              refine x_skipc ?_
              refine x_blk ?_
              refine x_then ?_
              refine x_region ?_
              refine x_ar (((j : Nat) : Int) + 1) ⟨by omega, by omega⟩ (by kernel_rfl) rfl (by kernel_rfl) ?_
              refine x_val (.int .i64 (((j : Nat) : Int) + 1)) (by kernel_rfl) rfl (by kernel_rfl) ?_
              refine x_nil ?_
              refine x_then ?_
              replace H := H.pick [1, 2, 6, 4, 7, 8] [.blk p #[sva, .int .i64 ((room : Nat) : Int), .int .i64 (nx2 + 1), .bool (lo2 || !(decide (List.length xs2 < room)))] 80, .row (sva) 29 5 (List.length ((addS room xs2 (nx2, ((l.getD k (0, 0, 0, 0, 0, 0, 0)).2.2.2.1), ((l.getD k (0, 0, 0, 0, 0, 0, 0)).2.2.2.2.1), ((l.getD k (0, 0, 0, 0, 0, 0, 0)).2.2.2.2.2.1), ((l.getD k (0, 0, 0, 0, 0, 0, 0)).2.2.2.2.2.2))).1)) (List.flatMap recL ((addS room xs2 (nx2, ((l.getD k (0, 0, 0, 0, 0, 0, 0)).2.2.2.1), ((l.getD k (0, 0, 0, 0, 0, 0, 0)).2.2.2.2.1), ((l.getD k (0, 0, 0, 0, 0, 0, 0)).2.2.2.2.2.1), ((l.getD k (0, 0, 0, 0, 0, 0, 0)).2.2.2.2.2.2))).1)), .blk g2 #[xva, .int .i64 ((room : Nat) : Int), .int .i64 (nx2 + 1), .bool (lo2 || !(decide (List.length xs2 < room)))] 41, .row (xva) 46 5 (List.length (addS room xs2 (nx2, ((l.getD k (0, 0, 0, 0, 0, 0, 0)).2.2.2.1), ((l.getD k (0, 0, 0, 0, 0, 0, 0)).2.2.2.2.1), ((l.getD k (0, 0, 0, 0, 0, 0, 0)).2.2.2.2.2.1), ((l.getD k (0, 0, 0, 0, 0, 0, 0)).2.2.2.2.2.2))).1) (List.flatMap recL ((addS room xs2 (nx2, ((l.getD k (0, 0, 0, 0, 0, 0, 0)).2.2.2.1), ((l.getD k (0, 0, 0, 0, 0, 0, 0)).2.2.2.2.1), ((l.getD k (0, 0, 0, 0, 0, 0, 0)).2.2.2.2.2.1), ((l.getD k (0, 0, 0, 0, 0, 0, 0)).2.2.2.2.2.2))).1)), .blk g4 #[.int .i64 ((l.getD k (0, 0, 0, 0, 0, 0, 0)).1), .int .i64 ((l.getD k (0, 0, 0, 0, 0, 0, 0)).2.1), .int .i64 ((l.getD k (0, 0, 0, 0, 0, 0, 0)).2.2.1), .int .i64 ((l.getD k (0, 0, 0, 0, 0, 0, 0)).2.2.2.1), .int .i64 ((l.getD k (0, 0, 0, 0, 0, 0, 0)).2.2.2.2.1), .int .i64 ((l.getD k (0, 0, 0, 0, 0, 0, 0)).2.2.2.2.2.1), .int .i64 ((l.getD k (0, 0, 0, 0, 0, 0, 0)).2.2.2.2.2.2)] 43, .blk g1 #[.int .i64 stop] 3] (by decide) (by kernel_rfl)
              exact ⟨(j + 1, sva, xva, ((addS room xs2 (nx2, ((l.getD k (0, 0, 0, 0, 0, 0, 0)).2.2.2.1), ((l.getD k (0, 0, 0, 0, 0, 0, 0)).2.2.2.2.1), ((l.getD k (0, 0, 0, 0, 0, 0, 0)).2.2.2.2.2.1), ((l.getD k (0, 0, 0, 0, 0, 0, 0)).2.2.2.2.2.2))).1), (nx2 + 1), (lo2 || !(decide (List.length xs2 < room)))), (by dsimp only; omega), (nthV [(uf4 0), .pointer (some ⟨g8, 0, none⟩), .pointer (some ⟨g9, 0, none⟩), .bool ((addS room xs2 (nx2, ((l.getD k (0, 0, 0, 0, 0, 0, 0)).2.2.2.1), ((l.getD k (0, 0, 0, 0, 0, 0, 0)).2.2.2.2.1), ((l.getD k (0, 0, 0, 0, 0, 0, 0)).2.2.2.2.2.1), ((l.getD k (0, 0, 0, 0, 0, 0, 0)).2.2.2.2.2.2))).2), .pointer (some ⟨g10, 0, none⟩), .bool ((addS room xs2 (nx2, ((l.getD k (0, 0, 0, 0, 0, 0, 0)).2.2.2.1), ((l.getD k (0, 0, 0, 0, 0, 0, 0)).2.2.2.2.1), ((l.getD k (0, 0, 0, 0, 0, 0, 0)).2.2.2.2.2.1), ((l.getD k (0, 0, 0, 0, 0, 0, 0)).2.2.2.2.2.2))).2), .bool true, .pointer (some ⟨g4, 0, none⟩), .int .i64 ((l.getD k (0, 0, 0, 0, 0, 0, 0)).1), .bool true, .bool true, .pointer (some ⟨g4, 0, none⟩), .int .i64 ((l.getD k (0, 0, 0, 0, 0, 0, 0)).1), .bool false, .bool false, .pointer (some ⟨g4, 2, none⟩), .agg #[.int .i64 ((l.getD k (0, 0, 0, 0, 0, 0, 0)).2.2.1), .int .i64 ((l.getD k (0, 0, 0, 0, 0, 0, 0)).2.2.2.1), .int .i64 ((l.getD k (0, 0, 0, 0, 0, 0, 0)).2.2.2.2.1), .int .i64 ((l.getD k (0, 0, 0, 0, 0, 0, 0)).2.2.2.2.2.1), .int .i64 ((l.getD k (0, 0, 0, 0, 0, 0, 0)).2.2.2.2.2.2)], .pointer (some ⟨g2, 2, none⟩), .int .i64 nx2, .pointer (some ⟨g8, 0, none⟩), .tuple #[.agg #[xva, .int .i64 ((room : Nat) : Int), .int .i64 (nx2 + 1), .bool (lo2 || !(decide (List.length xs2 < room)))], .bool ((addS room xs2 (nx2, ((l.getD k (0, 0, 0, 0, 0, 0, 0)).2.2.2.1), ((l.getD k (0, 0, 0, 0, 0, 0, 0)).2.2.2.2.1), ((l.getD k (0, 0, 0, 0, 0, 0, 0)).2.2.2.2.2.1), ((l.getD k (0, 0, 0, 0, 0, 0, 0)).2.2.2.2.2.2))).2)], .agg #[xv2, .int .i64 ((room : Nat) : Int), .int .i64 nx2, .bool lo2], .pointer (some ⟨g4, 2, none⟩), .agg #[.int .i64 ((l.getD k (0, 0, 0, 0, 0, 0, 0)).2.2.1), .int .i64 ((l.getD k (0, 0, 0, 0, 0, 0, 0)).2.2.2.1), .int .i64 ((l.getD k (0, 0, 0, 0, 0, 0, 0)).2.2.2.2.1), .int .i64 ((l.getD k (0, 0, 0, 0, 0, 0, 0)).2.2.2.2.2.1), .int .i64 ((l.getD k (0, 0, 0, 0, 0, 0, 0)).2.2.2.2.2.2)], .tuple #[.agg #[xva, .int .i64 ((room : Nat) : Int), .int .i64 (nx2 + 1), .bool (lo2 || !(decide (List.length xs2 < room)))], .bool ((addS room xs2 (nx2, ((l.getD k (0, 0, 0, 0, 0, 0, 0)).2.2.2.1), ((l.getD k (0, 0, 0, 0, 0, 0, 0)).2.2.2.2.1), ((l.getD k (0, 0, 0, 0, 0, 0, 0)).2.2.2.2.2.1), ((l.getD k (0, 0, 0, 0, 0, 0, 0)).2.2.2.2.2.2))).2)], .agg #[xva, .int .i64 ((room : Nat) : Int), .int .i64 (nx2 + 1), .bool (lo2 || !(decide (List.length xs2 < room)))], .bool ((addS room xs2 (nx2, ((l.getD k (0, 0, 0, 0, 0, 0, 0)).2.2.2.1), ((l.getD k (0, 0, 0, 0, 0, 0, 0)).2.2.2.2.1), ((l.getD k (0, 0, 0, 0, 0, 0, 0)).2.2.2.2.2.1), ((l.getD k (0, 0, 0, 0, 0, 0, 0)).2.2.2.2.2.2))).2), .agg #[xva, .int .i64 ((room : Nat) : Int), .int .i64 (nx2 + 1), .bool (lo2 || !(decide (List.length xs2 < room)))], .tuple #[.agg #[.int .i64 nx2, .int .i64 ((l.getD k (0, 0, 0, 0, 0, 0, 0)).2.2.2.1), .int .i64 ((l.getD k (0, 0, 0, 0, 0, 0, 0)).2.2.2.2.1), .int .i64 ((l.getD k (0, 0, 0, 0, 0, 0, 0)).2.2.2.2.2.1), .int .i64 ((l.getD k (0, 0, 0, 0, 0, 0, 0)).2.2.2.2.2.2)], .bool ((addS room xs2 (nx2, ((l.getD k (0, 0, 0, 0, 0, 0, 0)).2.2.2.1), ((l.getD k (0, 0, 0, 0, 0, 0, 0)).2.2.2.2.1), ((l.getD k (0, 0, 0, 0, 0, 0, 0)).2.2.2.2.2.1), ((l.getD k (0, 0, 0, 0, 0, 0, 0)).2.2.2.2.2.2))).2)], .pointer (some ⟨p, 0, none⟩), .pointer (some ⟨g4, 2, none⟩), .agg #[.int .i64 ((l.getD k (0, 0, 0, 0, 0, 0, 0)).2.2.1), .int .i64 ((l.getD k (0, 0, 0, 0, 0, 0, 0)).2.2.2.1), .int .i64 ((l.getD k (0, 0, 0, 0, 0, 0, 0)).2.2.2.2.1), .int .i64 ((l.getD k (0, 0, 0, 0, 0, 0, 0)).2.2.2.2.2.1), .int .i64 ((l.getD k (0, 0, 0, 0, 0, 0, 0)).2.2.2.2.2.2)], .tuple #[.agg #[.int .i64 nx2, .int .i64 ((l.getD k (0, 0, 0, 0, 0, 0, 0)).2.2.2.1), .int .i64 ((l.getD k (0, 0, 0, 0, 0, 0, 0)).2.2.2.2.1), .int .i64 ((l.getD k (0, 0, 0, 0, 0, 0, 0)).2.2.2.2.2.1), .int .i64 ((l.getD k (0, 0, 0, 0, 0, 0, 0)).2.2.2.2.2.2)], .bool ((addS room xs2 (nx2, ((l.getD k (0, 0, 0, 0, 0, 0, 0)).2.2.2.1), ((l.getD k (0, 0, 0, 0, 0, 0, 0)).2.2.2.2.1), ((l.getD k (0, 0, 0, 0, 0, 0, 0)).2.2.2.2.2.1), ((l.getD k (0, 0, 0, 0, 0, 0, 0)).2.2.2.2.2.2))).2)], .agg #[.int .i64 nx2, .int .i64 ((l.getD k (0, 0, 0, 0, 0, 0, 0)).2.2.2.1), .int .i64 ((l.getD k (0, 0, 0, 0, 0, 0, 0)).2.2.2.2.1), .int .i64 ((l.getD k (0, 0, 0, 0, 0, 0, 0)).2.2.2.2.2.1), .int .i64 ((l.getD k (0, 0, 0, 0, 0, 0, 0)).2.2.2.2.2.2)], .bool ((addS room xs2 (nx2, ((l.getD k (0, 0, 0, 0, 0, 0, 0)).2.2.2.1), ((l.getD k (0, 0, 0, 0, 0, 0, 0)).2.2.2.2.1), ((l.getD k (0, 0, 0, 0, 0, 0, 0)).2.2.2.2.2.1), ((l.getD k (0, 0, 0, 0, 0, 0, 0)).2.2.2.2.2.2))).2), .agg #[.int .i64 nx2, .int .i64 ((l.getD k (0, 0, 0, 0, 0, 0, 0)).2.2.2.1), .int .i64 ((l.getD k (0, 0, 0, 0, 0, 0, 0)).2.2.2.2.1), .int .i64 ((l.getD k (0, 0, 0, 0, 0, 0, 0)).2.2.2.2.2.1), .int .i64 ((l.getD k (0, 0, 0, 0, 0, 0, 0)).2.2.2.2.2.2)], .agg #[.int .i64 nx2, .int .i64 ((l.getD k (0, 0, 0, 0, 0, 0, 0)).2.2.2.1), .int .i64 ((l.getD k (0, 0, 0, 0, 0, 0, 0)).2.2.2.2.1), .int .i64 ((l.getD k (0, 0, 0, 0, 0, 0, 0)).2.2.2.2.2.1), .int .i64 ((l.getD k (0, 0, 0, 0, 0, 0, 0)).2.2.2.2.2.2)], .bool false, .bool false, .bool ((addS room xs2 (nx2, ((l.getD k (0, 0, 0, 0, 0, 0, 0)).2.2.2.1), ((l.getD k (0, 0, 0, 0, 0, 0, 0)).2.2.2.2.1), ((l.getD k (0, 0, 0, 0, 0, 0, 0)).2.2.2.2.2.1), ((l.getD k (0, 0, 0, 0, 0, 0, 0)).2.2.2.2.2.2))).2), .bool ((addS room xs2 (nx2, ((l.getD k (0, 0, 0, 0, 0, 0, 0)).2.2.2.1), ((l.getD k (0, 0, 0, 0, 0, 0, 0)).2.2.2.2.1), ((l.getD k (0, 0, 0, 0, 0, 0, 0)).2.2.2.2.2.1), ((l.getD k (0, 0, 0, 0, 0, 0, 0)).2.2.2.2.2.2))).2), .bool false, .bool false, .int .i64 (((j : Nat) : Int) + 1)]), (by kernel_rfl), H, (by omega), (addS_len _ _ _ (by omega)), (by omega)⟩
            · skip
              have h19p := of_decide_eq_true h19
              exact absurd h19p (by omega)
        · skip
          have h17p := of_decide_eq_true h17
          exact absurd h17p (by omega)
  · skip
    have h1p := of_decide_eq_true h1
    refine x_t (by kernel_rfl) ?_
    refine x_seq ?_
    refine x_region ?_
    refine x_val (.bool true) (by kernel_rfl) rfl (by kernel_rfl) ?_
    refine x_nil ?_
    refine x_then ?_
    refine x_retc ?_
    refine x_then_ret ?_
    refine x_ret0 (.bool true) (by kernel_rfl) (by kernel_rfl) ?_
    exact ⟨rfl, H.below⟩

end Go.Proofs.Ytpeefnbcgilihaa
