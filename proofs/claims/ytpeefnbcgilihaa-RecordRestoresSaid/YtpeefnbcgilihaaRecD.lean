/- The document's example of a log; the law RecordGrave, walked. -/
import Derived.Test.YtpeefnbcgilihaaRecC
namespace Go.Proofs.Ytpeefnbcgilihaa
open Go Go.RowKit
set_option linter.unusedVariables false
set_option linter.unusedSimpArgs false

set_option maxRecDepth 100000 in
set_option maxHeartbeats 4000000 in
theorem anchor17 (w0 : World) :
    Calls Try.prog 10 #[] w0 fun e w' => e = .returned (.bool true) ∧ Below w0.heap.size w0 w' := by
  refine x_enter Try.func10 rfl #[undef, undef, undef, undef, undef, undef, undef, undef, undef, undef, undef, undef, undef, undef, undef, undef, undef, undef, undef, undef, undef, undef, undef, undef, undef, undef, undef, undef, undef, undef, undef, undef, undef, undef, undef, undef, undef, undef, undef, undef, undef, undef, undef, undef, undef, undef, undef, undef, undef, undef, undef] (by kernel_rfl) ?_
  have H := Hs.nil w0
  refine x_seq ?_
  refine x_region ?_
  refine x_val (.bool false) (by kernel_rfl) rfl (by kernel_rfl) ?_
  refine x_nil ?_
  refine x_then ?_
  refine x_seq ?_
  refine x_region ?_
  refine x_call (by kernel_rfl) rfl (by kernel_rfl) (RNew_yes 1 (by omega) (by omega) _) ?_
  rintro _ v1 ⟨p, rfl, hN'⟩
  refine ⟨_, rfl, ?_⟩
  replace H := H.more hN'
  clear hN'
  replace H : Hs [] w0 _ [.blk p #[.slice none 0 0, .int .i64 ((1 : Nat) : Int), .int .i64 1, .bool false] 80, .row (.slice none 0 0) 29 5 (List.length ([] : List Rec)) (List.flatMap recL ([] : List Rec))] := H
  refine x_val (.tuple #[.pointer (some ⟨p, 0, none⟩), .int .i64 0]) (by kernel_rfl) rfl (by kernel_rfl) ?_
  refine x_val (.pointer (some ⟨p, 0, none⟩)) (by kernel_rfl) rfl (by kernel_rfl) ?_
  refine x_val (.int .i64 0) (by kernel_rfl) rfl (by kernel_rfl) ?_
  refine x_val (.pointer (some ⟨p, 0, none⟩)) (by kernel_rfl) rfl (by kernel_rfl) ?_
  refine x_val (.int .i64 0) (by kernel_rfl) rfl (by kernel_rfl) ?_
  refine x_nil ?_
  refine x_then ?_
  refine x_seq ?_
  refine x_seq ?_
  refine x_region ?_
  refine x_val (.int .i64 0) (by kernel_rfl) rfl (by kernel_rfl) ?_
  refine x_val (.bool false) (by kernel_rfl) rfl (by kernel_rfl) ?_
  refine x_val (.bool false) (by kernel_rfl) rfl (by kernel_rfl) ?_
  refine x_val (.pointer (some ⟨p, 0, none⟩)) (by kernel_rfl) rfl (by kernel_rfl) ?_
  refine x_val (.bool false) (by kernel_rfl) rfl (by kernel_rfl) ?_
  refine x_val (.bool false) (by kernel_rfl) rfl (by kernel_rfl) ?_
  refine x_nil ?_
  refine x_then ?_
  refine x_f (by kernel_rfl) ?_
  refine x_skipc ?_
  refine x_then ?_
  refine x_seq ?_
  refine x_region ?_
  refine x_val (.pointer (some ⟨p, 0, none⟩)) (by kernel_rfl) rfl (by kernel_rfl) ?_
  refine x_val (.agg #[.int .i64 0, .int .i64 0, .int .i64 1, .int .i64 0, .int .i64 0]) (by kernel_rfl) rfl (by kernel_rfl) ?_
  refine x_call (by kernel_rfl) rfl (by kernel_rfl) (Hs.useE (A := [.blk p #[.slice none 0 0, .int .i64 ((1 : Nat) : Int), .int .i64 1, .bool false] 80, .row (.slice none 0 0) 29 5 (List.length ([] : List Rec)) (List.flatMap recL ([] : List Rec))]) (R := []) (fun sv1 => [.blk p #[sv1, .int .i64 ((1 : Nat) : Int), .int .i64 (1 + 1), .bool (false || !(decide (List.length ([] : List Rec) < 1)))] 80, .row (sv1) 29 5 (List.length ((addS 1 ([] : List Rec) (1, 0, 1, 0, 0)).1)) (List.flatMap recL ((addS 1 ([] : List Rec) (1, 0, 1, 0, 0)).1))]) (fun _ => .tuple #[.agg #[.int .i64 1, .int .i64 0, .int .i64 1, .int .i64 0, .int .i64 0], .bool ((addS 1 ([] : List Rec) (1, 0, 1, 0, 0)).2)]) (H.pick [0, 1] _ (by decide) (by kernel_rfl)) (fun h => Add_any 0 0 1 0 0 (by first | omega | decide) (by omega) (by omega) (by omega) _ h)) ?_
  rintro _ v2 ⟨sv1, rfl, H'⟩
  refine ⟨_, rfl, ?_⟩
  clear H
  have H : Hs [] w0 _ [.blk p #[sv1, .int .i64 ((1 : Nat) : Int), .int .i64 (1 + 1), .bool (false || !(decide (List.length ([] : List Rec) < 1)))] 80, .row (sv1) 29 5 (List.length ((addS 1 ([] : List Rec) (1, 0, 1, 0, 0)).1)) (List.flatMap recL ((addS 1 ([] : List Rec) (1, 0, 1, 0, 0)).1))] := H'
  clear H'
  refine x_val (.tuple #[.agg #[.int .i64 1, .int .i64 0, .int .i64 1, .int .i64 0, .int .i64 0], .bool ((addS 1 ([] : List Rec) (1, 0, 1, 0, 0)).2)]) (by kernel_rfl) rfl (by kernel_rfl) ?_
  refine x_val (.agg #[.int .i64 1, .int .i64 0, .int .i64 1, .int .i64 0, .int .i64 0]) (by kernel_rfl) rfl (by kernel_rfl) ?_
  refine x_val (.bool ((addS 1 ([] : List Rec) (1, 0, 1, 0, 0)).2)) (by kernel_rfl) rfl (by kernel_rfl) ?_
  refine x_box H #[.int .i64 0, .int .i64 0, .int .i64 0, .int .i64 0, .int .i64 0] 29 (by kernel_rfl) rfl (by kernel_rfl) ?_
  clear H
  intro v3 g1 H
  refine x_store (t := 29) (v := .agg #[.int .i64 1, .int .i64 0, .int .i64 1, .int .i64 0, .int .i64 0]) H 0 g1 0 #[.int .i64 0, .int .i64 0, .int .i64 0, .int .i64 0, .int .i64 0] #[.int .i64 1, .int .i64 0, .int .i64 1, .int .i64 0, .int .i64 0] 29 [.int .i64 1, .int .i64 0, .int .i64 1, .int .i64 0, .int .i64 0] [.blk g1 #[.int .i64 1, .int .i64 0, .int .i64 1, .int .i64 0, .int .i64 0] 29, .blk p #[sv1, .int .i64 ((1 : Nat) : Int), .int .i64 (1 + 1), .bool (false || !(decide (List.length ([] : List Rec) < 1)))] 80, .row (sv1) 29 5 (List.length ((addS 1 ([] : List Rec) (1, 0, 1, 0, 0)).1)) (List.flatMap recL ((addS 1 ([] : List Rec) (1, 0, 1, 0, 0)).1))] (by kernel_rfl) rfl (by kernel_rfl) (by kernel_rfl) (by kernel_rfl) (by kernel_rfl) (by kernel_rfl) (by kernel_rfl) (by kernel_rfl) (by kernel_rfl) ?_
  clear H
  intro v4 H
  refine x_val (.bool ((addS 1 ([] : List Rec) (1, 0, 1, 0, 0)).2)) (by kernel_rfl) rfl (by kernel_rfl) ?_
  refine x_nil ?_
  refine x_then ?_
  refine x_seq ?_
  refine x_region ?_
  refine x_val (.pointer (some ⟨p, 0, none⟩)) (by kernel_rfl) rfl (by kernel_rfl) ?_
  refine x_val (.agg #[.int .i64 0, .int .i64 0, .int .i64 2, .int .i64 0, .int .i64 0]) (by kernel_rfl) rfl (by kernel_rfl) ?_
  refine x_call (by kernel_rfl) rfl (by kernel_rfl) (Hs.useE (A := [.blk p #[sv1, .int .i64 ((1 : Nat) : Int), .int .i64 (1 + 1), .bool (false || !(decide (List.length ([] : List Rec) < 1)))] 80, .row (sv1) 29 5 (List.length ((addS 1 ([] : List Rec) (1, 0, 1, 0, 0)).1)) (List.flatMap recL ((addS 1 ([] : List Rec) (1, 0, 1, 0, 0)).1))]) (R := [.blk g1 #[.int .i64 1, .int .i64 0, .int .i64 1, .int .i64 0, .int .i64 0] 29]) (fun sv2 => [.blk p #[sv2, .int .i64 ((1 : Nat) : Int), .int .i64 ((1 + 1) + 1), .bool ((false || !(decide (List.length ([] : List Rec) < 1))) || !(decide (List.length ((addS 1 ([] : List Rec) (1, 0, 1, 0, 0)).1) < 1)))] 80, .row (sv2) 29 5 (List.length ((addS 1 ((addS 1 ([] : List Rec) (1, 0, 1, 0, 0)).1) (1 + 1, 0, 2, 0, 0)).1)) (List.flatMap recL ((addS 1 ((addS 1 ([] : List Rec) (1, 0, 1, 0, 0)).1) (1 + 1, 0, 2, 0, 0)).1))]) (fun _ => .tuple #[.agg #[.int .i64 (1 + 1), .int .i64 0, .int .i64 2, .int .i64 0, .int .i64 0], .bool ((addS 1 ((addS 1 ([] : List Rec) (1, 0, 1, 0, 0)).1) (1 + 1, 0, 2, 0, 0)).2)]) (H.pick [1, 2, 0] _ (by decide) (by kernel_rfl)) (fun h => Add_any 0 0 2 0 0 (by first | omega | decide) (by omega) (by omega) (by omega) _ h)) ?_
  rintro _ v5 ⟨sv2, rfl, H'⟩
  refine ⟨_, rfl, ?_⟩
  clear H
  have H : Hs [] w0 _ [.blk p #[sv2, .int .i64 ((1 : Nat) : Int), .int .i64 ((1 + 1) + 1), .bool ((false || !(decide (List.length ([] : List Rec) < 1))) || !(decide (List.length ((addS 1 ([] : List Rec) (1, 0, 1, 0, 0)).1) < 1)))] 80, .row (sv2) 29 5 (List.length ((addS 1 ((addS 1 ([] : List Rec) (1, 0, 1, 0, 0)).1) (1 + 1, 0, 2, 0, 0)).1)) (List.flatMap recL ((addS 1 ((addS 1 ([] : List Rec) (1, 0, 1, 0, 0)).1) (1 + 1, 0, 2, 0, 0)).1)), .blk g1 #[.int .i64 1, .int .i64 0, .int .i64 1, .int .i64 0, .int .i64 0] 29] := H'
  clear H'
  refine x_val (.tuple #[.agg #[.int .i64 (1 + 1), .int .i64 0, .int .i64 2, .int .i64 0, .int .i64 0], .bool ((addS 1 ((addS 1 ([] : List Rec) (1, 0, 1, 0, 0)).1) (1 + 1, 0, 2, 0, 0)).2)]) (by kernel_rfl) rfl (by kernel_rfl) ?_
  refine x_val (.agg #[.int .i64 (1 + 1), .int .i64 0, .int .i64 2, .int .i64 0, .int .i64 0]) (by kernel_rfl) rfl (by kernel_rfl) ?_
  refine x_val (.bool ((addS 1 ((addS 1 ([] : List Rec) (1, 0, 1, 0, 0)).1) (1 + 1, 0, 2, 0, 0)).2)) (by kernel_rfl) rfl (by kernel_rfl) ?_
  refine x_box H #[.int .i64 0, .int .i64 0, .int .i64 0, .int .i64 0, .int .i64 0] 29 (by kernel_rfl) rfl (by kernel_rfl) ?_
  clear H
  intro v6 g2 H
  refine x_store (t := 29) (v := .agg #[.int .i64 (1 + 1), .int .i64 0, .int .i64 2, .int .i64 0, .int .i64 0]) H 0 g2 0 #[.int .i64 0, .int .i64 0, .int .i64 0, .int .i64 0, .int .i64 0] #[.int .i64 (1 + 1), .int .i64 0, .int .i64 2, .int .i64 0, .int .i64 0] 29 [.int .i64 (1 + 1), .int .i64 0, .int .i64 2, .int .i64 0, .int .i64 0] [.blk g2 #[.int .i64 (1 + 1), .int .i64 0, .int .i64 2, .int .i64 0, .int .i64 0] 29, .blk p #[sv2, .int .i64 ((1 : Nat) : Int), .int .i64 ((1 + 1) + 1), .bool ((false || !(decide (List.length ([] : List Rec) < 1))) || !(decide (List.length ((addS 1 ([] : List Rec) (1, 0, 1, 0, 0)).1) < 1)))] 80, .row (sv2) 29 5 (List.length ((addS 1 ((addS 1 ([] : List Rec) (1, 0, 1, 0, 0)).1) (1 + 1, 0, 2, 0, 0)).1)) (List.flatMap recL ((addS 1 ((addS 1 ([] : List Rec) (1, 0, 1, 0, 0)).1) (1 + 1, 0, 2, 0, 0)).1)), .blk g1 #[.int .i64 1, .int .i64 0, .int .i64 1, .int .i64 0, .int .i64 0] 29] (by kernel_rfl) rfl (by kernel_rfl) (by kernel_rfl) (by kernel_rfl) (by kernel_rfl) (by kernel_rfl) (by kernel_rfl) (by kernel_rfl) (by kernel_rfl) ?_
  clear H
  intro v7 H
  refine x_val (.bool ((addS 1 ((addS 1 ([] : List Rec) (1, 0, 1, 0, 0)).1) (1 + 1, 0, 2, 0, 0)).2)) (by kernel_rfl) rfl (by kernel_rfl) ?_
  refine x_nil ?_
  refine x_frame' { tmps := #[.bool false, .pointer (some ⟨p, 0, none⟩), .int .i64 0, .pointer (some ⟨g1, 0, none⟩), .bool ((addS 1 ([] : List Rec) (1, 0, 1, 0, 0)).2), .pointer (some ⟨g2, 0, none⟩), .bool ((addS 1 ((addS 1 ([] : List Rec) (1, 0, 1, 0, 0)).1) (1 + 1, 0, 2, 0, 0)).2), .tuple #[.pointer (some ⟨p, 0, none⟩), .int .i64 0], .tuple #[.pointer (some ⟨p, 0, none⟩), .int .i64 0], .pointer (some ⟨p, 0, none⟩), .int .i64 0, .int .i64 0, .bool false, .bool false, .pointer (some ⟨p, 0, none⟩), .bool false, .bool false, .tuple #[.agg #[.int .i64 1, .int .i64 0, .int .i64 1, .int .i64 0, .int .i64 0], .bool ((addS 1 ([] : List Rec) (1, 0, 1, 0, 0)).2)], .pointer (some ⟨p, 0, none⟩), .agg #[.int .i64 0, .int .i64 0, .int .i64 1, .int .i64 0, .int .i64 0], .tuple #[.agg #[.int .i64 1, .int .i64 0, .int .i64 1, .int .i64 0, .int .i64 0], .bool ((addS 1 ([] : List Rec) (1, 0, 1, 0, 0)).2)], .agg #[.int .i64 1, .int .i64 0, .int .i64 1, .int .i64 0, .int .i64 0], .bool ((addS 1 ([] : List Rec) (1, 0, 1, 0, 0)).2), .tuple #[.agg #[.int .i64 (1 + 1), .int .i64 0, .int .i64 2, .int .i64 0, .int .i64 0], .bool ((addS 1 ((addS 1 ([] : List Rec) (1, 0, 1, 0, 0)).1) (1 + 1, 0, 2, 0, 0)).2)], .pointer (some ⟨p, 0, none⟩), .agg #[.int .i64 0, .int .i64 0, .int .i64 2, .int .i64 0, .int .i64 0], .tuple #[.agg #[.int .i64 (1 + 1), .int .i64 0, .int .i64 2, .int .i64 0, .int .i64 0], .bool ((addS 1 ((addS 1 ([] : List Rec) (1, 0, 1, 0, 0)).1) (1 + 1, 0, 2, 0, 0)).2)], .agg #[.int .i64 (1 + 1), .int .i64 0, .int .i64 2, .int .i64 0, .int .i64 0], .bool ((addS 1 ((addS 1 ([] : List Rec) (1, 0, 1, 0, 0)).1) (1 + 1, 0, 2, 0, 0)).2), undef, undef, undef, undef, undef, undef, undef, undef, undef, undef, undef, undef, undef, undef, undef, undef, undef, undef, undef, undef, undef, undef], defers := [] } (by kernel_rfl) ?_
  refine x_then ?_
  refine x_seq ?_
  refine x_region ?_
  refine x_val (.bool ((addS 1 ([] : List Rec) (1, 0, 1, 0, 0)).2)) (by kernel_rfl) rfl (by kernel_rfl) ?_
  refine x_val (.bool ((addS 1 ([] : List Rec) (1, 0, 1, 0, 0)).2)) (by kernel_rfl) rfl (by kernel_rfl) ?_
  cases h1 : (addS 1 ([] : List Rec) (1, 0, 1, 0, 0)).2
  · skip
    exact absurd h1 (by decide)
  · skip
    refine x_val (.bool ((addS 1 ((addS 1 ([] : List Rec) (1, 0, 1, 0, 0)).1) (1 + 1, 0, 2, 0, 0)).2)) (by kernel_rfl) rfl (by kernel_rfl) ?_
    refine x_val (.bool ((addS 1 ((addS 1 ([] : List Rec) (1, 0, 1, 0, 0)).1) (1 + 1, 0, 2, 0, 0)).2)) (by kernel_rfl) rfl (by kernel_rfl) ?_
    refine x_val (.bool ((addS 1 ((addS 1 ([] : List Rec) (1, 0, 1, 0, 0)).1) (1 + 1, 0, 2, 0, 0)).2)) (by kernel_rfl) rfl (by kernel_rfl) ?_
    cases h2 : (addS 1 ((addS 1 ([] : List Rec) (1, 0, 1, 0, 0)).1) (1 + 1, 0, 2, 0, 0)).2
    · skip
      exact absurd h2 (by decide)
    · skip
      refine x_val (.pointer (some ⟨g2, 0, none⟩)) (by kernel_rfl) rfl (by kernel_rfl) ?_
      refine x_load1 H 0 g2 0 #[.int .i64 (1 + 1), .int .i64 0, .int .i64 2, .int .i64 0, .int .i64 0] 29 (.int .i64 (1 + 1)) (by kernel_rfl) (by kernel_rfl) (by kernel_rfl) rfl (by kernel_rfl) ?_
      refine x_val (.bool (decide ((1 + 1) = 2))) (by kernel_rfl) rfl (by kernel_rfl) ?_
      refine x_val (.bool (decide ((1 + 1) = 2))) (by kernel_rfl) rfl (by kernel_rfl) ?_
      refine x_val (.bool (decide ((1 + 1) = 2))) (by kernel_rfl) rfl (by kernel_rfl) ?_
      cases h3 : decide ((1 + 1) = 2)
      · skip
        have h3p := of_decide_eq_false h3
        exact absurd h3 (by decide)
      · skip
        have h3p := of_decide_eq_true h3
        refine x_val (.pointer (some ⟨p, 0, none⟩)) (by kernel_rfl) rfl (by kernel_rfl) ?_
        refine x_callB (.bool ((false || !(decide (List.length ([] : List Rec) < 1))) || !(decide (List.length ((addS 1 ([] : List Rec) (1, 0, 1, 0, 0)).1) < 1)))) H (by kernel_rfl) rfl (by kernel_rfl) (Lost_of _ (H.roOf [1, 2] [.blk p #[sv2, .int .i64 ((1 : Nat) : Int), .int .i64 ((1 + 1) + 1), .bool ((false || !(decide (List.length ([] : List Rec) < 1))) || !(decide (List.length ((addS 1 ([] : List Rec) (1, 0, 1, 0, 0)).1) < 1)))] 80, .row (sv2) 29 5 (List.length ((addS 1 ((addS 1 ([] : List Rec) (1, 0, 1, 0, 0)).1) (1 + 1, 0, 2, 0, 0)).1)) (List.flatMap recL ((addS 1 ((addS 1 ([] : List Rec) (1, 0, 1, 0, 0)).1) (1 + 1, 0, 2, 0, 0)).1))] (by kernel_rfl))) ?_
        clear H
        intro v8 H
        refine x_val (.bool ((false || !(decide (List.length ([] : List Rec) < 1))) || !(decide (List.length ((addS 1 ([] : List Rec) (1, 0, 1, 0, 0)).1) < 1)))) (by kernel_rfl) rfl (by kernel_rfl) ?_
        refine x_val (.bool ((false || !(decide (List.length ([] : List Rec) < 1))) || !(decide (List.length ((addS 1 ([] : List Rec) (1, 0, 1, 0, 0)).1) < 1)))) (by kernel_rfl) rfl (by kernel_rfl) ?_
        cases h4 : ((false || !(decide (List.length ([] : List Rec) < 1))) || !(decide (List.length ((addS 1 ([] : List Rec) (1, 0, 1, 0, 0)).1) < 1)))
        · skip
          exact absurd h4 (by decide)
        · skip
          refine x_val (.pointer (some ⟨p, 0, none⟩)) (by kernel_rfl) rfl (by kernel_rfl) ?_
          refine x_callB (.int .i64 ((List.length ((addS 1 ((addS 1 ([] : List Rec) (1, 0, 1, 0, 0)).1) (1 + 1, 0, 2, 0, 0)).1) : Nat) : Int)) H (by kernel_rfl) rfl (by kernel_rfl) (Len_of _ (H.roOf [1, 2] [.blk p #[sv2, .int .i64 ((1 : Nat) : Int), .int .i64 ((1 + 1) + 1), .bool ((false || !(decide (List.length ([] : List Rec) < 1))) || !(decide (List.length ((addS 1 ([] : List Rec) (1, 0, 1, 0, 0)).1) < 1)))] 80, .row (sv2) 29 5 (List.length ((addS 1 ((addS 1 ([] : List Rec) (1, 0, 1, 0, 0)).1) (1 + 1, 0, 2, 0, 0)).1)) (List.flatMap recL ((addS 1 ((addS 1 ([] : List Rec) (1, 0, 1, 0, 0)).1) (1 + 1, 0, 2, 0, 0)).1))] (by kernel_rfl))) ?_
          clear H
          intro v9 H
          refine x_val (.bool (decide (((List.length ((addS 1 ((addS 1 ([] : List Rec) (1, 0, 1, 0, 0)).1) (1 + 1, 0, 2, 0, 0)).1) : Nat) : Int) = 1))) (by kernel_rfl) rfl (by kernel_rfl) ?_
          refine x_val (.bool (decide (((List.length ((addS 1 ((addS 1 ([] : List Rec) (1, 0, 1, 0, 0)).1) (1 + 1, 0, 2, 0, 0)).1) : Nat) : Int) = 1))) (by kernel_rfl) rfl (by kernel_rfl) ?_
          refine x_val (.bool (decide (((List.length ((addS 1 ((addS 1 ([] : List Rec) (1, 0, 1, 0, 0)).1) (1 + 1, 0, 2, 0, 0)).1) : Nat) : Int) = 1))) (by kernel_rfl) rfl (by kernel_rfl) ?_
          cases h5 : decide (((List.length ((addS 1 ((addS 1 ([] : List Rec) (1, 0, 1, 0, 0)).1) (1 + 1, 0, 2, 0, 0)).1) : Nat) : Int) = 1)
          · skip
            have h5p := of_decide_eq_false h5
            exact absurd h5 (by decide)
          · skip
            have h5p := of_decide_eq_true h5
            refine x_loadn (t := 29) H 0 g2 0 #[.int .i64 (1 + 1), .int .i64 0, .int .i64 2, .int .i64 0, .int .i64 0] 29 [.int .i64 (1 + 1), .int .i64 0, .int .i64 2, .int .i64 0, .int .i64 0] (by kernel_rfl) (by kernel_rfl) (by kernel_rfl) rfl (by kernel_rfl) (by kernel_rfl) ?_
            refine x_callB (.bool (decide (2 = 2))) H (by kernel_rfl) rfl (by kernel_rfl) (Grave_any (1 + 1) 0 2 0 0 _) ?_
            clear H
            intro v10 H
            refine x_val (.bool (decide (2 = 2))) (by kernel_rfl) rfl (by kernel_rfl) ?_
            refine x_val (.bool (decide (2 = 2))) (by kernel_rfl) rfl (by kernel_rfl) ?_
            refine x_nil ?_
            refine x_then ?_
            refine x_retc ?_
            refine x_ret (.bool (decide (2 = 2))) (by kernel_rfl) (by kernel_rfl) ?_
            exact ⟨by rw [show (decide (2 = 2)) = true from by decide], H.below⟩

/-- How many are grave. -/
def cnt (xs : List Rec) : Nat := xs.countP fun r => decide (r.2.2.1 = 2)
theorem cnt_le (xs : List Rec) : cnt xs ≤ xs.length := List.countP_le_length
theorem cnt_snoc (xs : List Rec) (r : Rec) : cnt (xs ++ [r]) = cnt xs + if r.2.2.1 = 2 then 1 else 0 := by
  simp only [cnt, List.countP_append, List.countP_cons, List.countP_nil, decide_eq_true_eq, Nat.zero_add]
theorem cnt_erase (xs : List Rec) (q : Nat) (h : q < xs.length) (hk : ¬ kd xs q = 2) : cnt (xs.eraseIdx q) = cnt xs := by
  have e : xs = xs.take q ++ xs[q] :: xs.drop (q + 1) := by rw [← List.drop_eq_getElem_cons h, List.take_append_drop]
  have hk' : ¬ (xs[q]).2.2.1 = 2 := by simpa [kd, List.getD, h] using hk
  rw [List.eraseIdx_eq_take_drop_succ]
  conv => rhs; rw [e]
  simp only [cnt, List.countP_append, List.countP_cons, decide_eq_true_eq, if_neg hk', Nat.add_zero]
theorem cnt_add (room : Nat) (xs : List Rec) (r : Rec) : cnt (addS room xs r).1 = cnt xs + if (addS room xs r).2 = true ∧ r.2.2.1 = 2 then 1 else 0 := by
  unfold addS
  split
  · rw [cnt_snoc]; simp
  · split
    · rename_i h; rw [cnt_snoc, cnt_erase xs _ h.2 (lq_at xs h.2)]; simp [h.1]
    · simp
theorem cnt_yes {room : Nat} {xs : List Rec} {r : Rec} (h : (addS room xs r).2 = true) (hk : r.2.2.1 = 2) : cnt (addS room xs r).1 = cnt xs + 1 := by rw [cnt_add, if_pos ⟨h, hk⟩]
theorem cnt_no1 {room : Nat} {xs : List Rec} {r : Rec} (h : (addS room xs r).2 = false) : cnt (addS room xs r).1 = cnt xs := by rw [cnt_add, if_neg (by rw [h]; simp)]; rfl
theorem cnt_no2 {room : Nat} {xs : List Rec} {r : Rec} (hk : ¬ r.2.2.1 = 2) : cnt (addS room xs r).1 = cnt xs := by rw [cnt_add, if_neg (fun h => hk h.2)]; rfl
theorem len_add (room : Nat) (xs : List Rec) (r : Rec) : (addS room xs r).1.length = if xs.length < room then xs.length + 1 else xs.length := by
  unfold addS
  split
  · simp
  · split
    · rename_i h; rw [List.length_append, List.length_eraseIdx, if_pos h.2]; simp; omega
    · rfl
theorem lost_add {room k n : Nat} {lo : Bool} (h : lo = decide (room < k)) (hn : n = min k room) : (lo || !(decide (n < room))) = decide (room < k + 1) := by
  subst h; subst hn
  by_cases h1 : room < k
  · rw [decide_eq_true h1, decide_eq_true (show room < k + 1 by omega)]; rfl
  · rw [decide_eq_false h1]
    by_cases h2 : room < k + 1
    · rw [decide_eq_true h2, decide_eq_false (by omega)]; rfl
    · rw [decide_eq_false h2, decide_eq_true (by omega)]; rfl
/-- Some records that are handed in. -/
def RecsAt (w0 : World) (ad : Option Addr) (n : Nat) (l : List Rec) : Prop :=
  0 < n → ∃ g off, ad = some ⟨g, off, none⟩ ∧ ∀ w', Below w0.heap.size w0 w' → ∀ i, i < n → ∀ (j : Nat) v, (recL (l.getD i (0, 0, 0, 0, 0)))[j]? = some v → w'.cell? ⟨g, off + i * 5 + j, none⟩ = some v

set_option maxRecDepth 100000 in
set_option maxHeartbeats 4000000 in
theorem grave_no (room : Int) (ad : Option Addr) (nA cA : Nat) (h1 : room < 1 ∨ 256 < room) (w0 : World) :
    Calls Try.prog 3 #[.int .i64 room, .slice ad nA cA] w0 fun e w' => e = .returned (.bool true) ∧ Below w0.heap.size w0 w' := by
  refine x_enterM Try.func3 rfl #[.int .i64 room, .slice ad nA cA, undef, undef, undef, undef, undef, undef, undef, undef, undef, undef, undef, undef, undef, undef, undef, undef, undef, undef, undef, undef, undef, undef, undef, undef, undef, undef, undef, undef, undef, undef, undef, undef, undef, undef, undef, undef, undef, undef, undef, undef, undef, undef, undef, undef, undef, undef, undef, undef, undef, undef, undef, undef, undef, undef, undef, undef, undef, undef, undef, undef, undef, undef, undef, undef, undef, undef, undef, undef, undef, undef, undef, undef, undef, undef, undef, undef, undef, undef, undef, undef, undef, undef, undef, undef, undef, undef, undef, undef, undef, undef] (by kernel_rfl) ?_
  have H := Hs.nil w0
  refine x_seq ?_
  refine x_region ?_
  refine x_val (.bool false) (by kernel_rfl) rfl (by kernel_rfl) ?_
  refine x_nil ?_
  refine x_then ?_
  refine x_seq ?_
  refine x_seq ?_
  refine x_region ?_
  refine x_callB (.bool true) H (by kernel_rfl) rfl (by kernel_rfl) (anchor17 _) ?_
  clear H
  intro v1 H
  refine x_val (.bool false) (by kernel_rfl) rfl (by kernel_rfl) ?_
  refine x_nil ?_
  refine x_then ?_
  refine x_f (by kernel_rfl) ?_
  refine x_skipc ?_
  refine x_then ?_
  refine x_seq ?_
  refine x_region ?_
  refine x_val (.int .i64 room) (by kernel_rfl) rfl (by kernel_rfl) ?_
  refine x_callB (.tuple #[.pointer none, .int .i64 12]) H (by kernel_rfl) rfl (by kernel_rfl) (RNew_no room h1 _) ?_
  clear H
  intro v2 H
  refine x_val (.tuple #[.pointer none, .int .i64 12]) (by kernel_rfl) rfl (by kernel_rfl) ?_
  refine x_val (.pointer none) (by kernel_rfl) rfl (by kernel_rfl) ?_
  refine x_val (.int .i64 12) (by kernel_rfl) rfl (by kernel_rfl) ?_
  refine x_val (.pointer none) (by kernel_rfl) rfl (by kernel_rfl) ?_
  refine x_val (.int .i64 12) (by kernel_rfl) rfl (by kernel_rfl) ?_
  refine x_nil ?_
  refine x_then ?_
  refine x_seq ?_
  refine x_seq ?_
  refine x_region ?_
  refine x_val (.int .i64 12) (by kernel_rfl) rfl (by kernel_rfl) ?_
  refine x_val (.bool true) (by kernel_rfl) rfl (by kernel_rfl) ?_
  refine x_val (.bool true) (by kernel_rfl) rfl (by kernel_rfl) ?_
  refine x_skip (by kernel_rfl) ?_
  refine x_skip (by kernel_rfl) ?_
  refine x_val (.bool true) (by kernel_rfl) rfl (by kernel_rfl) ?_
  refine x_val (.bool true) (by kernel_rfl) rfl (by kernel_rfl) ?_
  refine x_skip (by kernel_rfl) ?_
  refine x_skip (by kernel_rfl) ?_
  refine x_skip (by kernel_rfl) ?_
  refine x_val (.bool true) (by kernel_rfl) rfl (by kernel_rfl) ?_
  refine x_nil ?_
  refine x_then ?_
  refine x_t (by kernel_rfl) ?_
  refine x_seq ?_
  refine x_region ?_
  refine x_val (.bool true) (by kernel_rfl) rfl (by kernel_rfl) ?_
  refine x_nil ?_
  refine x_then ?_
  refine x_retc ?_
  refine x_then_ret ?_
  refine x_ret0 (.bool true) (by kernel_rfl) (by kernel_rfl) ?_
  exact ⟨rfl, H.below⟩

set_option maxRecDepth 100000 in
set_option maxHeartbeats 4000000 in
theorem grave_yes (room : Nat) (ad : Option Addr) (nA cA : Nat) (l : List Rec) (h1 : 1 ≤ room) (h2 : room ≤ 256) (w0 : World) (hA : RecsAt w0 ad nA l) :
    Calls Try.prog 3 #[.int .i64 ((room : Nat) : Int), .slice ad nA cA] w0 fun e w' => e = .returned (.bool true) ∧ Below w0.heap.size w0 w' := by
  refine x_enterM Try.func3 rfl #[.int .i64 ((room : Nat) : Int), .slice ad nA cA, undef, undef, undef, undef, undef, undef, undef, undef, undef, undef, undef, undef, undef, undef, undef, undef, undef, undef, undef, undef, undef, undef, undef, undef, undef, undef, undef, undef, undef, undef, undef, undef, undef, undef, undef, undef, undef, undef, undef, undef, undef, undef, undef, undef, undef, undef, undef, undef, undef, undef, undef, undef, undef, undef, undef, undef, undef, undef, undef, undef, undef, undef, undef, undef, undef, undef, undef, undef, undef, undef, undef, undef, undef, undef, undef, undef, undef, undef, undef, undef, undef, undef, undef, undef, undef, undef, undef, undef, undef, undef] (by kernel_rfl) ?_
  have H := Hs.nil w0
  refine x_seq ?_
  refine x_region ?_
  refine x_val (.bool false) (by kernel_rfl) rfl (by kernel_rfl) ?_
  refine x_nil ?_
  refine x_then ?_
  refine x_seq ?_
  refine x_seq ?_
  refine x_region ?_
  refine x_callB (.bool true) H (by kernel_rfl) rfl (by kernel_rfl) (anchor17 _) ?_
  clear H
  intro v1 H
  refine x_val (.bool false) (by kernel_rfl) rfl (by kernel_rfl) ?_
  refine x_nil ?_
  refine x_then ?_
  refine x_f (by kernel_rfl) ?_
  refine x_skipc ?_
  refine x_then ?_
  refine x_seq ?_
  refine x_region ?_
  refine x_val (.int .i64 ((room : Nat) : Int)) (by kernel_rfl) rfl (by kernel_rfl) ?_
  refine x_call (by kernel_rfl) rfl (by kernel_rfl) (RNew_yes room (by omega) (by omega) _) ?_
  rintro _ v2 ⟨p, rfl, hN'⟩
  refine ⟨_, rfl, ?_⟩
  replace H := H.more hN'
  clear hN'
  replace H : Hs [] w0 _ [.blk p #[.slice none 0 0, .int .i64 ((room : Nat) : Int), .int .i64 1, .bool false] 80, .row (.slice none 0 0) 29 5 (List.length ([] : List Rec)) (List.flatMap recL ([] : List Rec))] := H
  refine x_val (.tuple #[.pointer (some ⟨p, 0, none⟩), .int .i64 0]) (by kernel_rfl) rfl (by kernel_rfl) ?_
  refine x_val (.pointer (some ⟨p, 0, none⟩)) (by kernel_rfl) rfl (by kernel_rfl) ?_
  refine x_val (.int .i64 0) (by kernel_rfl) rfl (by kernel_rfl) ?_
  refine x_val (.pointer (some ⟨p, 0, none⟩)) (by kernel_rfl) rfl (by kernel_rfl) ?_
  refine x_val (.int .i64 0) (by kernel_rfl) rfl (by kernel_rfl) ?_
  refine x_nil ?_
  refine x_then ?_
  refine x_seq ?_
  refine x_seq ?_
  refine x_region ?_
  refine x_val (.int .i64 0) (by kernel_rfl) rfl (by kernel_rfl) ?_
  refine x_val (.bool false) (by kernel_rfl) rfl (by kernel_rfl) ?_
  refine x_val (.bool false) (by kernel_rfl) rfl (by kernel_rfl) ?_
  refine x_val (.pointer (some ⟨p, 0, none⟩)) (by kernel_rfl) rfl (by kernel_rfl) ?_
  refine x_val (.bool false) (by kernel_rfl) rfl (by kernel_rfl) ?_
  refine x_val (.bool false) (by kernel_rfl) rfl (by kernel_rfl) ?_
  refine x_val (.bool false) (by kernel_rfl) rfl (by kernel_rfl) ?_
  refine x_val (.slice ad nA cA) (by kernel_rfl) rfl (by kernel_rfl) ?_
  refine x_val (.int .i64 ((nA : Nat) : Int)) (by kernel_rfl) rfl (by kernel_rfl) ?_
  refine x_val (.bool (decide (400 < ((nA : Nat) : Int)))) (by kernel_rfl) rfl (by kernel_rfl) ?_
  refine x_val (.bool (decide (400 < ((nA : Nat) : Int)))) (by kernel_rfl) rfl (by kernel_rfl) ?_
  refine x_nil ?_
  refine x_then ?_
  cases h1 : decide (400 < ((nA : Nat) : Int))
  · skip
    have h1p := of_decide_eq_false h1
    refine x_f (by kernel_rfl) ?_
    refine x_skipc ?_
    refine x_then ?_
    refine x_seq ?_
    refine x_region ?_
    refine x_val (.int .i64 0) (by kernel_rfl) rfl (by kernel_rfl) ?_
    refine x_val (.int .i64 0) (by kernel_rfl) rfl (by kernel_rfl) ?_
    refine x_nil ?_
    refine x_then ?_
    refine x_seq ?_
    refine x_seq ?_
    refine x_region ?_
    refine x_val (.slice ad nA cA) (by kernel_rfl) rfl (by kernel_rfl) ?_
    refine x_val (.int .i64 ((nA : Nat) : Int)) (by kernel_rfl) rfl (by kernel_rfl) ?_
    refine x_val (.int .i64 0) (by kernel_rfl) rfl (by kernel_rfl) ?_
    refine x_nil ?_
    refine x_then ?_
    refine x_block ?_
    replace H : Hs [] w0 _ [.blk p #[.slice none 0 0, .int .i64 ((room : Nat) : Int), .int .i64 1, .bool false] 80, .row (.slice none 0 0) 29 5 (List.length ([] : List Rec)) (List.flatMap recL ([] : List Rec))] := H.pick [0, 1] _ (by decide) (by kernel_rfl)
    refine x_loop (G := Nat × Value × List Rec × Int × Bool × Nat × Nat) (fun gh a w' => match gh with | (k, sv, xs, nx, lo, gr, cm) => ∃ uf1 : Nat → Value, a = { tmps := #[.int .i64 ((room : Nat) : Int), .slice ad nA cA, undef, undef, .bool false, .pointer (some ⟨p, 0, none⟩), .int .i64 0, .int .i64 ((gr : Nat) : Int), .int .i64 ((cm : Nat) : Int), undef, (uf1 0), (uf1 1), (uf1 2), undef, undef, .bool true, .bool false, .tuple #[.pointer (some ⟨p, 0, none⟩), .int .i64 0], .int .i64 ((room : Nat) : Int), .tuple #[.pointer (some ⟨p, 0, none⟩), .int .i64 0], .pointer (some ⟨p, 0, none⟩), .int .i64 0, .int .i64 0, .bool false, .bool false, .pointer (some ⟨p, 0, none⟩), .bool false, .bool false, .bool false, .slice ad nA cA, .int .i64 ((nA : Nat) : Int), .bool false, .bool false, .slice ad nA cA, .int .i64 ((nA : Nat) : Int), .int .i64 ((k : Nat) : Int), (uf1 3), (uf1 4), (uf1 5), (uf1 6), (uf1 7), (uf1 8), (uf1 9), (uf1 10), (uf1 11), (uf1 12), (uf1 13), (uf1 14), (uf1 15), (uf1 16), (uf1 17), (uf1 18), (uf1 19), (uf1 20), (uf1 21), (uf1 22), undef, undef, undef, undef, undef, undef, undef, undef, undef, undef, undef, undef, undef, undef, undef, undef, undef, undef, undef, undef, undef, undef, undef, undef, undef, undef, undef, undef, undef, undef, undef, undef, undef, undef, undef, undef], defers := [] } ∧ Hs [] w0 w' [.blk p #[sv, .int .i64 ((room : Nat) : Int), .int .i64 nx, .bool lo] 80, .row (sv) 29 5 (List.length xs) (List.flatMap recL xs)] ∧ (k ≤ nA) ∧ (nx = (k : Int) + 1) ∧ (lo = decide (room < k)) ∧ (xs.length = min k room) ∧ (cnt xs = gr) ∧ (gr ≤ k) ∧ (cm ≤ k)) (fun gh => match gh with | (k, sv, xs, nx, lo, gr, cm) => nA - k) (0, .slice none 0 0, ([] : List Rec), 1, false, 0, 0) ⟨(nthV [undef, undef, undef, undef, undef, undef, undef, undef, undef, undef, undef, undef, undef, undef, undef, undef, undef, undef, undef, undef, undef, undef, undef]), (by kernel_rfl), H, (Nat.zero_le _), rfl, (by simp), (by simp), rfl, (Nat.le_refl _), (Nat.le_refl _)⟩ ?_
    clear H
    rintro ⟨k, sv, xs, nx, lo, gr, cm⟩ _ v3 ⟨uf1, rfl, H, r1, r2, r3, r4, r5, r6, r7⟩
    refine x_seq ?_
    refine x_region ?_
    refine x_val (.bool (decide (((k : Nat) : Int) < ((nA : Nat) : Int)))) (by kernel_rfl) rfl (by kernel_rfl) ?_
    refine x_nil ?_
    refine x_then ?_
    refine x_seq ?_
    cases h2 : decide (((k : Nat) : Int) < ((nA : Nat) : Int))
    · skip
      have h2p := of_decide_eq_false h2
      have hkn : k = nA := by omega
      refine x_f (by kernel_rfl) ?_
      refine x_exit ?_
      refine x_then_exit ?_
      refine x_then_exit ?_
      refine x_blk_exit ?_
      refine x_then ?_
      refine x_seq ?_
      refine x_region ?_
      refine x_box H #[.int .i64 0] 3 (by kernel_rfl) rfl (by kernel_rfl) ?_
      clear H
      intro v4 g1 H
      refine x_store (t := 3) (v := .int .i64 0) H 0 g1 0 #[.int .i64 0] #[.int .i64 0] 3 [.int .i64 0] [.blk g1 #[.int .i64 0] 3, .blk p #[sv, .int .i64 ((room : Nat) : Int), .int .i64 nx, .bool lo] 80, .row (sv) 29 5 (List.length xs) (List.flatMap recL xs)] (by kernel_rfl) rfl (by kernel_rfl) (by kernel_rfl) (by kernel_rfl) (by kernel_rfl) (by kernel_rfl) (by kernel_rfl) (by kernel_rfl) (by kernel_rfl) ?_
      clear H
      intro v5 H
      refine x_nil ?_
      refine x_then ?_
      refine x_seq ?_
      refine x_seq ?_
      refine x_region ?_
      refine x_val (.pointer (some ⟨p, 0, none⟩)) (by kernel_rfl) rfl (by kernel_rfl) ?_
      refine x_call (by kernel_rfl) rfl (by kernel_rfl) (All_of _ (H.roOf [1, 2] [.blk p #[sv, .int .i64 ((room : Nat) : Int), .int .i64 nx, .bool lo] 80, .row (sv) 29 5 (List.length xs) (List.flatMap recL xs)] (by kernel_rfl))) ?_
      rintro _ v6 ⟨q, rfl, hN'⟩
      refine ⟨_, rfl, ?_⟩
      replace H := H.more hN'
      clear hN'
      replace H : Hs [] w0 _ [.blk q #[sv] 22, .blk g1 #[.int .i64 0] 3, .blk p #[sv, .int .i64 ((room : Nat) : Int), .int .i64 nx, .bool lo] 80, .row (sv) 29 5 (List.length xs) (List.flatMap recL xs)] := H
      refine x_nil ?_
      refine x_then ?_
      refine x_block ?_
      replace H := H.pick [1, 0, 3, 2] [.blk g1 #[.int .i64 0] 3, .blk q #[sv] 22, .row (sv) 29 5 (List.length xs) (List.flatMap recL xs), .blk p #[sv, .int .i64 ((room : Nat) : Int), .int .i64 nx, .bool lo] 80] (by decide) (by kernel_rfl)
      replace H : Hs [] w0 _ [.blk g1 #[.int .i64 ((0 : Nat) : Int)] 3, .blk q #[sv] 22, .row (sv) 29 5 (List.length xs) (List.flatMap recL xs), .blk p #[sv, .int .i64 ((room : Nat) : Int), .int .i64 nx, .bool lo] 80] := H
      refine x_rangeB (α := Rec) (G := Nat) xs (fun x => #[.agg #[.int .i64 x.1, .int .i64 x.2.1, .int .i64 x.2.2.1, .int .i64 x.2.2.2.1, .int .i64 x.2.2.2.2]]) [.blk q #[sv] 22, .row (sv) 29 5 (List.length xs) (List.flatMap recL xs)] [1, 2] (fps [.blk g1 #[.int .i64 ((0 : Nat) : Int)] 3, .blk q #[sv] 22, .row (sv) 29 5 (List.length xs) (List.flatMap recL xs), .blk p #[sv, .int .i64 ((room : Nat) : Int), .int .i64 nx, .bool lo] 80]) (fun pre (c : Nat) => c = cnt pre) (fun pre (c : Nat) => [.blk g1 #[.int .i64 ((c : Nat) : Int)] 3, .blk q #[sv] 22, .row (sv) 29 5 (List.length xs) (List.flatMap recL xs), .blk p #[sv, .int .i64 ((room : Nat) : Int), .int .i64 nx, .bool lo] 80]) (fun cd pre (c : Nat) => False) (fun x b => [.blk b #[.int .i64 x.1, .int .i64 x.2.1, .int .i64 x.2.2.1, .int .i64 x.2.2.2.1, .int .i64 x.2.2.2.2] 29]) (fun x b => { tmps := #[.int .i64 ((room : Nat) : Int), .slice ad nA cA, undef, undef, .bool false, .pointer (some ⟨p, 0, none⟩), .int .i64 0, .int .i64 ((gr : Nat) : Int), .int .i64 ((cm : Nat) : Int), undef, (uf1 0), (uf1 1), (uf1 2), .pointer (some ⟨g1, 0, none⟩), .pointer (some ⟨b, 0, none⟩), .bool true, .bool false, .tuple #[.pointer (some ⟨p, 0, none⟩), .int .i64 0], .int .i64 ((room : Nat) : Int), .tuple #[.pointer (some ⟨p, 0, none⟩), .int .i64 0], .pointer (some ⟨p, 0, none⟩), .int .i64 0, .int .i64 0, .bool false, .bool false, .pointer (some ⟨p, 0, none⟩), .bool false, .bool false, .bool false, .slice ad nA cA, .int .i64 ((nA : Nat) : Int), .bool false, .bool false, .slice ad nA cA, .int .i64 ((nA : Nat) : Int), .int .i64 ((k : Nat) : Int), .bool false, (uf1 4), (uf1 5), (uf1 6), (uf1 7), (uf1 8), (uf1 9), (uf1 10), (uf1 11), (uf1 12), (uf1 13), (uf1 14), (uf1 15), (uf1 16), (uf1 17), (uf1 18), (uf1 19), (uf1 20), (uf1 21), (uf1 22), .pointer (some ⟨p, 0, none⟩), .func (.func 52) #[] #[.pointer (some ⟨q, 0, none⟩)], .agg #[.int .i64 x.1, .int .i64 x.2.1, .int .i64 x.2.2.1, .int .i64 x.2.2.2.1, .int .i64 x.2.2.2.2], undef, undef, undef, undef, undef, undef, undef, undef, undef, undef, undef, undef, undef, undef, undef, undef, undef, undef, undef, undef, undef, undef, undef, undef, undef, undef, undef, undef, undef, undef, undef, undef, undef], defers := [] }) 0 (by kernel_rfl) (enters_of Try.func52 (by kernel_rfl) rfl) (vals_of (by omega) _ (H.roOf [1, 2] _ (by kernel_rfl))) (fun _ => rfl) rfl (by rintro _ c; rfl) (by rintro _ c; rfl) (by rintro _ c; rfl) (fun _ _ => rfl) (fun _ _ => rfl) H rfl ?_ ?_ ?_ ?_
      · skip
        clear H
        rintro lrnd pre x c W1 hI H
        refine x_at (b := { tmps := #[.int .i64 ((room : Nat) : Int), .slice ad nA cA, undef, undef, .bool false, .pointer (some ⟨p, 0, none⟩), .int .i64 0, .int .i64 ((gr : Nat) : Int), .int .i64 ((cm : Nat) : Int), undef, (uf1 0), (uf1 1), (uf1 2), .pointer (some ⟨g1, 0, none⟩), undef, .bool true, .bool false, .tuple #[.pointer (some ⟨p, 0, none⟩), .int .i64 0], .int .i64 ((room : Nat) : Int), .tuple #[.pointer (some ⟨p, 0, none⟩), .int .i64 0], .pointer (some ⟨p, 0, none⟩), .int .i64 0, .int .i64 0, .bool false, .bool false, .pointer (some ⟨p, 0, none⟩), .bool false, .bool false, .bool false, .slice ad nA cA, .int .i64 ((nA : Nat) : Int), .bool false, .bool false, .slice ad nA cA, .int .i64 ((nA : Nat) : Int), .int .i64 ((k : Nat) : Int), .bool false, (uf1 4), (uf1 5), (uf1 6), (uf1 7), (uf1 8), (uf1 9), (uf1 10), (uf1 11), (uf1 12), (uf1 13), (uf1 14), (uf1 15), (uf1 16), (uf1 17), (uf1 18), (uf1 19), (uf1 20), (uf1 21), (uf1 22), .pointer (some ⟨p, 0, none⟩), .func (.func 52) #[] #[.pointer (some ⟨q, 0, none⟩)], .agg #[.int .i64 x.1, .int .i64 x.2.1, .int .i64 x.2.2.1, .int .i64 x.2.2.2.1, .int .i64 x.2.2.2.2], undef, undef, undef, undef, undef, undef, undef, undef, undef, undef, undef, undef, undef, undef, undef, undef, undef, undef, undef, undef, undef, undef, undef, undef, undef, undef, undef, undef, undef, undef, undef, undef, undef], defers := [] }) (by kernel_rfl) ?_
        refine x_region ?_
        refine x_box H #[.int .i64 0, .int .i64 0, .int .i64 0, .int .i64 0, .int .i64 0] 29 (by kernel_rfl) rfl (by kernel_rfl) ?_
        clear H
        intro v7 g2 H
        refine x_store (t := 29) (v := .agg #[.int .i64 x.1, .int .i64 x.2.1, .int .i64 x.2.2.1, .int .i64 x.2.2.2.1, .int .i64 x.2.2.2.2]) H 0 g2 0 #[.int .i64 0, .int .i64 0, .int .i64 0, .int .i64 0, .int .i64 0] #[.int .i64 x.1, .int .i64 x.2.1, .int .i64 x.2.2.1, .int .i64 x.2.2.2.1, .int .i64 x.2.2.2.2] 29 [.int .i64 x.1, .int .i64 x.2.1, .int .i64 x.2.2.1, .int .i64 x.2.2.2.1, .int .i64 x.2.2.2.2] [.blk g2 #[.int .i64 x.1, .int .i64 x.2.1, .int .i64 x.2.2.1, .int .i64 x.2.2.2.1, .int .i64 x.2.2.2.2] 29, .blk g1 #[.int .i64 ((c : Nat) : Int)] 3, .blk q #[sv] 22, .row (sv) 29 5 (List.length xs) (List.flatMap recL xs), .blk p #[sv, .int .i64 ((room : Nat) : Int), .int .i64 nx, .bool lo] 80] (by kernel_rfl) rfl (by kernel_rfl) (by kernel_rfl) (by kernel_rfl) (by kernel_rfl) (by kernel_rfl) (by kernel_rfl) (by kernel_rfl) (by kernel_rfl) ?_
        clear H
        intro v8 H
        refine x_nil ?_
        refine x_then ?_
        exact ⟨g2, (by kernel_rfl), H⟩
      · skip
        clear H
        rintro lrnd pre x c b W1 hI hlen H
        replace H : Hs (fps [.blk b #[.int .i64 x.1, .int .i64 x.2.1, .int .i64 x.2.2.1, .int .i64 x.2.2.2.1, .int .i64 x.2.2.2.2] 29] ++ (fps [.blk g1 #[.int .i64 ((0 : Nat) : Int)] 3, .blk q #[sv] 22, .row (sv) 29 5 (List.length xs) (List.flatMap recL xs), .blk p #[sv, .int .i64 ((room : Nat) : Int), .int .i64 nx, .bool lo] 80])) W1 W1 [.blk b #[.int .i64 x.1, .int .i64 x.2.1, .int .i64 x.2.2.1, .int .i64 x.2.2.2.1, .int .i64 x.2.2.2.2] 29, .blk g1 #[.int .i64 ((c : Nat) : Int)] 3, .blk q #[sv] 22, .row (sv) 29 5 (List.length xs) (List.flatMap recL xs), .blk p #[sv, .int .i64 ((room : Nat) : Int), .int .i64 nx, .bool lo] 80] := H
        have hcl := cnt_le pre
        refine x_block ?_
        refine x_seq ?_
        refine x_region ?_
        refine x_loadn (t := 29) H 0 b 0 #[.int .i64 x.1, .int .i64 x.2.1, .int .i64 x.2.2.1, .int .i64 x.2.2.2.1, .int .i64 x.2.2.2.2] 29 [.int .i64 x.1, .int .i64 x.2.1, .int .i64 x.2.2.1, .int .i64 x.2.2.2.1, .int .i64 x.2.2.2.2] (by kernel_rfl) (by kernel_rfl) (by kernel_rfl) rfl (by kernel_rfl) (by kernel_rfl) ?_
        refine x_callB (.bool (decide (x.2.2.1 = 2))) H (by kernel_rfl) rfl (by kernel_rfl) (Grave_any x.1 x.2.1 x.2.2.1 x.2.2.2.1 x.2.2.2.2 _) ?_
        clear H
        intro v9 H
        refine x_nil ?_
        refine x_then ?_
        cases h3 : decide (x.2.2.1 = 2)
        · skip
          have h3p := of_decide_eq_false h3
          refine x_f (by kernel_rfl) ?_
          refine x_skipc ?_
          refine x_blk ?_
          replace H := H.pick [1, 2, 3, 4] [.blk g1 #[.int .i64 ((c : Nat) : Int)] 3, .blk q #[sv] 22, .row (sv) 29 5 (List.length xs) (List.flatMap recL xs), .blk p #[sv, .int .i64 ((room : Nat) : Int), .int .i64 nx, .bool lo] 80] (by decide) (by kernel_rfl)
          exact ⟨c, (by show _ = cnt (pre ++ [x]); rw [cnt_snoc, ← hI]; simp [h3p]), H⟩
        · skip
          have h3p := of_decide_eq_true h3
          refine x_t (by kernel_rfl) ?_
          refine x_region ?_
          refine x_load1 H 1 g1 0 #[.int .i64 ((c : Nat) : Int)] 3 (.int .i64 ((c : Nat) : Int)) (by kernel_rfl) (by kernel_rfl) (by kernel_rfl) rfl (by kernel_rfl) ?_
          refine x_ar (((c : Nat) : Int) + 1) ⟨by omega, by omega⟩ (by kernel_rfl) rfl (by kernel_rfl) ?_
          refine x_store (t := 3) (v := .int .i64 (((c : Nat) : Int) + 1)) H 1 g1 0 #[.int .i64 ((c : Nat) : Int)] #[.int .i64 (((c : Nat) : Int) + 1)] 3 [.int .i64 (((c : Nat) : Int) + 1)] [.blk b #[.int .i64 x.1, .int .i64 x.2.1, .int .i64 x.2.2.1, .int .i64 x.2.2.2.1, .int .i64 x.2.2.2.2] 29, .blk g1 #[.int .i64 (((c : Nat) : Int) + 1)] 3, .blk q #[sv] 22, .row (sv) 29 5 (List.length xs) (List.flatMap recL xs), .blk p #[sv, .int .i64 ((room : Nat) : Int), .int .i64 nx, .bool lo] 80] (by kernel_rfl) rfl (by kernel_rfl) (by kernel_rfl) (by kernel_rfl) (by kernel_rfl) (by kernel_rfl) (by kernel_rfl) (by kernel_rfl) (by kernel_rfl) ?_
          clear H
          intro v10 H
          refine x_nil ?_
          refine x_blk ?_
          replace H := H.pick [1, 2, 3, 4] [.blk g1 #[.int .i64 (((c : Nat) : Int) + 1)] 3, .blk q #[sv] 22, .row (sv) 29 5 (List.length xs) (List.flatMap recL xs), .blk p #[sv, .int .i64 ((room : Nat) : Int), .int .i64 nx, .bool lo] 80] (by decide) (by kernel_rfl)
          exact ⟨(c + 1), (by show _ = cnt (pre ++ [x]); rw [cnt_snoc, ← hI]; simp [h3p]), H⟩
      · skip
        clear H
        rintro D c W1 hI H
        refine x_blk ?_
        refine x_then ?_
        refine x_seq ?_
        refine x_region ?_
        refine x_load1 H 1 g1 0 #[.int .i64 ((c : Nat) : Int)] 3 (.int .i64 ((c : Nat) : Int)) (by kernel_rfl) (by kernel_rfl) (by kernel_rfl) rfl (by kernel_rfl) ?_
        refine x_val (.int .i64 ((gr : Nat) : Int)) (by kernel_rfl) rfl (by kernel_rfl) ?_
        refine x_val (.bool (decide (((c : Nat) : Int) = ((gr : Nat) : Int)))) (by kernel_rfl) rfl (by kernel_rfl) ?_
        refine x_val (.bool (decide (((c : Nat) : Int) = ((gr : Nat) : Int)))) (by kernel_rfl) rfl (by kernel_rfl) ?_
        cases h4 : decide (((c : Nat) : Int) = ((gr : Nat) : Int))
        · skip
          have h4p := of_decide_eq_false h4
          exact absurd h4p (by omega)
        · skip
          have h4p := of_decide_eq_true h4
          refine x_val (.pointer (some ⟨p, 0, none⟩)) (by kernel_rfl) rfl (by kernel_rfl) ?_
          refine x_callB (.bool lo) H (by kernel_rfl) rfl (by kernel_rfl) (Lost_of _ (H.roOf [4, 3] [.blk p #[sv, .int .i64 ((room : Nat) : Int), .int .i64 nx, .bool lo] 80, .row (sv) 29 5 (List.length xs) (List.flatMap recL xs)] (by kernel_rfl))) ?_
          clear H
          intro v11 H
          refine x_val (.slice ad nA cA) (by kernel_rfl) rfl (by kernel_rfl) ?_
          refine x_val (.int .i64 ((nA : Nat) : Int)) (by kernel_rfl) rfl (by kernel_rfl) ?_
          refine x_val (.int .i64 ((room : Nat) : Int)) (by kernel_rfl) rfl (by kernel_rfl) ?_
          refine x_val (.bool (decide (((room : Nat) : Int) < ((nA : Nat) : Int)))) (by kernel_rfl) rfl (by kernel_rfl) ?_
          refine x_val (.bool (lo == (decide (((room : Nat) : Int) < ((nA : Nat) : Int))))) (by kernel_rfl) rfl (by kernel_rfl) ?_
          refine x_val (.bool (lo == (decide (((room : Nat) : Int) < ((nA : Nat) : Int))))) (by kernel_rfl) rfl (by kernel_rfl) ?_
          refine x_val (.bool (lo == (decide (((room : Nat) : Int) < ((nA : Nat) : Int))))) (by kernel_rfl) rfl (by kernel_rfl) ?_
          cases h5 : lo == (decide (((room : Nat) : Int) < ((nA : Nat) : Int)))
          · skip
            exact absurd h5 (by rw [r3, hkn]; simp)
          · skip
            refine x_val (.pointer (some ⟨p, 0, none⟩)) (by kernel_rfl) rfl (by kernel_rfl) ?_
            refine x_callB (.int .i64 ((List.length xs : Nat) : Int)) H (by kernel_rfl) rfl (by kernel_rfl) (Len_of _ (H.roOf [4, 3] [.blk p #[sv, .int .i64 ((room : Nat) : Int), .int .i64 nx, .bool lo] 80, .row (sv) 29 5 (List.length xs) (List.flatMap recL xs)] (by kernel_rfl))) ?_
            clear H
            intro v12 H
            refine x_val (.slice ad nA cA) (by kernel_rfl) rfl (by kernel_rfl) ?_
            refine x_val (.int .i64 ((nA : Nat) : Int)) (by kernel_rfl) rfl (by kernel_rfl) ?_
            refine x_val (.int .i64 ((room : Nat) : Int)) (by kernel_rfl) rfl (by kernel_rfl) ?_
            refine x_eq (.int .i64 (min ((nA : Nat) : Int) ((room : Nat) : Int))) (e_min ((nA : Nat) : Int) ((room : Nat) : Int)) (by kernel_rfl) rfl (by kernel_rfl) ?_
            refine x_val (.bool (decide (((List.length xs : Nat) : Int) = (min ((nA : Nat) : Int) ((room : Nat) : Int))))) (by kernel_rfl) rfl (by kernel_rfl) ?_
            refine x_val (.bool (decide (((List.length xs : Nat) : Int) = (min ((nA : Nat) : Int) ((room : Nat) : Int))))) (by kernel_rfl) rfl (by kernel_rfl) ?_
            refine x_val (.bool (decide (((List.length xs : Nat) : Int) = (min ((nA : Nat) : Int) ((room : Nat) : Int))))) (by kernel_rfl) rfl (by kernel_rfl) ?_
            cases h6 : decide (((List.length xs : Nat) : Int) = (min ((nA : Nat) : Int) ((room : Nat) : Int)))
            · skip
              have h6p := of_decide_eq_false h6
              exact absurd h6p (by omega)
            · skip
              have h6p := of_decide_eq_true h6
              refine x_val (.pointer (some ⟨p, 0, none⟩)) (by kernel_rfl) rfl (by kernel_rfl) ?_
              refine x_callB (.int .i64 nx) H (by kernel_rfl) rfl (by kernel_rfl) (RNext_of _ (H.roOf [4, 3] [.blk p #[sv, .int .i64 ((room : Nat) : Int), .int .i64 nx, .bool lo] 80, .row (sv) 29 5 (List.length xs) (List.flatMap recL xs)] (by kernel_rfl))) ?_
              clear H
              intro v13 H
              refine x_val (.slice ad nA cA) (by kernel_rfl) rfl (by kernel_rfl) ?_
              refine x_val (.int .i64 ((nA : Nat) : Int)) (by kernel_rfl) rfl (by kernel_rfl) ?_
              refine x_ar (((nA : Nat) : Int) + 1) ⟨by omega, by omega⟩ (by kernel_rfl) rfl (by kernel_rfl) ?_
              refine x_val (.bool (decide (nx = (((nA : Nat) : Int) + 1)))) (by kernel_rfl) rfl (by kernel_rfl) ?_
              refine x_val (.bool (decide (nx = (((nA : Nat) : Int) + 1)))) (by kernel_rfl) rfl (by kernel_rfl) ?_
              refine x_val (.bool (decide (nx = (((nA : Nat) : Int) + 1)))) (by kernel_rfl) rfl (by kernel_rfl) ?_
              refine x_nil ?_
              refine x_frame' { tmps := #[.int .i64 ((room : Nat) : Int), .slice ad nA cA, undef, undef, .bool (decide (nx = (((nA : Nat) : Int) + 1))), .pointer (some ⟨p, 0, none⟩), .int .i64 0, .int .i64 ((gr : Nat) : Int), .int .i64 ((cm : Nat) : Int), undef, (uf1 0), (uf1 1), (uf1 2), .pointer (some ⟨g1, 0, none⟩), undef, .bool true, .bool false, .tuple #[.pointer (some ⟨p, 0, none⟩), .int .i64 0], .int .i64 ((room : Nat) : Int), .tuple #[.pointer (some ⟨p, 0, none⟩), .int .i64 0], .pointer (some ⟨p, 0, none⟩), .int .i64 0, .int .i64 0, .bool false, .bool false, .pointer (some ⟨p, 0, none⟩), .bool false, .bool false, .bool false, .slice ad nA cA, .int .i64 ((nA : Nat) : Int), .bool false, .bool false, .slice ad nA cA, .int .i64 ((nA : Nat) : Int), .int .i64 ((k : Nat) : Int), .bool false, (uf1 4), (uf1 5), (uf1 6), (uf1 7), (uf1 8), (uf1 9), (uf1 10), (uf1 11), (uf1 12), (uf1 13), (uf1 14), (uf1 15), (uf1 16), (uf1 17), (uf1 18), (uf1 19), (uf1 20), (uf1 21), (uf1 22), .pointer (some ⟨p, 0, none⟩), .func (.func 52) #[] #[.pointer (some ⟨q, 0, none⟩)], undef, undef, undef, undef, undef, .int .i64 ((c : Nat) : Int), .int .i64 ((gr : Nat) : Int), .bool true, .bool true, .pointer (some ⟨p, 0, none⟩), .bool lo, .slice ad nA cA, .int .i64 ((nA : Nat) : Int), .int .i64 ((room : Nat) : Int), .bool (decide (((room : Nat) : Int) < ((nA : Nat) : Int))), .bool true, .bool true, .bool true, .pointer (some ⟨p, 0, none⟩), .int .i64 ((List.length xs : Nat) : Int), .slice ad nA cA, .int .i64 ((nA : Nat) : Int), .int .i64 ((room : Nat) : Int), .int .i64 (min ((nA : Nat) : Int) ((room : Nat) : Int)), .bool true, .bool true, .bool true, .pointer (some ⟨p, 0, none⟩), .int .i64 nx, .slice ad nA cA, .int .i64 ((nA : Nat) : Int), .int .i64 (((nA : Nat) : Int) + 1), .bool (decide (nx = (((nA : Nat) : Int) + 1))), .bool (decide (nx = (((nA : Nat) : Int) + 1)))], defers := [{ target := .collected D, args := #[] }] } (by kernel_rfl) ?_
              refine x_then ?_
              refine x_retc ?_
              refine x_retM1 [0, 1, 2, 3, 4] [.blk g1 #[.int .i64 ((c : Nat) : Int)] 3, .blk q #[sv] 22, .row (sv) 29 5 (List.length xs) (List.flatMap recL xs), .blk p #[sv, .int .i64 ((room : Nat) : Int), .int .i64 nx, .bool lo] 80] (.bool (decide (nx = (((nA : Nat) : Int) + 1)))) H (by kernel_rfl) rfl (by decide) (fun _ H => (by kernel_rfl)) ?_
              clear H
              intro v14 H
              exact ⟨by rw [show (decide (nx = (((nA : Nat) : Int) + 1))) = true from decide_eq_true (by omega)], H.below⟩
      · skip
        clear H
        rintro D c pre c W1 hpre hJ H
        exact hJ.elim
    · skip
      have h2p := of_decide_eq_true h2
      refine x_t (by kernel_rfl) ?_
      refine x_skipc ?_
      refine x_then ?_
      refine x_seq ?_
      refine x_block ?_
      refine x_seq ?_
      refine x_region ?_
      obtain ⟨ga, oa, had, hcell⟩ := hA (by omega)
      refine x_ixO (t := 22) had k nA cA 29 5 (oa + k * 5) (by omega) (by omega) (by kernel_rfl) (by kernel_rfl) (by kernel_rfl) rfl (by kernel_rfl) ?_
      refine x_loadcn (t := 29) ga (oa + k * 5) [.int .i64 ((l.getD k (0, 0, 0, 0, 0)).1), .int .i64 ((l.getD k (0, 0, 0, 0, 0)).2.1), .int .i64 ((l.getD k (0, 0, 0, 0, 0)).2.2.1), .int .i64 ((l.getD k (0, 0, 0, 0, 0)).2.2.2.1), .int .i64 ((l.getD k (0, 0, 0, 0, 0)).2.2.2.2)] (hcell _ H.below k (by omega)) (by kernel_rfl) rfl (by kernel_rfl) (by kernel_rfl) ?_
      refine x_box H #[.int .i64 0, .int .i64 0, .int .i64 0, .int .i64 0, .int .i64 0] 29 (by kernel_rfl) rfl (by kernel_rfl) ?_
      clear H
      intro v15 g3 H
      refine x_store (t := 29) (v := .agg #[.int .i64 ((l.getD k (0, 0, 0, 0, 0)).1), .int .i64 ((l.getD k (0, 0, 0, 0, 0)).2.1), .int .i64 ((l.getD k (0, 0, 0, 0, 0)).2.2.1), .int .i64 ((l.getD k (0, 0, 0, 0, 0)).2.2.2.1), .int .i64 ((l.getD k (0, 0, 0, 0, 0)).2.2.2.2)]) H 0 g3 0 #[.int .i64 0, .int .i64 0, .int .i64 0, .int .i64 0, .int .i64 0] #[.int .i64 ((l.getD k (0, 0, 0, 0, 0)).1), .int .i64 ((l.getD k (0, 0, 0, 0, 0)).2.1), .int .i64 ((l.getD k (0, 0, 0, 0, 0)).2.2.1), .int .i64 ((l.getD k (0, 0, 0, 0, 0)).2.2.2.1), .int .i64 ((l.getD k (0, 0, 0, 0, 0)).2.2.2.2)] 29 [.int .i64 ((l.getD k (0, 0, 0, 0, 0)).1), .int .i64 ((l.getD k (0, 0, 0, 0, 0)).2.1), .int .i64 ((l.getD k (0, 0, 0, 0, 0)).2.2.1), .int .i64 ((l.getD k (0, 0, 0, 0, 0)).2.2.2.1), .int .i64 ((l.getD k (0, 0, 0, 0, 0)).2.2.2.2)] [.blk g3 #[.int .i64 ((l.getD k (0, 0, 0, 0, 0)).1), .int .i64 ((l.getD k (0, 0, 0, 0, 0)).2.1), .int .i64 ((l.getD k (0, 0, 0, 0, 0)).2.2.1), .int .i64 ((l.getD k (0, 0, 0, 0, 0)).2.2.2.1), .int .i64 ((l.getD k (0, 0, 0, 0, 0)).2.2.2.2)] 29, .blk p #[sv, .int .i64 ((room : Nat) : Int), .int .i64 nx, .bool lo] 80, .row (sv) 29 5 (List.length xs) (List.flatMap recL xs)] (by kernel_rfl) rfl (by kernel_rfl) (by kernel_rfl) (by kernel_rfl) (by kernel_rfl) (by kernel_rfl) (by kernel_rfl) (by kernel_rfl) (by kernel_rfl) ?_
      clear H
      intro v16 H
      refine x_nil ?_
      refine x_then ?_
      refine x_seq ?_
      refine x_region ?_
      refine x_val (.pointer (some ⟨p, 0, none⟩)) (by kernel_rfl) rfl (by kernel_rfl) ?_
      refine x_loadn (t := 29) H 0 g3 0 #[.int .i64 ((l.getD k (0, 0, 0, 0, 0)).1), .int .i64 ((l.getD k (0, 0, 0, 0, 0)).2.1), .int .i64 ((l.getD k (0, 0, 0, 0, 0)).2.2.1), .int .i64 ((l.getD k (0, 0, 0, 0, 0)).2.2.2.1), .int .i64 ((l.getD k (0, 0, 0, 0, 0)).2.2.2.2)] 29 [.int .i64 ((l.getD k (0, 0, 0, 0, 0)).1), .int .i64 ((l.getD k (0, 0, 0, 0, 0)).2.1), .int .i64 ((l.getD k (0, 0, 0, 0, 0)).2.2.1), .int .i64 ((l.getD k (0, 0, 0, 0, 0)).2.2.2.1), .int .i64 ((l.getD k (0, 0, 0, 0, 0)).2.2.2.2)] (by kernel_rfl) (by kernel_rfl) (by kernel_rfl) rfl (by kernel_rfl) (by kernel_rfl) ?_
      refine x_call (by kernel_rfl) rfl (by kernel_rfl) (Hs.useE (A := [.blk p #[sv, .int .i64 ((room : Nat) : Int), .int .i64 nx, .bool lo] 80, .row (sv) 29 5 (List.length xs) (List.flatMap recL xs)]) (R := [.blk g3 #[.int .i64 ((l.getD k (0, 0, 0, 0, 0)).1), .int .i64 ((l.getD k (0, 0, 0, 0, 0)).2.1), .int .i64 ((l.getD k (0, 0, 0, 0, 0)).2.2.1), .int .i64 ((l.getD k (0, 0, 0, 0, 0)).2.2.2.1), .int .i64 ((l.getD k (0, 0, 0, 0, 0)).2.2.2.2)] 29]) (fun sv1 => [.blk p #[sv1, .int .i64 ((room : Nat) : Int), .int .i64 (nx + 1), .bool (lo || !(decide (List.length xs < room)))] 80, .row (sv1) 29 5 (List.length ((addS room xs (nx, ((l.getD k (0, 0, 0, 0, 0)).2.1), ((l.getD k (0, 0, 0, 0, 0)).2.2.1), ((l.getD k (0, 0, 0, 0, 0)).2.2.2.1), ((l.getD k (0, 0, 0, 0, 0)).2.2.2.2))).1)) (List.flatMap recL ((addS room xs (nx, ((l.getD k (0, 0, 0, 0, 0)).2.1), ((l.getD k (0, 0, 0, 0, 0)).2.2.1), ((l.getD k (0, 0, 0, 0, 0)).2.2.2.1), ((l.getD k (0, 0, 0, 0, 0)).2.2.2.2))).1))]) (fun _ => .tuple #[.agg #[.int .i64 nx, .int .i64 ((l.getD k (0, 0, 0, 0, 0)).2.1), .int .i64 ((l.getD k (0, 0, 0, 0, 0)).2.2.1), .int .i64 ((l.getD k (0, 0, 0, 0, 0)).2.2.2.1), .int .i64 ((l.getD k (0, 0, 0, 0, 0)).2.2.2.2)], .bool ((addS room xs (nx, ((l.getD k (0, 0, 0, 0, 0)).2.1), ((l.getD k (0, 0, 0, 0, 0)).2.2.1), ((l.getD k (0, 0, 0, 0, 0)).2.2.2.1), ((l.getD k (0, 0, 0, 0, 0)).2.2.2.2))).2)]) (H.pick [1, 2, 0] _ (by decide) (by kernel_rfl)) (fun h => Add_any ((l.getD k (0, 0, 0, 0, 0)).1) ((l.getD k (0, 0, 0, 0, 0)).2.1) ((l.getD k (0, 0, 0, 0, 0)).2.2.1) ((l.getD k (0, 0, 0, 0, 0)).2.2.2.1) ((l.getD k (0, 0, 0, 0, 0)).2.2.2.2) (by first | omega | decide) (by omega) (by omega) (by omega) _ h)) ?_
      rintro _ v17 ⟨sv1, rfl, H'⟩
      refine ⟨_, rfl, ?_⟩
      clear H
      have H : Hs [] w0 _ [.blk p #[sv1, .int .i64 ((room : Nat) : Int), .int .i64 (nx + 1), .bool (lo || !(decide (List.length xs < room)))] 80, .row (sv1) 29 5 (List.length ((addS room xs (nx, ((l.getD k (0, 0, 0, 0, 0)).2.1), ((l.getD k (0, 0, 0, 0, 0)).2.2.1), ((l.getD k (0, 0, 0, 0, 0)).2.2.2.1), ((l.getD k (0, 0, 0, 0, 0)).2.2.2.2))).1)) (List.flatMap recL ((addS room xs (nx, ((l.getD k (0, 0, 0, 0, 0)).2.1), ((l.getD k (0, 0, 0, 0, 0)).2.2.1), ((l.getD k (0, 0, 0, 0, 0)).2.2.2.1), ((l.getD k (0, 0, 0, 0, 0)).2.2.2.2))).1)), .blk g3 #[.int .i64 ((l.getD k (0, 0, 0, 0, 0)).1), .int .i64 ((l.getD k (0, 0, 0, 0, 0)).2.1), .int .i64 ((l.getD k (0, 0, 0, 0, 0)).2.2.1), .int .i64 ((l.getD k (0, 0, 0, 0, 0)).2.2.2.1), .int .i64 ((l.getD k (0, 0, 0, 0, 0)).2.2.2.2)] 29] := H'
      clear H'
      refine x_val (.tuple #[.agg #[.int .i64 nx, .int .i64 ((l.getD k (0, 0, 0, 0, 0)).2.1), .int .i64 ((l.getD k (0, 0, 0, 0, 0)).2.2.1), .int .i64 ((l.getD k (0, 0, 0, 0, 0)).2.2.2.1), .int .i64 ((l.getD k (0, 0, 0, 0, 0)).2.2.2.2)], .bool ((addS room xs (nx, ((l.getD k (0, 0, 0, 0, 0)).2.1), ((l.getD k (0, 0, 0, 0, 0)).2.2.1), ((l.getD k (0, 0, 0, 0, 0)).2.2.2.1), ((l.getD k (0, 0, 0, 0, 0)).2.2.2.2))).2)]) (by kernel_rfl) rfl (by kernel_rfl) ?_
      refine x_val (.agg #[.int .i64 nx, .int .i64 ((l.getD k (0, 0, 0, 0, 0)).2.1), .int .i64 ((l.getD k (0, 0, 0, 0, 0)).2.2.1), .int .i64 ((l.getD k (0, 0, 0, 0, 0)).2.2.2.1), .int .i64 ((l.getD k (0, 0, 0, 0, 0)).2.2.2.2)]) (by kernel_rfl) rfl (by kernel_rfl) ?_
      refine x_val (.bool ((addS room xs (nx, ((l.getD k (0, 0, 0, 0, 0)).2.1), ((l.getD k (0, 0, 0, 0, 0)).2.2.1), ((l.getD k (0, 0, 0, 0, 0)).2.2.2.1), ((l.getD k (0, 0, 0, 0, 0)).2.2.2.2))).2)) (by kernel_rfl) rfl (by kernel_rfl) ?_
      refine x_box H #[.int .i64 0, .int .i64 0, .int .i64 0, .int .i64 0, .int .i64 0] 29 (by kernel_rfl) rfl (by kernel_rfl) ?_
      clear H
      intro v18 g4 H
      refine x_store (t := 29) (v := .agg #[.int .i64 nx, .int .i64 ((l.getD k (0, 0, 0, 0, 0)).2.1), .int .i64 ((l.getD k (0, 0, 0, 0, 0)).2.2.1), .int .i64 ((l.getD k (0, 0, 0, 0, 0)).2.2.2.1), .int .i64 ((l.getD k (0, 0, 0, 0, 0)).2.2.2.2)]) H 0 g4 0 #[.int .i64 0, .int .i64 0, .int .i64 0, .int .i64 0, .int .i64 0] #[.int .i64 nx, .int .i64 ((l.getD k (0, 0, 0, 0, 0)).2.1), .int .i64 ((l.getD k (0, 0, 0, 0, 0)).2.2.1), .int .i64 ((l.getD k (0, 0, 0, 0, 0)).2.2.2.1), .int .i64 ((l.getD k (0, 0, 0, 0, 0)).2.2.2.2)] 29 [.int .i64 nx, .int .i64 ((l.getD k (0, 0, 0, 0, 0)).2.1), .int .i64 ((l.getD k (0, 0, 0, 0, 0)).2.2.1), .int .i64 ((l.getD k (0, 0, 0, 0, 0)).2.2.2.1), .int .i64 ((l.getD k (0, 0, 0, 0, 0)).2.2.2.2)] [.blk g4 #[.int .i64 nx, .int .i64 ((l.getD k (0, 0, 0, 0, 0)).2.1), .int .i64 ((l.getD k (0, 0, 0, 0, 0)).2.2.1), .int .i64 ((l.getD k (0, 0, 0, 0, 0)).2.2.2.1), .int .i64 ((l.getD k (0, 0, 0, 0, 0)).2.2.2.2)] 29, .blk p #[sv1, .int .i64 ((room : Nat) : Int), .int .i64 (nx + 1), .bool (lo || !(decide (List.length xs < room)))] 80, .row (sv1) 29 5 (List.length ((addS room xs (nx, ((l.getD k (0, 0, 0, 0, 0)).2.1), ((l.getD k (0, 0, 0, 0, 0)).2.2.1), ((l.getD k (0, 0, 0, 0, 0)).2.2.2.1), ((l.getD k (0, 0, 0, 0, 0)).2.2.2.2))).1)) (List.flatMap recL ((addS room xs (nx, ((l.getD k (0, 0, 0, 0, 0)).2.1), ((l.getD k (0, 0, 0, 0, 0)).2.2.1), ((l.getD k (0, 0, 0, 0, 0)).2.2.2.1), ((l.getD k (0, 0, 0, 0, 0)).2.2.2.2))).1)), .blk g3 #[.int .i64 ((l.getD k (0, 0, 0, 0, 0)).1), .int .i64 ((l.getD k (0, 0, 0, 0, 0)).2.1), .int .i64 ((l.getD k (0, 0, 0, 0, 0)).2.2.1), .int .i64 ((l.getD k (0, 0, 0, 0, 0)).2.2.2.1), .int .i64 ((l.getD k (0, 0, 0, 0, 0)).2.2.2.2)] 29] (by kernel_rfl) rfl (by kernel_rfl) (by kernel_rfl) (by kernel_rfl) (by kernel_rfl) (by kernel_rfl) (by kernel_rfl) (by kernel_rfl) (by kernel_rfl) ?_
      clear H
      intro v19 H
      refine x_val (.bool ((addS room xs (nx, ((l.getD k (0, 0, 0, 0, 0)).2.1), ((l.getD k (0, 0, 0, 0, 0)).2.2.1), ((l.getD k (0, 0, 0, 0, 0)).2.2.2.1), ((l.getD k (0, 0, 0, 0, 0)).2.2.2.2))).2)) (by kernel_rfl) rfl (by kernel_rfl) ?_
      refine x_nil ?_
      refine x_then ?_
      refine x_seq ?_
      refine x_region ?_
      refine x_val (.bool ((addS room xs (nx, ((l.getD k (0, 0, 0, 0, 0)).2.1), ((l.getD k (0, 0, 0, 0, 0)).2.2.1), ((l.getD k (0, 0, 0, 0, 0)).2.2.2.1), ((l.getD k (0, 0, 0, 0, 0)).2.2.2.2))).2)) (by kernel_rfl) rfl (by kernel_rfl) ?_
      refine x_val (.bool ((addS room xs (nx, ((l.getD k (0, 0, 0, 0, 0)).2.1), ((l.getD k (0, 0, 0, 0, 0)).2.2.1), ((l.getD k (0, 0, 0, 0, 0)).2.2.2.1), ((l.getD k (0, 0, 0, 0, 0)).2.2.2.2))).2)) (by kernel_rfl) rfl (by kernel_rfl) ?_
      cases h7 : (addS room xs (nx, ((l.getD k (0, 0, 0, 0, 0)).2.1), ((l.getD k (0, 0, 0, 0, 0)).2.2.1), ((l.getD k (0, 0, 0, 0, 0)).2.2.2.1), ((l.getD k (0, 0, 0, 0, 0)).2.2.2.2))).2
      · skip
        refine x_skip (by kernel_rfl) ?_
        refine x_skip (by kernel_rfl) ?_
        refine x_val (.bool false) (by kernel_rfl) rfl (by kernel_rfl) ?_
        refine x_nil ?_
        refine x_then ?_
        refine x_f (by kernel_rfl) ?_
        refine x_seq ?_
        refine x_region ?_
        refine x_val (.bool false) (by kernel_rfl) rfl (by kernel_rfl) ?_
        refine x_nil ?_
        refine x_then ?_
        refine x_f (by kernel_rfl) ?_
        refine x_skipc ?_
        refine x_blk ?_
        refine x_then ?_
        refine x_region ?_
        refine x_ar (((k : Nat) : Int) + 1) ⟨by omega, by omega⟩ (by kernel_rfl) rfl (by kernel_rfl) ?_
        refine x_val (.int .i64 (((k : Nat) : Int) + 1)) (by kernel_rfl) rfl (by kernel_rfl) ?_
        refine x_nil ?_
        refine x_then ?_
        replace H := H.pick [1, 2] [.blk p #[sv1, .int .i64 ((room : Nat) : Int), .int .i64 (nx + 1), .bool (lo || !(decide (List.length xs < room)))] 80, .row (sv1) 29 5 (List.length ((addS room xs (nx, ((l.getD k (0, 0, 0, 0, 0)).2.1), ((l.getD k (0, 0, 0, 0, 0)).2.2.1), ((l.getD k (0, 0, 0, 0, 0)).2.2.2.1), ((l.getD k (0, 0, 0, 0, 0)).2.2.2.2))).1)) (List.flatMap recL ((addS room xs (nx, ((l.getD k (0, 0, 0, 0, 0)).2.1), ((l.getD k (0, 0, 0, 0, 0)).2.2.1), ((l.getD k (0, 0, 0, 0, 0)).2.2.2.1), ((l.getD k (0, 0, 0, 0, 0)).2.2.2.2))).1))] (by decide) (by kernel_rfl)
        exact ⟨(k + 1, sv1, ((addS room xs (nx, ((l.getD k (0, 0, 0, 0, 0)).2.1), ((l.getD k (0, 0, 0, 0, 0)).2.2.1), ((l.getD k (0, 0, 0, 0, 0)).2.2.2.1), ((l.getD k (0, 0, 0, 0, 0)).2.2.2.2))).1), (nx + 1), (lo || !(decide (List.length xs < room))), gr, cm), (by dsimp only; omega), (nthV [.pointer (some ⟨g3, 0, none⟩), .pointer (some ⟨g4, 0, none⟩), .bool false, .bool true, .pointer (some ⟨ga, oa + k * 5, none⟩), .agg #[.int .i64 ((l.getD k (0, 0, 0, 0, 0)).1), .int .i64 ((l.getD k (0, 0, 0, 0, 0)).2.1), .int .i64 ((l.getD k (0, 0, 0, 0, 0)).2.2.1), .int .i64 ((l.getD k (0, 0, 0, 0, 0)).2.2.2.1), .int .i64 ((l.getD k (0, 0, 0, 0, 0)).2.2.2.2)], .tuple #[.agg #[.int .i64 nx, .int .i64 ((l.getD k (0, 0, 0, 0, 0)).2.1), .int .i64 ((l.getD k (0, 0, 0, 0, 0)).2.2.1), .int .i64 ((l.getD k (0, 0, 0, 0, 0)).2.2.2.1), .int .i64 ((l.getD k (0, 0, 0, 0, 0)).2.2.2.2)], .bool false], .pointer (some ⟨p, 0, none⟩), .agg #[.int .i64 ((l.getD k (0, 0, 0, 0, 0)).1), .int .i64 ((l.getD k (0, 0, 0, 0, 0)).2.1), .int .i64 ((l.getD k (0, 0, 0, 0, 0)).2.2.1), .int .i64 ((l.getD k (0, 0, 0, 0, 0)).2.2.2.1), .int .i64 ((l.getD k (0, 0, 0, 0, 0)).2.2.2.2)], .tuple #[.agg #[.int .i64 nx, .int .i64 ((l.getD k (0, 0, 0, 0, 0)).2.1), .int .i64 ((l.getD k (0, 0, 0, 0, 0)).2.2.1), .int .i64 ((l.getD k (0, 0, 0, 0, 0)).2.2.2.1), .int .i64 ((l.getD k (0, 0, 0, 0, 0)).2.2.2.2)], .bool false], .agg #[.int .i64 nx, .int .i64 ((l.getD k (0, 0, 0, 0, 0)).2.1), .int .i64 ((l.getD k (0, 0, 0, 0, 0)).2.2.1), .int .i64 ((l.getD k (0, 0, 0, 0, 0)).2.2.2.1), .int .i64 ((l.getD k (0, 0, 0, 0, 0)).2.2.2.2)], .bool false, .bool false, .bool false, undef, undef, .bool false, (uf1 17), (uf1 18), .bool false, (uf1 20), (uf1 21), .int .i64 (((k : Nat) : Int) + 1)]), (by kernel_rfl), H, (by omega), (by omega), (lost_add r3 r4), (by rw [len_add]; split <;> omega), ((cnt_no1 h7).trans r5), (by omega), (by omega)⟩
      · skip
        refine x_loadn (t := 29) H 3 g3 0 #[.int .i64 ((l.getD k (0, 0, 0, 0, 0)).1), .int .i64 ((l.getD k (0, 0, 0, 0, 0)).2.1), .int .i64 ((l.getD k (0, 0, 0, 0, 0)).2.2.1), .int .i64 ((l.getD k (0, 0, 0, 0, 0)).2.2.2.1), .int .i64 ((l.getD k (0, 0, 0, 0, 0)).2.2.2.2)] 29 [.int .i64 ((l.getD k (0, 0, 0, 0, 0)).1), .int .i64 ((l.getD k (0, 0, 0, 0, 0)).2.1), .int .i64 ((l.getD k (0, 0, 0, 0, 0)).2.2.1), .int .i64 ((l.getD k (0, 0, 0, 0, 0)).2.2.2.1), .int .i64 ((l.getD k (0, 0, 0, 0, 0)).2.2.2.2)] (by kernel_rfl) (by kernel_rfl) (by kernel_rfl) rfl (by kernel_rfl) (by kernel_rfl) ?_
        refine x_callB (.bool (decide (((l.getD k (0, 0, 0, 0, 0)).2.2.1) = 2))) H (by kernel_rfl) rfl (by kernel_rfl) (Grave_any ((l.getD k (0, 0, 0, 0, 0)).1) ((l.getD k (0, 0, 0, 0, 0)).2.1) ((l.getD k (0, 0, 0, 0, 0)).2.2.1) ((l.getD k (0, 0, 0, 0, 0)).2.2.2.1) ((l.getD k (0, 0, 0, 0, 0)).2.2.2.2) _) ?_
        clear H
        intro v20 H
        refine x_val (.bool (decide (((l.getD k (0, 0, 0, 0, 0)).2.2.1) = 2))) (by kernel_rfl) rfl (by kernel_rfl) ?_
        refine x_nil ?_
        refine x_then ?_
        cases h8 : decide (((l.getD k (0, 0, 0, 0, 0)).2.2.1) = 2)
        · skip
          have h8p := of_decide_eq_false h8
          refine x_f (by kernel_rfl) ?_
          refine x_seq ?_
          refine x_region ?_
          refine x_val (.bool true) (by kernel_rfl) rfl (by kernel_rfl) ?_
          refine x_nil ?_
          refine x_then ?_
          refine x_t (by kernel_rfl) ?_
          refine x_region ?_
          refine x_val (.int .i64 ((cm : Nat) : Int)) (by kernel_rfl) rfl (by kernel_rfl) ?_
          refine x_ar (((cm : Nat) : Int) + 1) ⟨by omega, by omega⟩ (by kernel_rfl) rfl (by kernel_rfl) ?_
          refine x_val (.int .i64 (((cm : Nat) : Int) + 1)) (by kernel_rfl) rfl (by kernel_rfl) ?_
          refine x_nil ?_
          refine x_blk ?_
          refine x_then ?_
          refine x_region ?_
          refine x_ar (((k : Nat) : Int) + 1) ⟨by omega, by omega⟩ (by kernel_rfl) rfl (by kernel_rfl) ?_
          refine x_val (.int .i64 (((k : Nat) : Int) + 1)) (by kernel_rfl) rfl (by kernel_rfl) ?_
          refine x_nil ?_
          refine x_then ?_
          replace H := H.pick [1, 2] [.blk p #[sv1, .int .i64 ((room : Nat) : Int), .int .i64 (nx + 1), .bool (lo || !(decide (List.length xs < room)))] 80, .row (sv1) 29 5 (List.length ((addS room xs (nx, ((l.getD k (0, 0, 0, 0, 0)).2.1), ((l.getD k (0, 0, 0, 0, 0)).2.2.1), ((l.getD k (0, 0, 0, 0, 0)).2.2.2.1), ((l.getD k (0, 0, 0, 0, 0)).2.2.2.2))).1)) (List.flatMap recL ((addS room xs (nx, ((l.getD k (0, 0, 0, 0, 0)).2.1), ((l.getD k (0, 0, 0, 0, 0)).2.2.1), ((l.getD k (0, 0, 0, 0, 0)).2.2.2.1), ((l.getD k (0, 0, 0, 0, 0)).2.2.2.2))).1))] (by decide) (by kernel_rfl)
          exact ⟨(k + 1, sv1, ((addS room xs (nx, ((l.getD k (0, 0, 0, 0, 0)).2.1), ((l.getD k (0, 0, 0, 0, 0)).2.2.1), ((l.getD k (0, 0, 0, 0, 0)).2.2.2.1), ((l.getD k (0, 0, 0, 0, 0)).2.2.2.2))).1), (nx + 1), (lo || !(decide (List.length xs < room))), gr, (cm + 1)), (by dsimp only; omega), (nthV [.pointer (some ⟨g3, 0, none⟩), .pointer (some ⟨g4, 0, none⟩), .bool true, .bool true, .pointer (some ⟨ga, oa + k * 5, none⟩), .agg #[.int .i64 ((l.getD k (0, 0, 0, 0, 0)).1), .int .i64 ((l.getD k (0, 0, 0, 0, 0)).2.1), .int .i64 ((l.getD k (0, 0, 0, 0, 0)).2.2.1), .int .i64 ((l.getD k (0, 0, 0, 0, 0)).2.2.2.1), .int .i64 ((l.getD k (0, 0, 0, 0, 0)).2.2.2.2)], .tuple #[.agg #[.int .i64 nx, .int .i64 ((l.getD k (0, 0, 0, 0, 0)).2.1), .int .i64 ((l.getD k (0, 0, 0, 0, 0)).2.2.1), .int .i64 ((l.getD k (0, 0, 0, 0, 0)).2.2.2.1), .int .i64 ((l.getD k (0, 0, 0, 0, 0)).2.2.2.2)], .bool true], .pointer (some ⟨p, 0, none⟩), .agg #[.int .i64 ((l.getD k (0, 0, 0, 0, 0)).1), .int .i64 ((l.getD k (0, 0, 0, 0, 0)).2.1), .int .i64 ((l.getD k (0, 0, 0, 0, 0)).2.2.1), .int .i64 ((l.getD k (0, 0, 0, 0, 0)).2.2.2.1), .int .i64 ((l.getD k (0, 0, 0, 0, 0)).2.2.2.2)], .tuple #[.agg #[.int .i64 nx, .int .i64 ((l.getD k (0, 0, 0, 0, 0)).2.1), .int .i64 ((l.getD k (0, 0, 0, 0, 0)).2.2.1), .int .i64 ((l.getD k (0, 0, 0, 0, 0)).2.2.2.1), .int .i64 ((l.getD k (0, 0, 0, 0, 0)).2.2.2.2)], .bool true], .agg #[.int .i64 nx, .int .i64 ((l.getD k (0, 0, 0, 0, 0)).2.1), .int .i64 ((l.getD k (0, 0, 0, 0, 0)).2.2.1), .int .i64 ((l.getD k (0, 0, 0, 0, 0)).2.2.2.1), .int .i64 ((l.getD k (0, 0, 0, 0, 0)).2.2.2.2)], .bool true, .bool true, .bool true, .agg #[.int .i64 ((l.getD k (0, 0, 0, 0, 0)).1), .int .i64 ((l.getD k (0, 0, 0, 0, 0)).2.1), .int .i64 ((l.getD k (0, 0, 0, 0, 0)).2.2.1), .int .i64 ((l.getD k (0, 0, 0, 0, 0)).2.2.2.1), .int .i64 ((l.getD k (0, 0, 0, 0, 0)).2.2.2.2)], .bool false, .bool false, (uf1 17), (uf1 18), .bool true, .int .i64 ((cm : Nat) : Int), .int .i64 (((cm : Nat) : Int) + 1), .int .i64 (((k : Nat) : Int) + 1)]), (by kernel_rfl), H, (by omega), (by omega), (lost_add r3 r4), (by rw [len_add]; split <;> omega), ((cnt_no2 (r := (nx, ((l.getD k (0, 0, 0, 0, 0)).2.1), ((l.getD k (0, 0, 0, 0, 0)).2.2.1), ((l.getD k (0, 0, 0, 0, 0)).2.2.2.1), ((l.getD k (0, 0, 0, 0, 0)).2.2.2.2))) h8p).trans r5), (by omega), (by omega)⟩
        · skip
          have h8p := of_decide_eq_true h8
          refine x_t (by kernel_rfl) ?_
          refine x_region ?_
          refine x_val (.int .i64 ((gr : Nat) : Int)) (by kernel_rfl) rfl (by kernel_rfl) ?_
          refine x_ar (((gr : Nat) : Int) + 1) ⟨by omega, by omega⟩ (by kernel_rfl) rfl (by kernel_rfl) ?_
          refine x_val (.int .i64 (((gr : Nat) : Int) + 1)) (by kernel_rfl) rfl (by kernel_rfl) ?_
          refine x_nil ?_
          refine x_blk ?_
          refine x_then ?_
          refine x_region ?_
          refine x_ar (((k : Nat) : Int) + 1) ⟨by omega, by omega⟩ (by kernel_rfl) rfl (by kernel_rfl) ?_
          refine x_val (.int .i64 (((k : Nat) : Int) + 1)) (by kernel_rfl) rfl (by kernel_rfl) ?_
          refine x_nil ?_
          refine x_then ?_
          replace H := H.pick [1, 2] [.blk p #[sv1, .int .i64 ((room : Nat) : Int), .int .i64 (nx + 1), .bool (lo || !(decide (List.length xs < room)))] 80, .row (sv1) 29 5 (List.length ((addS room xs (nx, ((l.getD k (0, 0, 0, 0, 0)).2.1), ((l.getD k (0, 0, 0, 0, 0)).2.2.1), ((l.getD k (0, 0, 0, 0, 0)).2.2.2.1), ((l.getD k (0, 0, 0, 0, 0)).2.2.2.2))).1)) (List.flatMap recL ((addS room xs (nx, ((l.getD k (0, 0, 0, 0, 0)).2.1), ((l.getD k (0, 0, 0, 0, 0)).2.2.1), ((l.getD k (0, 0, 0, 0, 0)).2.2.2.1), ((l.getD k (0, 0, 0, 0, 0)).2.2.2.2))).1))] (by decide) (by kernel_rfl)
          exact ⟨(k + 1, sv1, ((addS room xs (nx, ((l.getD k (0, 0, 0, 0, 0)).2.1), ((l.getD k (0, 0, 0, 0, 0)).2.2.1), ((l.getD k (0, 0, 0, 0, 0)).2.2.2.1), ((l.getD k (0, 0, 0, 0, 0)).2.2.2.2))).1), (nx + 1), (lo || !(decide (List.length xs < room))), (gr + 1), cm), (by dsimp only; omega), (nthV [.pointer (some ⟨g3, 0, none⟩), .pointer (some ⟨g4, 0, none⟩), .bool true, .bool true, .pointer (some ⟨ga, oa + k * 5, none⟩), .agg #[.int .i64 ((l.getD k (0, 0, 0, 0, 0)).1), .int .i64 ((l.getD k (0, 0, 0, 0, 0)).2.1), .int .i64 ((l.getD k (0, 0, 0, 0, 0)).2.2.1), .int .i64 ((l.getD k (0, 0, 0, 0, 0)).2.2.2.1), .int .i64 ((l.getD k (0, 0, 0, 0, 0)).2.2.2.2)], .tuple #[.agg #[.int .i64 nx, .int .i64 ((l.getD k (0, 0, 0, 0, 0)).2.1), .int .i64 ((l.getD k (0, 0, 0, 0, 0)).2.2.1), .int .i64 ((l.getD k (0, 0, 0, 0, 0)).2.2.2.1), .int .i64 ((l.getD k (0, 0, 0, 0, 0)).2.2.2.2)], .bool true], .pointer (some ⟨p, 0, none⟩), .agg #[.int .i64 ((l.getD k (0, 0, 0, 0, 0)).1), .int .i64 ((l.getD k (0, 0, 0, 0, 0)).2.1), .int .i64 ((l.getD k (0, 0, 0, 0, 0)).2.2.1), .int .i64 ((l.getD k (0, 0, 0, 0, 0)).2.2.2.1), .int .i64 ((l.getD k (0, 0, 0, 0, 0)).2.2.2.2)], .tuple #[.agg #[.int .i64 nx, .int .i64 ((l.getD k (0, 0, 0, 0, 0)).2.1), .int .i64 ((l.getD k (0, 0, 0, 0, 0)).2.2.1), .int .i64 ((l.getD k (0, 0, 0, 0, 0)).2.2.2.1), .int .i64 ((l.getD k (0, 0, 0, 0, 0)).2.2.2.2)], .bool true], .agg #[.int .i64 nx, .int .i64 ((l.getD k (0, 0, 0, 0, 0)).2.1), .int .i64 ((l.getD k (0, 0, 0, 0, 0)).2.2.1), .int .i64 ((l.getD k (0, 0, 0, 0, 0)).2.2.2.1), .int .i64 ((l.getD k (0, 0, 0, 0, 0)).2.2.2.2)], .bool true, .bool true, .bool true, .agg #[.int .i64 ((l.getD k (0, 0, 0, 0, 0)).1), .int .i64 ((l.getD k (0, 0, 0, 0, 0)).2.1), .int .i64 ((l.getD k (0, 0, 0, 0, 0)).2.2.1), .int .i64 ((l.getD k (0, 0, 0, 0, 0)).2.2.2.1), .int .i64 ((l.getD k (0, 0, 0, 0, 0)).2.2.2.2)], .bool true, .bool true, .int .i64 ((gr : Nat) : Int), .int .i64 (((gr : Nat) : Int) + 1), (uf1 19), (uf1 20), (uf1 21), .int .i64 (((k : Nat) : Int) + 1)]), (by kernel_rfl), H, (by omega), (by omega), (lost_add r3 r4), (by rw [len_add]; split <;> omega), (by rw [cnt_yes h7 h8p, r5]), (by omega), (by omega)⟩
  · skip
    have h1p := of_decide_eq_true h1
    refine x_t (by kernel_rfl) ?_
    refine x_seq ?_
    refine x_region ?_
    refine x_val (.bool true) (by kernel_rfl) rfl (by kernel_rfl) ?_
    refine x_nil ?_
    refine x_then ?_
    refine x_retc ?_
    refine x_then_ret ?_
    refine x_ret0 (.bool true) (by kernel_rfl) (by kernel_rfl) ?_
    exact ⟨rfl, H.below⟩

end Go.Proofs.Ytpeefnbcgilihaa
