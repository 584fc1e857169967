/- A log held against the document's. -/
import Derived.Test.YtpeefnbcgilihaaRecF
namespace Go.Proofs.Ytpeefnbcgilihaa
open Go Go.RowKit
set_option linter.unusedVariables false
set_option linter.unusedSimpArgs false

set_option maxRecDepth 100000 in
set_option maxHeartbeats 4000000 in
theorem same_yes {p : Nat} {sv xv : Value} {xs : List Rec} {room : Nat} {nx rx : Int} {lo : Bool} (hn : xs.length ≤ 4096) (w0 : World) (H0 : Hs (fps [.blk p #[sv, .int .i64 ((room : Nat) : Int), .int .i64 nx, .bool lo] 80, .row (sv) 29 5 (List.length xs) (List.flatMap recL xs), .row (xv) 46 5 (List.length xs) (List.flatMap recL xs)]) w0 w0 [.blk p #[sv, .int .i64 ((room : Nat) : Int), .int .i64 nx, .bool lo] 80, .row (sv) 29 5 (List.length xs) (List.flatMap recL xs), .row (xv) 46 5 (List.length xs) (List.flatMap recL xs)]) :
    Calls Try.prog 20 #[.pointer (some ⟨p, 0, none⟩), .agg #[xv, .int .i64 rx, .int .i64 nx, .bool lo]] w0 fun e w' => e = .returned (.bool true) ∧ Hs (fps [.blk p #[sv, .int .i64 ((room : Nat) : Int), .int .i64 nx, .bool lo] 80, .row (sv) 29 5 (List.length xs) (List.flatMap recL xs), .row (xv) 46 5 (List.length xs) (List.flatMap recL xs)]) w0 w' [.blk p #[sv, .int .i64 ((room : Nat) : Int), .int .i64 nx, .bool lo] 80, .row (sv) 29 5 (List.length xs) (List.flatMap recL xs), .row (xv) 46 5 (List.length xs) (List.flatMap recL xs)] := by
  refine x_enterM Try.func20 rfl #[.pointer (some ⟨p, 0, none⟩), .agg #[xv, .int .i64 rx, .int .i64 nx, .bool lo], undef, undef, undef, undef, undef, undef, undef, undef, undef, undef, undef, undef, undef, undef, undef, undef, undef, undef, undef, undef, undef, undef, undef, undef, undef, undef, undef, undef, undef, undef, undef, undef, undef, undef, undef, undef, undef, undef, undef, undef, undef, undef, undef, undef, undef, undef, undef, undef, undef] (by kernel_rfl) ?_
  have H := H0
  refine x_seq ?_
  refine x_region ?_
  refine x_box H #[xv, .int .i64 rx, .int .i64 nx, .bool lo] 41 (by kernel_rfl) rfl (by kernel_rfl) ?_
  clear H
  intro v1 g1 H
  refine x_box H #[.bool false] 4 (by kernel_rfl) rfl (by kernel_rfl) ?_
  clear H
  intro v2 g2 H
  refine x_nil ?_
  refine x_then ?_
  refine x_seq ?_
  refine x_region ?_
  refine x_box H #[.int .i64 0] 3 (by kernel_rfl) rfl (by kernel_rfl) ?_
  clear H
  intro v3 g3 H
  refine x_store (t := 3) (v := .int .i64 0) H 0 g3 0 #[.int .i64 0] #[.int .i64 0] 3 [.int .i64 0] [.blk g3 #[.int .i64 0] 3, .blk g2 #[.bool false] 4, .blk g1 #[xv, .int .i64 rx, .int .i64 nx, .bool lo] 41, .blk p #[sv, .int .i64 ((room : Nat) : Int), .int .i64 nx, .bool lo] 80, .row (sv) 29 5 (List.length xs) (List.flatMap recL xs), .row (xv) 46 5 (List.length xs) (List.flatMap recL xs)] (by kernel_rfl) rfl (by kernel_rfl) (by kernel_rfl) (by kernel_rfl) (by kernel_rfl) (by kernel_rfl) (by kernel_rfl) (by kernel_rfl) (by kernel_rfl) ?_
  clear H
  intro v4 H
  refine x_nil ?_
  refine x_then ?_
  refine x_seq ?_
  refine x_seq ?_
  refine x_region ?_
  refine x_val (.pointer (some ⟨p, 0, none⟩)) (by kernel_rfl) rfl (by kernel_rfl) ?_
  refine x_call (by kernel_rfl) rfl (by kernel_rfl) (All_of _ (H.roOf [3, 4] [.blk p #[sv, .int .i64 ((room : Nat) : Int), .int .i64 nx, .bool lo] 80, .row (sv) 29 5 (List.length xs) (List.flatMap recL xs)] (by kernel_rfl))) ?_
  rintro _ v5 ⟨q, rfl, hN'⟩
  refine ⟨_, rfl, ?_⟩
  replace H := H.more hN'
  clear hN'
  replace H : Hs (fps [.blk p #[sv, .int .i64 ((room : Nat) : Int), .int .i64 nx, .bool lo] 80, .row (sv) 29 5 (List.length xs) (List.flatMap recL xs), .row (xv) 46 5 (List.length xs) (List.flatMap recL xs)]) w0 _ [.blk q #[sv] 22, .blk g3 #[.int .i64 0] 3, .blk g2 #[.bool false] 4, .blk g1 #[xv, .int .i64 rx, .int .i64 nx, .bool lo] 41, .blk p #[sv, .int .i64 ((room : Nat) : Int), .int .i64 nx, .bool lo] 80, .row (sv) 29 5 (List.length xs) (List.flatMap recL xs), .row (xv) 46 5 (List.length xs) (List.flatMap recL xs)] := H
  refine x_nil ?_
  refine x_then ?_
  refine x_block ?_
  rcases H.rowForm 6 rfl with ⟨rfl, h0⟩ | ⟨gw, cw, rfl, hcw, -⟩
  · skip
    replace H := H.pick [1, 0, 5, 4, 3, 6, 2] [.blk g3 #[.int .i64 0] 3, .blk q #[sv] 22, .row (sv) 29 5 (List.length xs) (List.flatMap recL xs), .blk p #[sv, .int .i64 ((room : Nat) : Int), .int .i64 nx, .bool lo] 80, .blk g1 #[.slice none 0 0, .int .i64 rx, .int .i64 nx, .bool lo] 41, .row (.slice none 0 0) 46 5 (List.length xs) (List.flatMap recL xs), .blk g2 #[.bool false] 4] (by decide) (by kernel_rfl)
    replace H : Hs (fps [.blk p #[sv, .int .i64 ((room : Nat) : Int), .int .i64 nx, .bool lo] 80, .row (sv) 29 5 (List.length xs) (List.flatMap recL xs), .row (.slice none 0 0) 46 5 (List.length xs) (List.flatMap recL xs)]) w0 _ [.blk g3 #[.int .i64 ((0 : Nat) : Int)] 3, .blk q #[sv] 22, .row (sv) 29 5 (List.length xs) (List.flatMap recL xs), .blk p #[sv, .int .i64 ((room : Nat) : Int), .int .i64 nx, .bool lo] 80, .blk g1 #[.slice none 0 0, .int .i64 rx, .int .i64 nx, .bool lo] 41, .row (.slice none 0 0) 46 5 (List.length xs) (List.flatMap recL xs), .blk g2 #[.bool false] 4] := H
    refine x_rangeB (α := Rec) (G := Nat) xs (fun x => #[.agg #[.int .i64 x.1, .int .i64 x.2.1, .int .i64 x.2.2.1, .int .i64 x.2.2.2.1, .int .i64 x.2.2.2.2]]) [.blk q #[sv] 22, .row (sv) 29 5 (List.length xs) (List.flatMap recL xs)] [1, 2] (fps [.blk g3 #[.int .i64 ((0 : Nat) : Int)] 3, .blk q #[sv] 22, .row (sv) 29 5 (List.length xs) (List.flatMap recL xs), .blk p #[sv, .int .i64 ((room : Nat) : Int), .int .i64 nx, .bool lo] 80, .blk g1 #[.slice none 0 0, .int .i64 rx, .int .i64 nx, .bool lo] 41, .row (.slice none 0 0) 46 5 (List.length xs) (List.flatMap recL xs), .blk g2 #[.bool false] 4]) (fun pre (c : Nat) => c = List.length pre) (fun pre (c : Nat) => [.blk g3 #[.int .i64 ((c : Nat) : Int)] 3, .blk q #[sv] 22, .row (sv) 29 5 (List.length xs) (List.flatMap recL xs), .blk p #[sv, .int .i64 ((room : Nat) : Int), .int .i64 nx, .bool lo] 80, .blk g1 #[.slice none 0 0, .int .i64 rx, .int .i64 nx, .bool lo] 41, .row (.slice none 0 0) 46 5 (List.length xs) (List.flatMap recL xs), .blk g2 #[.bool false] 4]) (fun cd pre (c : Nat) => (cd = .ret ∧ (¬ (pre <+: xs)))) (fun x b => [.blk b #[.int .i64 x.1, .int .i64 x.2.1, .int .i64 x.2.2.1, .int .i64 x.2.2.2.1, .int .i64 x.2.2.2.2] 29]) (fun x b => { tmps := #[.pointer (some ⟨p, 0, none⟩), .agg #[.slice none 0 0, .int .i64 rx, .int .i64 nx, .bool lo], undef, .pointer (some ⟨g1, 0, none⟩), .pointer (some ⟨g2, 0, none⟩), .pointer (some ⟨g3, 0, none⟩), .pointer (some ⟨b, 0, none⟩), .pointer (some ⟨p, 0, none⟩), .func (.func 52) #[] #[.pointer (some ⟨q, 0, none⟩)], .agg #[.int .i64 x.1, .int .i64 x.2.1, .int .i64 x.2.2.1, .int .i64 x.2.2.2.1, .int .i64 x.2.2.2.2], undef, undef, undef, undef, undef, undef, undef, undef, undef, undef, undef, undef, undef, undef, undef, undef, undef, undef, undef, undef, undef, undef, undef, undef, undef, undef, undef, undef, undef, undef, undef, undef, undef, undef, undef, undef, undef, undef, undef, undef, undef], defers := [] }) 0 (by kernel_rfl) (enters_of Try.func52 (by kernel_rfl) rfl) (vals_of (by omega) _ (H.roOf [1, 2] _ (by kernel_rfl))) (fun _ => rfl) rfl (by rintro _ c; rfl) (by rintro _ c; rfl) (by rintro _ c; rfl) (fun _ _ => rfl) (fun _ _ => rfl) H rfl ?_ ?_ ?_ ?_
    · skip
      clear H
      rintro lrnd pre x c W1 hI H
      refine x_at (b := { tmps := #[.pointer (some ⟨p, 0, none⟩), .agg #[.slice none 0 0, .int .i64 rx, .int .i64 nx, .bool lo], undef, .pointer (some ⟨g1, 0, none⟩), .pointer (some ⟨g2, 0, none⟩), .pointer (some ⟨g3, 0, none⟩), undef, .pointer (some ⟨p, 0, none⟩), .func (.func 52) #[] #[.pointer (some ⟨q, 0, none⟩)], .agg #[.int .i64 x.1, .int .i64 x.2.1, .int .i64 x.2.2.1, .int .i64 x.2.2.2.1, .int .i64 x.2.2.2.2], undef, undef, undef, undef, undef, undef, undef, undef, undef, undef, undef, undef, undef, undef, undef, undef, undef, undef, undef, undef, undef, undef, undef, undef, undef, undef, undef, undef, undef, undef, undef, undef, undef, undef, undef, undef, undef, undef, undef, undef, undef], defers := [] }) (by kernel_rfl) ?_
      refine x_region ?_
      refine x_box H #[.int .i64 0, .int .i64 0, .int .i64 0, .int .i64 0, .int .i64 0] 29 (by kernel_rfl) rfl (by kernel_rfl) ?_
      clear H
      intro v6 g4 H
      refine x_store (t := 29) (v := .agg #[.int .i64 x.1, .int .i64 x.2.1, .int .i64 x.2.2.1, .int .i64 x.2.2.2.1, .int .i64 x.2.2.2.2]) H 0 g4 0 #[.int .i64 0, .int .i64 0, .int .i64 0, .int .i64 0, .int .i64 0] #[.int .i64 x.1, .int .i64 x.2.1, .int .i64 x.2.2.1, .int .i64 x.2.2.2.1, .int .i64 x.2.2.2.2] 29 [.int .i64 x.1, .int .i64 x.2.1, .int .i64 x.2.2.1, .int .i64 x.2.2.2.1, .int .i64 x.2.2.2.2] [.blk g4 #[.int .i64 x.1, .int .i64 x.2.1, .int .i64 x.2.2.1, .int .i64 x.2.2.2.1, .int .i64 x.2.2.2.2] 29, .blk g3 #[.int .i64 ((c : Nat) : Int)] 3, .blk q #[sv] 22, .row (sv) 29 5 (List.length xs) (List.flatMap recL xs), .blk p #[sv, .int .i64 ((room : Nat) : Int), .int .i64 nx, .bool lo] 80, .blk g1 #[.slice none 0 0, .int .i64 rx, .int .i64 nx, .bool lo] 41, .row (.slice none 0 0) 46 5 (List.length xs) (List.flatMap recL xs), .blk g2 #[.bool false] 4] (by kernel_rfl) rfl (by kernel_rfl) (by kernel_rfl) (by kernel_rfl) (by kernel_rfl) (by kernel_rfl) (by kernel_rfl) (by kernel_rfl) (by kernel_rfl) ?_
      clear H
      intro v7 H
      refine x_nil ?_
      refine x_then ?_
      exact ⟨g4, (by kernel_rfl), H⟩
    · skip
      clear H
      rintro lrnd pre x c b W1 hI hlen H
      replace H : Hs (fps [.blk b #[.int .i64 x.1, .int .i64 x.2.1, .int .i64 x.2.2.1, .int .i64 x.2.2.2.1, .int .i64 x.2.2.2.2] 29] ++ (fps [.blk g3 #[.int .i64 ((0 : Nat) : Int)] 3, .blk q #[sv] 22, .row (sv) 29 5 (List.length xs) (List.flatMap recL xs), .blk p #[sv, .int .i64 ((room : Nat) : Int), .int .i64 nx, .bool lo] 80, .blk g1 #[.slice none 0 0, .int .i64 rx, .int .i64 nx, .bool lo] 41, .row (.slice none 0 0) 46 5 (List.length xs) (List.flatMap recL xs), .blk g2 #[.bool false] 4])) W1 W1 [.blk b #[.int .i64 x.1, .int .i64 x.2.1, .int .i64 x.2.2.1, .int .i64 x.2.2.2.1, .int .i64 x.2.2.2.2] 29, .blk g3 #[.int .i64 ((c : Nat) : Int)] 3, .blk q #[sv] 22, .row (sv) 29 5 (List.length xs) (List.flatMap recL xs), .blk p #[sv, .int .i64 ((room : Nat) : Int), .int .i64 nx, .bool lo] 80, .blk g1 #[.slice none 0 0, .int .i64 rx, .int .i64 nx, .bool lo] 41, .row (.slice none 0 0) 46 5 (List.length xs) (List.flatMap recL xs), .blk g2 #[.bool false] 4] := H
      have hI' : c = List.length pre := hI
      refine x_block ?_
      refine x_seq ?_
      refine x_seq ?_
      refine x_region_whole (fun w' => Hs (fps [.blk b #[.int .i64 x.1, .int .i64 x.2.1, .int .i64 x.2.2.1, .int .i64 x.2.2.2.1, .int .i64 x.2.2.2.2] 29] ++ (fps [.blk g3 #[.int .i64 ((0 : Nat) : Int)] 3, .blk q #[sv] 22, .row (sv) 29 5 (List.length xs) (List.flatMap recL xs), .blk p #[sv, .int .i64 ((room : Nat) : Int), .int .i64 nx, .bool lo] 80, .blk g1 #[.slice none 0 0, .int .i64 rx, .int .i64 nx, .bool lo] 41, .row (.slice none 0 0) 46 5 (List.length xs) (List.flatMap recL xs), .blk g2 #[.bool false] 4])) W1 w' [.blk b #[.int .i64 x.1, .int .i64 x.2.1, .int .i64 x.2.2.1, .int .i64 x.2.2.2.1, .int .i64 x.2.2.2.2] 29, .blk g3 #[.int .i64 ((c : Nat) : Int)] 3, .blk q #[sv] 22, .row (sv) 29 5 (List.length xs) (List.flatMap recL xs), .blk p #[sv, .int .i64 ((room : Nat) : Int), .int .i64 nx, .bool lo] 80, .blk g1 #[.slice none 0 0, .int .i64 rx, .int .i64 nx, .bool lo] 41, .row (.slice none 0 0) 46 5 (List.length xs) (List.flatMap recL xs), .blk g2 #[.bool false] 4]) (by kernel_rfl) (by kernel_rfl) (by kernel_rfl) H.drew ?_
      refine q_load1 1 g3 0 #[.int .i64 ((c : Nat) : Int)] 3 (.int .i64 ((c : Nat) : Int)) (by kernel_rfl) (by kernel_rfl) (by kernel_rfl) (fun _ => by kernel_rfl) ?_
      refine q_val (.pointer (some ⟨g1, 0, none⟩)) (by kernel_rfl) (fun _ => by kernel_rfl) ?_
      refine q_load1 5 g1 0 #[.slice none 0 0, .int .i64 rx, .int .i64 nx, .bool lo] 41 (.slice none 0 0) (by kernel_rfl) (by kernel_rfl) (by kernel_rfl) (fun _ => by kernel_rfl) ?_
      refine q_val (.int .i64 0) (by kernel_rfl) (fun _ => by kernel_rfl) ?_
      refine q_val (.bool (decide (0 ≤ ((c : Nat) : Int)))) (by kernel_rfl) (fun _ => by kernel_rfl) ?_
      refine q_val (.bool (decide (0 ≤ ((c : Nat) : Int)))) (by kernel_rfl) (fun _ => by kernel_rfl) ?_
      cases h1 : decide (0 ≤ ((c : Nat) : Int))
      · skip
        have h1p := of_decide_eq_false h1
        exact absurd h1p (by omega)
      · skip
        have h1p := of_decide_eq_true h1
        refine q_skip (by kernel_rfl) ?_
        refine q_skip (by kernel_rfl) ?_
        refine q_skip (by kernel_rfl) ?_
        refine q_skip (by kernel_rfl) ?_
        refine q_skip (by kernel_rfl) ?_
        refine q_skip (by kernel_rfl) ?_
        refine q_skip (by kernel_rfl) ?_
        refine q_val (.bool true) (by kernel_rfl) (fun _ => by kernel_rfl) ?_
        refine q_nil ?_
        clear H
        intro v8 H
        refine x_then ?_
        refine x_t (by kernel_rfl) ?_
        refine x_seq ?_
        refine x_region ?_
        refine x_store (t := 4) (v := .bool false) H 7 g2 0 #[.bool false] #[.bool false] 4 [.bool false] [.blk b #[.int .i64 x.1, .int .i64 x.2.1, .int .i64 x.2.2.1, .int .i64 x.2.2.2.1, .int .i64 x.2.2.2.2] 29, .blk g3 #[.int .i64 ((c : Nat) : Int)] 3, .blk q #[sv] 22, .row (sv) 29 5 (List.length xs) (List.flatMap recL xs), .blk p #[sv, .int .i64 ((room : Nat) : Int), .int .i64 nx, .bool lo] 80, .blk g1 #[.slice none 0 0, .int .i64 rx, .int .i64 nx, .bool lo] 41, .row (.slice none 0 0) 46 5 (List.length xs) (List.flatMap recL xs), .blk g2 #[.bool false] 4] (by kernel_rfl) rfl (by kernel_rfl) (by kernel_rfl) (by kernel_rfl) (by kernel_rfl) (by kernel_rfl) (by kernel_rfl) (by kernel_rfl) (by kernel_rfl) ?_
        clear H
        intro v9 H
        refine x_nil ?_
        refine x_then ?_
        refine x_retc ?_
        refine x_then_ret ?_
        refine x_blk_ret ?_
        replace H := H.pick [1, 2, 3, 4, 5, 6, 7] [.blk g3 #[.int .i64 ((c : Nat) : Int)] 3, .blk q #[sv] 22, .row (sv) 29 5 (List.length xs) (List.flatMap recL xs), .blk p #[sv, .int .i64 ((room : Nat) : Int), .int .i64 nx, .bool lo] 80, .blk g1 #[.slice none 0 0, .int .i64 rx, .int .i64 nx, .bool lo] 41, .row (.slice none 0 0) 46 5 (List.length xs) (List.flatMap recL xs), .blk g2 #[.bool false] 4] (by decide) (by kernel_rfl)
        exact ⟨c, ⟨rfl, (fun hp => by have q := prefix_get hp; omega)⟩, H⟩
    · skip
      clear H
      rintro D c W1 hI H
      have hI2 : c = List.length xs := hI
      refine x_blk ?_
      refine x_then ?_
      refine x_seq ?_
      refine x_region_head 25 (fun w' => Hs (fps [.blk p #[sv, .int .i64 ((room : Nat) : Int), .int .i64 nx, .bool lo] 80, .row (sv) 29 5 (List.length xs) (List.flatMap recL xs), .row (.slice none 0 0) 46 5 (List.length xs) (List.flatMap recL xs)]) w0 w' [.obj D ((.deferred (some []))), .blk g3 #[.int .i64 ((c : Nat) : Int)] 3, .blk q #[sv] 22, .row (sv) 29 5 (List.length xs) (List.flatMap recL xs), .blk p #[sv, .int .i64 ((room : Nat) : Int), .int .i64 nx, .bool lo] 80, .blk g1 #[.slice none 0 0, .int .i64 rx, .int .i64 nx, .bool lo] 41, .row (.slice none 0 0) 46 5 (List.length xs) (List.flatMap recL xs), .blk g2 #[.bool false] 4]) (by kernel_rfl) (by kernel_rfl) (by kernel_rfl) H.drew ?_
      simp only [List.take_succ_cons, List.take_zero, List.drop_succ_cons, List.drop_zero]
      refine q_load1 1 g3 0 #[.int .i64 ((c : Nat) : Int)] 3 (.int .i64 ((c : Nat) : Int)) (by kernel_rfl) (by kernel_rfl) (by kernel_rfl) (fun _ => by kernel_rfl) ?_
      refine q_val (.pointer (some ⟨g1, 0, none⟩)) (by kernel_rfl) (fun _ => by kernel_rfl) ?_
      refine q_load1 5 g1 0 #[.slice none 0 0, .int .i64 rx, .int .i64 nx, .bool lo] 41 (.slice none 0 0) (by kernel_rfl) (by kernel_rfl) (by kernel_rfl) (fun _ => by kernel_rfl) ?_
      refine q_val (.int .i64 0) (by kernel_rfl) (fun _ => by kernel_rfl) ?_
      refine q_val (.bool (decide (((c : Nat) : Int) = 0))) (by kernel_rfl) (fun _ => by kernel_rfl) ?_
      refine q_val (.bool (decide (((c : Nat) : Int) = 0))) (by kernel_rfl) (fun _ => by kernel_rfl) ?_
      cases h2 : decide (((c : Nat) : Int) = 0)
      · skip
        have h2p := of_decide_eq_false h2
        exact absurd h2p (by omega)
      · skip
        have h2p := of_decide_eq_true h2
        refine q_val (.pointer (some ⟨p, 0, none⟩)) (by kernel_rfl) (fun _ => by kernel_rfl) ?_
        refine q_callR (.int .i64 (((List.length xs) : Nat) : Int)) (by kernel_rfl) (fun _ => by kernel_rfl) (fun _ H => (Len_of _ (H.roOf [4, 3] [.blk p #[sv, .int .i64 ((room : Nat) : Int), .int .i64 nx, .bool lo] 80, .row (sv) 29 5 (List.length xs) (List.flatMap recL xs)] (by kernel_rfl)))) ?_
        refine q_load1 1 g3 0 #[.int .i64 ((c : Nat) : Int)] 3 (.int .i64 ((c : Nat) : Int)) (by kernel_rfl) (by kernel_rfl) (by kernel_rfl) (fun _ => by kernel_rfl) ?_
        refine q_val (.bool (decide ((((List.length xs) : Nat) : Int) = ((c : Nat) : Int)))) (by kernel_rfl) (fun _ => by kernel_rfl) ?_
        refine q_val (.bool (decide ((((List.length xs) : Nat) : Int) = ((c : Nat) : Int)))) (by kernel_rfl) (fun _ => by kernel_rfl) ?_
        refine q_val (.bool (decide ((((List.length xs) : Nat) : Int) = ((c : Nat) : Int)))) (by kernel_rfl) (fun _ => by kernel_rfl) ?_
        cases h3 : decide ((((List.length xs) : Nat) : Int) = ((c : Nat) : Int))
        · skip
          have h3p := of_decide_eq_false h3
          exact absurd h3p (by omega)
        · skip
          have h3p := of_decide_eq_true h3
          refine q_val (.pointer (some ⟨p, 0, none⟩)) (by kernel_rfl) (fun _ => by kernel_rfl) ?_
          refine q_callR (.int .i64 nx) (by kernel_rfl) (fun _ => by kernel_rfl) (fun _ H => (RNext_of _ (H.roOf [4, 3] [.blk p #[sv, .int .i64 ((room : Nat) : Int), .int .i64 nx, .bool lo] 80, .row (sv) 29 5 (List.length xs) (List.flatMap recL xs)] (by kernel_rfl)))) ?_
          refine q_val (.pointer (some ⟨g1, 2, none⟩)) (by kernel_rfl) (fun _ => by kernel_rfl) ?_
          refine q_load1 5 g1 2 #[.slice none 0 0, .int .i64 rx, .int .i64 nx, .bool lo] 41 (.int .i64 nx) (by kernel_rfl) (by kernel_rfl) (by kernel_rfl) (fun _ => by kernel_rfl) ?_
          refine q_eq (.bool true) (show Value.bool (decide (nx = nx)) = Value.bool true by simp) (by kernel_rfl) (fun _ => by kernel_rfl) ?_
          refine q_val (.bool true) (by kernel_rfl) (fun _ => by kernel_rfl) ?_
          refine q_val (.bool true) (by kernel_rfl) (fun _ => by kernel_rfl) ?_
          refine q_val (.pointer (some ⟨p, 0, none⟩)) (by kernel_rfl) (fun _ => by kernel_rfl) ?_
          refine q_callR (.bool lo) (by kernel_rfl) (fun _ => by kernel_rfl) (fun _ H => (Lost_of _ (H.roOf [4, 3] [.blk p #[sv, .int .i64 ((room : Nat) : Int), .int .i64 nx, .bool lo] 80, .row (sv) 29 5 (List.length xs) (List.flatMap recL xs)] (by kernel_rfl)))) ?_
          refine q_val (.pointer (some ⟨g1, 3, none⟩)) (by kernel_rfl) (fun _ => by kernel_rfl) ?_
          refine q_load1 5 g1 3 #[.slice none 0 0, .int .i64 rx, .int .i64 nx, .bool lo] 41 (.bool lo) (by kernel_rfl) (by kernel_rfl) (by kernel_rfl) (fun _ => by kernel_rfl) ?_
          refine q_eq (.bool true) (show Value.bool (lo == lo) = Value.bool true by simp) (by kernel_rfl) (fun _ => by kernel_rfl) ?_
          refine q_val (.bool true) (by kernel_rfl) (fun _ => by kernel_rfl) ?_
          refine q_nil ?_
          clear H
          intro v10 H
          refine x_store (t := 4) (v := .bool true) H 7 g2 0 #[.bool false] #[.bool true] 4 [.bool true] [.obj D ((.deferred (some []))), .blk g3 #[.int .i64 ((c : Nat) : Int)] 3, .blk q #[sv] 22, .row (sv) 29 5 (List.length xs) (List.flatMap recL xs), .blk p #[sv, .int .i64 ((room : Nat) : Int), .int .i64 nx, .bool lo] 80, .blk g1 #[.slice none 0 0, .int .i64 rx, .int .i64 nx, .bool lo] 41, .row (.slice none 0 0) 46 5 (List.length xs) (List.flatMap recL xs), .blk g2 #[.bool true] 4] (by kernel_rfl) rfl (by kernel_rfl) (by kernel_rfl) (by kernel_rfl) (by kernel_rfl) (by kernel_rfl) (by kernel_rfl) (by kernel_rfl) (by kernel_rfl) ?_
          clear H
          intro v11 H
          refine x_nil ?_
          refine x_then ?_
          refine x_retc ?_
          refine x_retM1 [0, 1, 2, 3, 4, 5, 6, 7] [.blk g3 #[.int .i64 ((c : Nat) : Int)] 3, .blk q #[sv] 22, .row (sv) 29 5 (List.length xs) (List.flatMap recL xs), .blk p #[sv, .int .i64 ((room : Nat) : Int), .int .i64 nx, .bool lo] 80, .blk g1 #[.slice none 0 0, .int .i64 rx, .int .i64 nx, .bool lo] 41, .row (.slice none 0 0) 46 5 (List.length xs) (List.flatMap recL xs), .blk g2 #[.bool true] 4] (.bool true) H (by kernel_rfl) rfl (by decide) (fun _ H => (x_rescell1 H 6 g2 0 #[.bool true] 4 (.bool true) (fun x => x) (by kernel_rfl) (by kernel_rfl) (by kernel_rfl))) ?_
          clear H
          intro v12 H
          replace H := H.pick [3, 2, 5] [.blk p #[sv, .int .i64 ((room : Nat) : Int), .int .i64 nx, .bool lo] 80, .row (sv) 29 5 (List.length xs) (List.flatMap recL xs), .row (.slice none 0 0) 46 5 (List.length xs) (List.flatMap recL xs)] (by decide) (by kernel_rfl)
          exact ⟨rfl, H⟩
    · skip
      clear H
      rintro D c pre c W1 hpre hJ H
      rcases hJ with ⟨rfl, hJ⟩
      · skip
        exact absurd hpre hJ
  · skip
    replace H := H.pick [1, 0, 5, 4, 3, 6, 2] [.blk g3 #[.int .i64 0] 3, .blk q #[sv] 22, .row (sv) 29 5 (List.length xs) (List.flatMap recL xs), .blk p #[sv, .int .i64 ((room : Nat) : Int), .int .i64 nx, .bool lo] 80, .blk g1 #[.slice (some ⟨gw, 0, none⟩) (List.length xs) cw, .int .i64 rx, .int .i64 nx, .bool lo] 41, .row (.slice (some ⟨gw, 0, none⟩) (List.length xs) cw) 46 5 (List.length xs) (List.flatMap recL xs), .blk g2 #[.bool false] 4] (by decide) (by kernel_rfl)
    replace H : Hs (fps [.blk p #[sv, .int .i64 ((room : Nat) : Int), .int .i64 nx, .bool lo] 80, .row (sv) 29 5 (List.length xs) (List.flatMap recL xs), .row (.slice (some ⟨gw, 0, none⟩) (List.length xs) cw) 46 5 (List.length xs) (List.flatMap recL xs)]) w0 _ [.blk g3 #[.int .i64 ((0 : Nat) : Int)] 3, .blk q #[sv] 22, .row (sv) 29 5 (List.length xs) (List.flatMap recL xs), .blk p #[sv, .int .i64 ((room : Nat) : Int), .int .i64 nx, .bool lo] 80, .blk g1 #[.slice (some ⟨gw, 0, none⟩) (List.length xs) cw, .int .i64 rx, .int .i64 nx, .bool lo] 41, .row (.slice (some ⟨gw, 0, none⟩) (List.length xs) cw) 46 5 (List.length xs) (List.flatMap recL xs), .blk g2 #[.bool false] 4] := H
    refine x_rangeB (α := Rec) (G := Nat) xs (fun x => #[.agg #[.int .i64 x.1, .int .i64 x.2.1, .int .i64 x.2.2.1, .int .i64 x.2.2.2.1, .int .i64 x.2.2.2.2]]) [.blk q #[sv] 22, .row (sv) 29 5 (List.length xs) (List.flatMap recL xs)] [1, 2] (fps [.blk g3 #[.int .i64 ((0 : Nat) : Int)] 3, .blk q #[sv] 22, .row (sv) 29 5 (List.length xs) (List.flatMap recL xs), .blk p #[sv, .int .i64 ((room : Nat) : Int), .int .i64 nx, .bool lo] 80, .blk g1 #[.slice (some ⟨gw, 0, none⟩) (List.length xs) cw, .int .i64 rx, .int .i64 nx, .bool lo] 41, .row (.slice (some ⟨gw, 0, none⟩) (List.length xs) cw) 46 5 (List.length xs) (List.flatMap recL xs), .blk g2 #[.bool false] 4]) (fun pre (c : Nat) => c = List.length pre) (fun pre (c : Nat) => [.blk g3 #[.int .i64 ((c : Nat) : Int)] 3, .blk q #[sv] 22, .row (sv) 29 5 (List.length xs) (List.flatMap recL xs), .blk p #[sv, .int .i64 ((room : Nat) : Int), .int .i64 nx, .bool lo] 80, .blk g1 #[.slice (some ⟨gw, 0, none⟩) (List.length xs) cw, .int .i64 rx, .int .i64 nx, .bool lo] 41, .row (.slice (some ⟨gw, 0, none⟩) (List.length xs) cw) 46 5 (List.length xs) (List.flatMap recL xs), .blk g2 #[.bool false] 4]) (fun cd pre (c : Nat) => (cd = .ret ∧ (¬ (pre <+: xs)))) (fun x b => [.blk b #[.int .i64 x.1, .int .i64 x.2.1, .int .i64 x.2.2.1, .int .i64 x.2.2.2.1, .int .i64 x.2.2.2.2] 29]) (fun x b => { tmps := #[.pointer (some ⟨p, 0, none⟩), .agg #[.slice (some ⟨gw, 0, none⟩) (List.length xs) cw, .int .i64 rx, .int .i64 nx, .bool lo], undef, .pointer (some ⟨g1, 0, none⟩), .pointer (some ⟨g2, 0, none⟩), .pointer (some ⟨g3, 0, none⟩), .pointer (some ⟨b, 0, none⟩), .pointer (some ⟨p, 0, none⟩), .func (.func 52) #[] #[.pointer (some ⟨q, 0, none⟩)], .agg #[.int .i64 x.1, .int .i64 x.2.1, .int .i64 x.2.2.1, .int .i64 x.2.2.2.1, .int .i64 x.2.2.2.2], undef, undef, undef, undef, undef, undef, undef, undef, undef, undef, undef, undef, undef, undef, undef, undef, undef, undef, undef, undef, undef, undef, undef, undef, undef, undef, undef, undef, undef, undef, undef, undef, undef, undef, undef, undef, undef, undef, undef, undef, undef], defers := [] }) 0 (by kernel_rfl) (enters_of Try.func52 (by kernel_rfl) rfl) (vals_of (by omega) _ (H.roOf [1, 2] _ (by kernel_rfl))) (fun _ => rfl) rfl (by rintro _ c; rfl) (by rintro _ c; rfl) (by rintro _ c; rfl) (fun _ _ => rfl) (fun _ _ => rfl) H rfl ?_ ?_ ?_ ?_
    · skip
      clear H
      rintro lrnd pre x c W2 hI H
      refine x_at (b := { tmps := #[.pointer (some ⟨p, 0, none⟩), .agg #[.slice (some ⟨gw, 0, none⟩) (List.length xs) cw, .int .i64 rx, .int .i64 nx, .bool lo], undef, .pointer (some ⟨g1, 0, none⟩), .pointer (some ⟨g2, 0, none⟩), .pointer (some ⟨g3, 0, none⟩), undef, .pointer (some ⟨p, 0, none⟩), .func (.func 52) #[] #[.pointer (some ⟨q, 0, none⟩)], .agg #[.int .i64 x.1, .int .i64 x.2.1, .int .i64 x.2.2.1, .int .i64 x.2.2.2.1, .int .i64 x.2.2.2.2], undef, undef, undef, undef, undef, undef, undef, undef, undef, undef, undef, undef, undef, undef, undef, undef, undef, undef, undef, undef, undef, undef, undef, undef, undef, undef, undef, undef, undef, undef, undef, undef, undef, undef, undef, undef, undef, undef, undef, undef, undef], defers := [] }) (by kernel_rfl) ?_
      refine x_region ?_
      refine x_box H #[.int .i64 0, .int .i64 0, .int .i64 0, .int .i64 0, .int .i64 0] 29 (by kernel_rfl) rfl (by kernel_rfl) ?_
      clear H
      intro v13 g5 H
      refine x_store (t := 29) (v := .agg #[.int .i64 x.1, .int .i64 x.2.1, .int .i64 x.2.2.1, .int .i64 x.2.2.2.1, .int .i64 x.2.2.2.2]) H 0 g5 0 #[.int .i64 0, .int .i64 0, .int .i64 0, .int .i64 0, .int .i64 0] #[.int .i64 x.1, .int .i64 x.2.1, .int .i64 x.2.2.1, .int .i64 x.2.2.2.1, .int .i64 x.2.2.2.2] 29 [.int .i64 x.1, .int .i64 x.2.1, .int .i64 x.2.2.1, .int .i64 x.2.2.2.1, .int .i64 x.2.2.2.2] [.blk g5 #[.int .i64 x.1, .int .i64 x.2.1, .int .i64 x.2.2.1, .int .i64 x.2.2.2.1, .int .i64 x.2.2.2.2] 29, .blk g3 #[.int .i64 ((c : Nat) : Int)] 3, .blk q #[sv] 22, .row (sv) 29 5 (List.length xs) (List.flatMap recL xs), .blk p #[sv, .int .i64 ((room : Nat) : Int), .int .i64 nx, .bool lo] 80, .blk g1 #[.slice (some ⟨gw, 0, none⟩) (List.length xs) cw, .int .i64 rx, .int .i64 nx, .bool lo] 41, .row (.slice (some ⟨gw, 0, none⟩) (List.length xs) cw) 46 5 (List.length xs) (List.flatMap recL xs), .blk g2 #[.bool false] 4] (by kernel_rfl) rfl (by kernel_rfl) (by kernel_rfl) (by kernel_rfl) (by kernel_rfl) (by kernel_rfl) (by kernel_rfl) (by kernel_rfl) (by kernel_rfl) ?_
      clear H
      intro v14 H
      refine x_nil ?_
      refine x_then ?_
      exact ⟨g5, (by kernel_rfl), H⟩
    · skip
      clear H
      rintro lrnd pre x c b W2 hI hlen H
      replace H : Hs (fps [.blk b #[.int .i64 x.1, .int .i64 x.2.1, .int .i64 x.2.2.1, .int .i64 x.2.2.2.1, .int .i64 x.2.2.2.2] 29] ++ (fps [.blk g3 #[.int .i64 ((0 : Nat) : Int)] 3, .blk q #[sv] 22, .row (sv) 29 5 (List.length xs) (List.flatMap recL xs), .blk p #[sv, .int .i64 ((room : Nat) : Int), .int .i64 nx, .bool lo] 80, .blk g1 #[.slice (some ⟨gw, 0, none⟩) (List.length xs) cw, .int .i64 rx, .int .i64 nx, .bool lo] 41, .row (.slice (some ⟨gw, 0, none⟩) (List.length xs) cw) 46 5 (List.length xs) (List.flatMap recL xs), .blk g2 #[.bool false] 4])) W2 W2 [.blk b #[.int .i64 x.1, .int .i64 x.2.1, .int .i64 x.2.2.1, .int .i64 x.2.2.2.1, .int .i64 x.2.2.2.2] 29, .blk g3 #[.int .i64 ((c : Nat) : Int)] 3, .blk q #[sv] 22, .row (sv) 29 5 (List.length xs) (List.flatMap recL xs), .blk p #[sv, .int .i64 ((room : Nat) : Int), .int .i64 nx, .bool lo] 80, .blk g1 #[.slice (some ⟨gw, 0, none⟩) (List.length xs) cw, .int .i64 rx, .int .i64 nx, .bool lo] 41, .row (.slice (some ⟨gw, 0, none⟩) (List.length xs) cw) 46 5 (List.length xs) (List.flatMap recL xs), .blk g2 #[.bool false] 4] := H
      have hI' : c = List.length pre := hI
      refine x_block ?_
      refine x_seq ?_
      refine x_seq ?_
      refine x_region_whole (fun w' => Hs (fps [.blk b #[.int .i64 x.1, .int .i64 x.2.1, .int .i64 x.2.2.1, .int .i64 x.2.2.2.1, .int .i64 x.2.2.2.2] 29] ++ (fps [.blk g3 #[.int .i64 ((0 : Nat) : Int)] 3, .blk q #[sv] 22, .row (sv) 29 5 (List.length xs) (List.flatMap recL xs), .blk p #[sv, .int .i64 ((room : Nat) : Int), .int .i64 nx, .bool lo] 80, .blk g1 #[.slice (some ⟨gw, 0, none⟩) (List.length xs) cw, .int .i64 rx, .int .i64 nx, .bool lo] 41, .row (.slice (some ⟨gw, 0, none⟩) (List.length xs) cw) 46 5 (List.length xs) (List.flatMap recL xs), .blk g2 #[.bool false] 4])) W2 w' [.blk b #[.int .i64 x.1, .int .i64 x.2.1, .int .i64 x.2.2.1, .int .i64 x.2.2.2.1, .int .i64 x.2.2.2.2] 29, .blk g3 #[.int .i64 ((c : Nat) : Int)] 3, .blk q #[sv] 22, .row (sv) 29 5 (List.length xs) (List.flatMap recL xs), .blk p #[sv, .int .i64 ((room : Nat) : Int), .int .i64 nx, .bool lo] 80, .blk g1 #[.slice (some ⟨gw, 0, none⟩) (List.length xs) cw, .int .i64 rx, .int .i64 nx, .bool lo] 41, .row (.slice (some ⟨gw, 0, none⟩) (List.length xs) cw) 46 5 (List.length xs) (List.flatMap recL xs), .blk g2 #[.bool false] 4]) (by kernel_rfl) (by kernel_rfl) (by kernel_rfl) H.drew ?_
      refine q_load1 1 g3 0 #[.int .i64 ((c : Nat) : Int)] 3 (.int .i64 ((c : Nat) : Int)) (by kernel_rfl) (by kernel_rfl) (by kernel_rfl) (fun _ => by kernel_rfl) ?_
      refine q_val (.pointer (some ⟨g1, 0, none⟩)) (by kernel_rfl) (fun _ => by kernel_rfl) ?_
      refine q_load1 5 g1 0 #[.slice (some ⟨gw, 0, none⟩) (List.length xs) cw, .int .i64 rx, .int .i64 nx, .bool lo] 41 (.slice (some ⟨gw, 0, none⟩) (List.length xs) cw) (by kernel_rfl) (by kernel_rfl) (by kernel_rfl) (fun _ => by kernel_rfl) ?_
      refine q_val (.int .i64 (((List.length xs) : Nat) : Int)) (by kernel_rfl) (fun _ => by kernel_rfl) ?_
      refine q_val (.bool (decide ((((List.length xs) : Nat) : Int) ≤ ((c : Nat) : Int)))) (by kernel_rfl) (fun _ => by kernel_rfl) ?_
      refine q_val (.bool (decide ((((List.length xs) : Nat) : Int) ≤ ((c : Nat) : Int)))) (by kernel_rfl) (fun _ => by kernel_rfl) ?_
      cases h4 : decide ((((List.length xs) : Nat) : Int) ≤ ((c : Nat) : Int))
      · skip
        have h4p := of_decide_eq_false h4
        refine q_loadn (t := 29) 0 b 0 #[.int .i64 x.1, .int .i64 x.2.1, .int .i64 x.2.2.1, .int .i64 x.2.2.2.1, .int .i64 x.2.2.2.2] 29 [.int .i64 x.1, .int .i64 x.2.1, .int .i64 x.2.2.1, .int .i64 x.2.2.2.1, .int .i64 x.2.2.2.2] (by kernel_rfl) (by kernel_rfl) (by kernel_rfl) (by kernel_rfl) (by kernel_rfl) ?_
        refine q_val (.pointer (some ⟨g1, 0, none⟩)) (by kernel_rfl) (fun _ => by kernel_rfl) ?_
        refine q_load1 5 g1 0 #[.slice (some ⟨gw, 0, none⟩) (List.length xs) cw, .int .i64 rx, .int .i64 nx, .bool lo] 41 (.slice (some ⟨gw, 0, none⟩) (List.length xs) cw) (by kernel_rfl) (by kernel_rfl) (by kernel_rfl) (fun _ => by kernel_rfl) ?_
        refine q_load1 1 g3 0 #[.int .i64 ((c : Nat) : Int)] 3 (.int .i64 ((c : Nat) : Int)) (by kernel_rfl) (by kernel_rfl) (by kernel_rfl) (fun _ => by kernel_rfl) ?_
        refine q_ix (t := 39) gw 0 c (List.length xs) cw 46 5 (c * 5) (by omega) (by omega) (by kernel_rfl) (by kernel_rfl) (by kernel_rfl) (fun _ => by kernel_rfl) ?_
        refine q_loadcn (t := 46) gw (c * 5) [.int .i64 ((xs.getD c (0, 0, 0, 0, 0)).1), .int .i64 ((xs.getD c (0, 0, 0, 0, 0)).2.1), .int .i64 ((xs.getD c (0, 0, 0, 0, 0)).2.2.1), .int .i64 ((xs.getD c (0, 0, 0, 0, 0)).2.2.2.1), .int .i64 ((xs.getD c (0, 0, 0, 0, 0)).2.2.2.2)] (fun _ H => H.rowCells 6 rfl (c * 5) (flatAt recLen (0, 0, 0, 0, 0) _ (by omega))) (by kernel_rfl) (by kernel_rfl) (by kernel_rfl) ?_
        refine q_val (.bool (!(decide ((x.1 : Int) = ((xs.getD c (0, 0, 0, 0, 0)).1)) && (decide ((x.2.1 : Int) = ((xs.getD c (0, 0, 0, 0, 0)).2.1)) && (decide ((x.2.2.1 : Int) = ((xs.getD c (0, 0, 0, 0, 0)).2.2.1)) && (decide ((x.2.2.2.1 : Int) = ((xs.getD c (0, 0, 0, 0, 0)).2.2.2.1)) && (decide ((x.2.2.2.2 : Int) = ((xs.getD c (0, 0, 0, 0, 0)).2.2.2.2)) && true))))))) (by kernel_rfl) (fun _ => (run_neS (t := 46) (x := .tmp 16) (y := .tmp 21) (xs := #[.int .i64 x.1, .int .i64 x.2.1, .int .i64 x.2.2.1, .int .i64 x.2.2.2.1, .int .i64 x.2.2.2.2]) (ys := #[.int .i64 ((xs.getD c (0, 0, 0, 0, 0)).1), .int .i64 ((xs.getD c (0, 0, 0, 0, 0)).2.1), .int .i64 ((xs.getD c (0, 0, 0, 0, 0)).2.2.1), .int .i64 ((xs.getD c (0, 0, 0, 0, 0)).2.2.2.1), .int .i64 ((xs.getD c (0, 0, 0, 0, 0)).2.2.2.2)]) (B := decide ((x.1 : Int) = ((xs.getD c (0, 0, 0, 0, 0)).1)) && (decide ((x.2.1 : Int) = ((xs.getD c (0, 0, 0, 0, 0)).2.1)) && (decide ((x.2.2.1 : Int) = ((xs.getD c (0, 0, 0, 0, 0)).2.2.1)) && (decide ((x.2.2.2.1 : Int) = ((xs.getD c (0, 0, 0, 0, 0)).2.2.2.1)) && (decide ((x.2.2.2.2 : Int) = ((xs.getD c (0, 0, 0, 0, 0)).2.2.2.2)) && true))))) (by kernel_rfl) (by kernel_rfl) (by kernel_rfl))) ?_
        refine q_val (.bool (!(decide ((x.1 : Int) = ((xs.getD c (0, 0, 0, 0, 0)).1)) && (decide ((x.2.1 : Int) = ((xs.getD c (0, 0, 0, 0, 0)).2.1)) && (decide ((x.2.2.1 : Int) = ((xs.getD c (0, 0, 0, 0, 0)).2.2.1)) && (decide ((x.2.2.2.1 : Int) = ((xs.getD c (0, 0, 0, 0, 0)).2.2.2.1)) && (decide ((x.2.2.2.2 : Int) = ((xs.getD c (0, 0, 0, 0, 0)).2.2.2.2)) && true))))))) (by kernel_rfl) (fun _ => by kernel_rfl) ?_
        refine q_nil ?_
        clear H
        intro v15 H
        refine x_then ?_
        cases h5 : decide ((x.1 : Int) = ((xs.getD c (0, 0, 0, 0, 0)).1)) && (decide ((x.2.1 : Int) = ((xs.getD c (0, 0, 0, 0, 0)).2.1)) && (decide ((x.2.2.1 : Int) = ((xs.getD c (0, 0, 0, 0, 0)).2.2.1)) && (decide ((x.2.2.2.1 : Int) = ((xs.getD c (0, 0, 0, 0, 0)).2.2.2.1)) && (decide ((x.2.2.2.2 : Int) = ((xs.getD c (0, 0, 0, 0, 0)).2.2.2.2)) && true))))
        · skip
          refine x_t (by kernel_rfl) ?_
          refine x_seq ?_
          refine x_region ?_
          refine x_store (t := 4) (v := .bool false) H 7 g2 0 #[.bool false] #[.bool false] 4 [.bool false] [.blk b #[.int .i64 x.1, .int .i64 x.2.1, .int .i64 x.2.2.1, .int .i64 x.2.2.2.1, .int .i64 x.2.2.2.2] 29, .blk g3 #[.int .i64 ((c : Nat) : Int)] 3, .blk q #[sv] 22, .row (sv) 29 5 (List.length xs) (List.flatMap recL xs), .blk p #[sv, .int .i64 ((room : Nat) : Int), .int .i64 nx, .bool lo] 80, .blk g1 #[.slice (some ⟨gw, 0, none⟩) (List.length xs) cw, .int .i64 rx, .int .i64 nx, .bool lo] 41, .row (.slice (some ⟨gw, 0, none⟩) (List.length xs) cw) 46 5 (List.length xs) (List.flatMap recL xs), .blk g2 #[.bool false] 4] (by kernel_rfl) rfl (by kernel_rfl) (by kernel_rfl) (by kernel_rfl) (by kernel_rfl) (by kernel_rfl) (by kernel_rfl) (by kernel_rfl) (by kernel_rfl) ?_
          clear H
          intro v16 H
          refine x_nil ?_
          refine x_then ?_
          refine x_retc ?_
          refine x_then_ret ?_
          refine x_blk_ret ?_
          replace H := H.pick [1, 2, 3, 4, 5, 6, 7] [.blk g3 #[.int .i64 ((c : Nat) : Int)] 3, .blk q #[sv] 22, .row (sv) 29 5 (List.length xs) (List.flatMap recL xs), .blk p #[sv, .int .i64 ((room : Nat) : Int), .int .i64 nx, .bool lo] 80, .blk g1 #[.slice (some ⟨gw, 0, none⟩) (List.length xs) cw, .int .i64 rx, .int .i64 nx, .bool lo] 41, .row (.slice (some ⟨gw, 0, none⟩) (List.length xs) cw) 46 5 (List.length xs) (List.flatMap recL xs), .blk g2 #[.bool false] 4] (by decide) (by kernel_rfl)
          exact ⟨c, ⟨rfl, (fun hp => by have q := prefix_get hp; rw [hI', q.1] at h5; simp at h5)⟩, H⟩
        · skip
          refine x_f (by kernel_rfl) ?_
          refine x_skipc ?_
          refine x_then ?_
          refine x_region ?_
          refine x_load1 H 1 g3 0 #[.int .i64 ((c : Nat) : Int)] 3 (.int .i64 ((c : Nat) : Int)) (by kernel_rfl) (by kernel_rfl) (by kernel_rfl) rfl (by kernel_rfl) ?_
          refine x_ar (((c : Nat) : Int) + 1) ⟨by omega, by omega⟩ (by kernel_rfl) rfl (by kernel_rfl) ?_
          refine x_store (t := 3) (v := .int .i64 (((c : Nat) : Int) + 1)) H 1 g3 0 #[.int .i64 ((c : Nat) : Int)] #[.int .i64 (((c : Nat) : Int) + 1)] 3 [.int .i64 (((c : Nat) : Int) + 1)] [.blk b #[.int .i64 x.1, .int .i64 x.2.1, .int .i64 x.2.2.1, .int .i64 x.2.2.2.1, .int .i64 x.2.2.2.2] 29, .blk g3 #[.int .i64 (((c : Nat) : Int) + 1)] 3, .blk q #[sv] 22, .row (sv) 29 5 (List.length xs) (List.flatMap recL xs), .blk p #[sv, .int .i64 ((room : Nat) : Int), .int .i64 nx, .bool lo] 80, .blk g1 #[.slice (some ⟨gw, 0, none⟩) (List.length xs) cw, .int .i64 rx, .int .i64 nx, .bool lo] 41, .row (.slice (some ⟨gw, 0, none⟩) (List.length xs) cw) 46 5 (List.length xs) (List.flatMap recL xs), .blk g2 #[.bool false] 4] (by kernel_rfl) rfl (by kernel_rfl) (by kernel_rfl) (by kernel_rfl) (by kernel_rfl) (by kernel_rfl) (by kernel_rfl) (by kernel_rfl) (by kernel_rfl) ?_
          clear H
          intro v17 H
          refine x_nil ?_
          refine x_blk ?_
          replace H := H.pick [1, 2, 3, 4, 5, 6, 7] [.blk g3 #[.int .i64 (((c : Nat) : Int) + 1)] 3, .blk q #[sv] 22, .row (sv) 29 5 (List.length xs) (List.flatMap recL xs), .blk p #[sv, .int .i64 ((room : Nat) : Int), .int .i64 nx, .bool lo] 80, .blk g1 #[.slice (some ⟨gw, 0, none⟩) (List.length xs) cw, .int .i64 rx, .int .i64 nx, .bool lo] 41, .row (.slice (some ⟨gw, 0, none⟩) (List.length xs) cw) 46 5 (List.length xs) (List.flatMap recL xs), .blk g2 #[.bool false] 4] (by decide) (by kernel_rfl)
          exact ⟨(c + 1), (by show _ = List.length (pre ++ [x]); simp; exact hI), H⟩
      · skip
        have h4p := of_decide_eq_true h4
        refine q_skip (by kernel_rfl) ?_
        refine q_skip (by kernel_rfl) ?_
        refine q_skip (by kernel_rfl) ?_
        refine q_skip (by kernel_rfl) ?_
        refine q_skip (by kernel_rfl) ?_
        refine q_skip (by kernel_rfl) ?_
        refine q_skip (by kernel_rfl) ?_
        refine q_val (.bool true) (by kernel_rfl) (fun _ => by kernel_rfl) ?_
        refine q_nil ?_
        clear H
        intro v18 H
        refine x_then ?_
        refine x_t (by kernel_rfl) ?_
        refine x_seq ?_
        refine x_region ?_
        refine x_store (t := 4) (v := .bool false) H 7 g2 0 #[.bool false] #[.bool false] 4 [.bool false] [.blk b #[.int .i64 x.1, .int .i64 x.2.1, .int .i64 x.2.2.1, .int .i64 x.2.2.2.1, .int .i64 x.2.2.2.2] 29, .blk g3 #[.int .i64 ((c : Nat) : Int)] 3, .blk q #[sv] 22, .row (sv) 29 5 (List.length xs) (List.flatMap recL xs), .blk p #[sv, .int .i64 ((room : Nat) : Int), .int .i64 nx, .bool lo] 80, .blk g1 #[.slice (some ⟨gw, 0, none⟩) (List.length xs) cw, .int .i64 rx, .int .i64 nx, .bool lo] 41, .row (.slice (some ⟨gw, 0, none⟩) (List.length xs) cw) 46 5 (List.length xs) (List.flatMap recL xs), .blk g2 #[.bool false] 4] (by kernel_rfl) rfl (by kernel_rfl) (by kernel_rfl) (by kernel_rfl) (by kernel_rfl) (by kernel_rfl) (by kernel_rfl) (by kernel_rfl) (by kernel_rfl) ?_
        clear H
        intro v19 H
        refine x_nil ?_
        refine x_then ?_
        refine x_retc ?_
        refine x_then_ret ?_
        refine x_blk_ret ?_
        replace H := H.pick [1, 2, 3, 4, 5, 6, 7] [.blk g3 #[.int .i64 ((c : Nat) : Int)] 3, .blk q #[sv] 22, .row (sv) 29 5 (List.length xs) (List.flatMap recL xs), .blk p #[sv, .int .i64 ((room : Nat) : Int), .int .i64 nx, .bool lo] 80, .blk g1 #[.slice (some ⟨gw, 0, none⟩) (List.length xs) cw, .int .i64 rx, .int .i64 nx, .bool lo] 41, .row (.slice (some ⟨gw, 0, none⟩) (List.length xs) cw) 46 5 (List.length xs) (List.flatMap recL xs), .blk g2 #[.bool false] 4] (by decide) (by kernel_rfl)
        exact ⟨c, ⟨rfl, (fun hp => by have q := prefix_get hp; omega)⟩, H⟩
    · skip
      clear H
      rintro D c W2 hI H
      have hI2 : c = List.length xs := hI
      refine x_blk ?_
      refine x_then ?_
      refine x_seq ?_
      refine x_region_head 25 (fun w' => Hs (fps [.blk p #[sv, .int .i64 ((room : Nat) : Int), .int .i64 nx, .bool lo] 80, .row (sv) 29 5 (List.length xs) (List.flatMap recL xs), .row (.slice (some ⟨gw, 0, none⟩) (List.length xs) cw) 46 5 (List.length xs) (List.flatMap recL xs)]) w0 w' [.obj D ((.deferred (some []))), .blk g3 #[.int .i64 ((c : Nat) : Int)] 3, .blk q #[sv] 22, .row (sv) 29 5 (List.length xs) (List.flatMap recL xs), .blk p #[sv, .int .i64 ((room : Nat) : Int), .int .i64 nx, .bool lo] 80, .blk g1 #[.slice (some ⟨gw, 0, none⟩) (List.length xs) cw, .int .i64 rx, .int .i64 nx, .bool lo] 41, .row (.slice (some ⟨gw, 0, none⟩) (List.length xs) cw) 46 5 (List.length xs) (List.flatMap recL xs), .blk g2 #[.bool false] 4]) (by kernel_rfl) (by kernel_rfl) (by kernel_rfl) H.drew ?_
      simp only [List.take_succ_cons, List.take_zero, List.drop_succ_cons, List.drop_zero]
      refine q_load1 1 g3 0 #[.int .i64 ((c : Nat) : Int)] 3 (.int .i64 ((c : Nat) : Int)) (by kernel_rfl) (by kernel_rfl) (by kernel_rfl) (fun _ => by kernel_rfl) ?_
      refine q_val (.pointer (some ⟨g1, 0, none⟩)) (by kernel_rfl) (fun _ => by kernel_rfl) ?_
      refine q_load1 5 g1 0 #[.slice (some ⟨gw, 0, none⟩) (List.length xs) cw, .int .i64 rx, .int .i64 nx, .bool lo] 41 (.slice (some ⟨gw, 0, none⟩) (List.length xs) cw) (by kernel_rfl) (by kernel_rfl) (by kernel_rfl) (fun _ => by kernel_rfl) ?_
      refine q_val (.int .i64 (((List.length xs) : Nat) : Int)) (by kernel_rfl) (fun _ => by kernel_rfl) ?_
      refine q_val (.bool (decide (((c : Nat) : Int) = (((List.length xs) : Nat) : Int)))) (by kernel_rfl) (fun _ => by kernel_rfl) ?_
      refine q_val (.bool (decide (((c : Nat) : Int) = (((List.length xs) : Nat) : Int)))) (by kernel_rfl) (fun _ => by kernel_rfl) ?_
      cases h6 : decide (((c : Nat) : Int) = (((List.length xs) : Nat) : Int))
      · skip
        have h6p := of_decide_eq_false h6
        exact absurd h6p (by omega)
      · skip
        have h6p := of_decide_eq_true h6
        refine q_val (.pointer (some ⟨p, 0, none⟩)) (by kernel_rfl) (fun _ => by kernel_rfl) ?_
        refine q_callR (.int .i64 (((List.length xs) : Nat) : Int)) (by kernel_rfl) (fun _ => by kernel_rfl) (fun _ H => (Len_of _ (H.roOf [4, 3] [.blk p #[sv, .int .i64 ((room : Nat) : Int), .int .i64 nx, .bool lo] 80, .row (sv) 29 5 (List.length xs) (List.flatMap recL xs)] (by kernel_rfl)))) ?_
        refine q_load1 1 g3 0 #[.int .i64 ((c : Nat) : Int)] 3 (.int .i64 ((c : Nat) : Int)) (by kernel_rfl) (by kernel_rfl) (by kernel_rfl) (fun _ => by kernel_rfl) ?_
        refine q_val (.bool (decide ((((List.length xs) : Nat) : Int) = ((c : Nat) : Int)))) (by kernel_rfl) (fun _ => by kernel_rfl) ?_
        refine q_val (.bool (decide ((((List.length xs) : Nat) : Int) = ((c : Nat) : Int)))) (by kernel_rfl) (fun _ => by kernel_rfl) ?_
        refine q_val (.bool (decide ((((List.length xs) : Nat) : Int) = ((c : Nat) : Int)))) (by kernel_rfl) (fun _ => by kernel_rfl) ?_
        cases h7 : decide ((((List.length xs) : Nat) : Int) = ((c : Nat) : Int))
        · skip
          have h7p := of_decide_eq_false h7
          exact absurd h7p (by omega)
        · skip
          have h7p := of_decide_eq_true h7
          refine q_val (.pointer (some ⟨p, 0, none⟩)) (by kernel_rfl) (fun _ => by kernel_rfl) ?_
          refine q_callR (.int .i64 nx) (by kernel_rfl) (fun _ => by kernel_rfl) (fun _ H => (RNext_of _ (H.roOf [4, 3] [.blk p #[sv, .int .i64 ((room : Nat) : Int), .int .i64 nx, .bool lo] 80, .row (sv) 29 5 (List.length xs) (List.flatMap recL xs)] (by kernel_rfl)))) ?_
          refine q_val (.pointer (some ⟨g1, 2, none⟩)) (by kernel_rfl) (fun _ => by kernel_rfl) ?_
          refine q_load1 5 g1 2 #[.slice (some ⟨gw, 0, none⟩) (List.length xs) cw, .int .i64 rx, .int .i64 nx, .bool lo] 41 (.int .i64 nx) (by kernel_rfl) (by kernel_rfl) (by kernel_rfl) (fun _ => by kernel_rfl) ?_
          refine q_eq (.bool true) (show Value.bool (decide (nx = nx)) = Value.bool true by simp) (by kernel_rfl) (fun _ => by kernel_rfl) ?_
          refine q_val (.bool true) (by kernel_rfl) (fun _ => by kernel_rfl) ?_
          refine q_val (.bool true) (by kernel_rfl) (fun _ => by kernel_rfl) ?_
          refine q_val (.pointer (some ⟨p, 0, none⟩)) (by kernel_rfl) (fun _ => by kernel_rfl) ?_
          refine q_callR (.bool lo) (by kernel_rfl) (fun _ => by kernel_rfl) (fun _ H => (Lost_of _ (H.roOf [4, 3] [.blk p #[sv, .int .i64 ((room : Nat) : Int), .int .i64 nx, .bool lo] 80, .row (sv) 29 5 (List.length xs) (List.flatMap recL xs)] (by kernel_rfl)))) ?_
          refine q_val (.pointer (some ⟨g1, 3, none⟩)) (by kernel_rfl) (fun _ => by kernel_rfl) ?_
          refine q_load1 5 g1 3 #[.slice (some ⟨gw, 0, none⟩) (List.length xs) cw, .int .i64 rx, .int .i64 nx, .bool lo] 41 (.bool lo) (by kernel_rfl) (by kernel_rfl) (by kernel_rfl) (fun _ => by kernel_rfl) ?_
          refine q_eq (.bool true) (show Value.bool (lo == lo) = Value.bool true by simp) (by kernel_rfl) (fun _ => by kernel_rfl) ?_
          refine q_val (.bool true) (by kernel_rfl) (fun _ => by kernel_rfl) ?_
          refine q_nil ?_
          clear H
          intro v20 H
          refine x_store (t := 4) (v := .bool true) H 7 g2 0 #[.bool false] #[.bool true] 4 [.bool true] [.obj D ((.deferred (some []))), .blk g3 #[.int .i64 ((c : Nat) : Int)] 3, .blk q #[sv] 22, .row (sv) 29 5 (List.length xs) (List.flatMap recL xs), .blk p #[sv, .int .i64 ((room : Nat) : Int), .int .i64 nx, .bool lo] 80, .blk g1 #[.slice (some ⟨gw, 0, none⟩) (List.length xs) cw, .int .i64 rx, .int .i64 nx, .bool lo] 41, .row (.slice (some ⟨gw, 0, none⟩) (List.length xs) cw) 46 5 (List.length xs) (List.flatMap recL xs), .blk g2 #[.bool true] 4] (by kernel_rfl) rfl (by kernel_rfl) (by kernel_rfl) (by kernel_rfl) (by kernel_rfl) (by kernel_rfl) (by kernel_rfl) (by kernel_rfl) (by kernel_rfl) ?_
          clear H
          intro v21 H
          refine x_nil ?_
          refine x_then ?_
          refine x_retc ?_
          refine x_retM1 [0, 1, 2, 3, 4, 5, 6, 7] [.blk g3 #[.int .i64 ((c : Nat) : Int)] 3, .blk q #[sv] 22, .row (sv) 29 5 (List.length xs) (List.flatMap recL xs), .blk p #[sv, .int .i64 ((room : Nat) : Int), .int .i64 nx, .bool lo] 80, .blk g1 #[.slice (some ⟨gw, 0, none⟩) (List.length xs) cw, .int .i64 rx, .int .i64 nx, .bool lo] 41, .row (.slice (some ⟨gw, 0, none⟩) (List.length xs) cw) 46 5 (List.length xs) (List.flatMap recL xs), .blk g2 #[.bool true] 4] (.bool true) H (by kernel_rfl) rfl (by decide) (fun _ H => (x_rescell1 H 6 g2 0 #[.bool true] 4 (.bool true) (fun x => x) (by kernel_rfl) (by kernel_rfl) (by kernel_rfl))) ?_
          clear H
          intro v22 H
          replace H := H.pick [3, 2, 5] [.blk p #[sv, .int .i64 ((room : Nat) : Int), .int .i64 nx, .bool lo] 80, .row (sv) 29 5 (List.length xs) (List.flatMap recL xs), .row (.slice (some ⟨gw, 0, none⟩) (List.length xs) cw) 46 5 (List.length xs) (List.flatMap recL xs)] (by decide) (by kernel_rfl)
          exact ⟨rfl, H⟩
    · skip
      clear H
      rintro D c pre c W2 hpre hJ H
      rcases hJ with ⟨rfl, hJ⟩
      · skip
        exact absurd hpre hJ
end Go.Proofs.Ytpeefnbcgilihaa
