/- A step of a table and of the document's list. -/
import Derived.Test.YtpeefnbcgilihaaTabF
namespace Go.Proofs.Ytpeefnbcgilihaa
open Go Go.RowKit
set_option linter.unusedVariables false
set_option linter.unusedSimpArgs false

/-- What a step makes of a list. -/
def stepI (room : Nat) (xs : List PairI) (o k v : Int) : List PairI :=
  if o = 1 then (putI room xs k v).1 else if o = 2 then dropI xs k else if o = 3 then xorI v xs else xs

set_option maxRecDepth 100000 in
set_option maxHeartbeats 4000000 in
theorem steps_put {t : Nat} {sv : Value} {xs : List PairI} {room : Nat} (o k v : Int) (hn : xs.length ≤ room) (h1 : 1 ≤ room) (h2 : room ≤ 4096) {lv : Value}  (k1 : decide (o = 1) = true) (w0 : World) (H0 : Hs (fps [.blk t #[sv, .int .i64 ((room : Nat) : Int), .func (.func 26) #[] #[]] 90, .row (sv) 92 2 (List.length xs) (List.flatMap pairLI xs), .row (lv) 77 2 (List.length xs) (List.flatMap pairLI xs)]) w0 w0 [.blk t #[sv, .int .i64 ((room : Nat) : Int), .func (.func 26) #[] #[]] 90, .row (sv) 92 2 (List.length xs) (List.flatMap pairLI xs), .row (lv) 77 2 (List.length xs) (List.flatMap pairLI xs)]) :
    Calls Try.prog 31 #[.pointer (some ⟨t, 0, none⟩), lv, .int .i64 ((room : Nat) : Int), .agg #[.int .i64 o, .int .i64 k, .int .i64 v]] w0 fun e w' => ∃ sv' u, e = .returned (.tuple #[u, .bool true]) ∧ Hs (fps [.blk t #[sv, .int .i64 ((room : Nat) : Int), .func (.func 26) #[] #[]] 90, .row (sv) 92 2 (List.length xs) (List.flatMap pairLI xs), .row (lv) 77 2 (List.length xs) (List.flatMap pairLI xs)]) w0 w' [.blk t #[sv', .int .i64 ((room : Nat) : Int), .func (.func 26) #[] #[]] 90, .row (sv') 92 2 (List.length ((putI room xs k v).1)) (List.flatMap pairLI ((putI room xs k v).1)), .row (u) 77 2 (List.length ((putI room xs k v).1)) (List.flatMap pairLI ((putI room xs k v).1))] := by
  refine x_enter Try.func31 rfl #[.pointer (some ⟨t, 0, none⟩), lv, .int .i64 ((room : Nat) : Int), .agg #[.int .i64 o, .int .i64 k, .int .i64 v], undef, undef, undef, undef, undef, undef, undef, undef, undef, undef, undef, undef, undef, undef, undef, undef, undef, undef, undef, undef, undef, undef, undef, undef, undef, undef, undef, undef, undef, undef, undef, undef, undef, undef, undef, undef, undef, undef, undef, undef, undef, undef, undef, undef, undef, undef, undef, undef, undef, undef, undef, undef, undef, undef, undef, undef, undef, undef, undef, undef, undef, undef, undef, undef, undef, undef, undef, undef, undef, undef, undef, undef, undef, undef, undef, undef, undef, undef, undef, undef, undef, undef, undef, undef, undef, undef, undef, undef, undef, undef, undef, undef, undef, undef] (by kernel_rfl) ?_
  have H := H0
  refine x_seq ?_
  refine x_region ?_
  refine x_box H #[.int .i64 o, .int .i64 k, .int .i64 v] 69 (by kernel_rfl) rfl (by kernel_rfl) ?_
  clear H
  intro v1 g1 H
  refine x_val (.slice none 0 0) (by kernel_rfl) rfl (by kernel_rfl) ?_
  refine x_val (.bool false) (by kernel_rfl) rfl (by kernel_rfl) ?_
  refine x_nil ?_
  refine x_then ?_
  refine x_seq ?_
  refine x_seq ?_
  refine x_region ?_
  refine x_val (.pointer (some ⟨g1, 0, none⟩)) (by kernel_rfl) rfl (by kernel_rfl) ?_
  refine x_load1 H 0 g1 0 #[.int .i64 o, .int .i64 k, .int .i64 v] 69 (.int .i64 o) (by kernel_rfl) (by kernel_rfl) (by kernel_rfl) rfl (by kernel_rfl) ?_
  refine x_nil ?_
  refine x_then ?_
  refine x_block ?_
  refine x_seq ?_
  refine x_region ?_
  refine x_val (.bool (decide (o = 1))) (by kernel_rfl) rfl (by kernel_rfl) ?_
  refine x_val (.bool (decide (o = 1))) (by kernel_rfl) rfl (by kernel_rfl) ?_
  refine x_nil ?_
  refine x_then ?_
  rw [k1]
  refine x_t (by kernel_rfl) ?_
  refine x_seq ?_
  refine x_region ?_
  refine x_val (.pointer (some ⟨t, 0, none⟩)) (by kernel_rfl) rfl (by kernel_rfl) ?_
  refine x_val (.pointer (some ⟨g1, 1, none⟩)) (by kernel_rfl) rfl (by kernel_rfl) ?_
  refine x_load1 H 0 g1 1 #[.int .i64 o, .int .i64 k, .int .i64 v] 69 (.int .i64 k) (by kernel_rfl) (by kernel_rfl) (by kernel_rfl) rfl (by kernel_rfl) ?_
  refine x_val (.pointer (some ⟨g1, 2, none⟩)) (by kernel_rfl) rfl (by kernel_rfl) ?_
  refine x_load1 H 0 g1 2 #[.int .i64 o, .int .i64 k, .int .i64 v] 69 (.int .i64 v) (by kernel_rfl) (by kernel_rfl) (by kernel_rfl) rfl (by kernel_rfl) ?_
  refine x_call (by kernel_rfl) rfl (by kernel_rfl) (Hs.useE (A := [.blk t #[sv, .int .i64 ((room : Nat) : Int), .func (.func 26) #[] #[]] 90, .row (sv) 92 2 (List.length xs) (List.flatMap pairLI xs)]) (R := [.blk g1 #[.int .i64 o, .int .i64 k, .int .i64 v] 69, .row (lv) 77 2 (List.length xs) (List.flatMap pairLI xs)]) (fun svp => [.blk t #[svp, .int .i64 ((room : Nat) : Int), .func (.func 26) #[] #[]] 90, .row (svp) 92 2 (List.length ((putI room xs k v).1)) (List.flatMap pairLI ((putI room xs k v).1))]) (fun _ => .tuple #[.int .i64 ((putI room xs k v).2.1), .bool ((putI room xs k v).2.2)]) (H.pick [1, 2, 0, 3] _ (by decide) (by kernel_rfl)) (fun h => Put_I k v (by omega) (by omega) (by omega) _ h)) ?_
  rintro _ v2 ⟨svp, rfl, H'⟩
  refine ⟨_, rfl, ?_⟩
  clear H
  have H : Hs (fps [.blk t #[sv, .int .i64 ((room : Nat) : Int), .func (.func 26) #[] #[]] 90, .row (sv) 92 2 (List.length xs) (List.flatMap pairLI xs), .row (lv) 77 2 (List.length xs) (List.flatMap pairLI xs)]) w0 _ [.blk t #[svp, .int .i64 ((room : Nat) : Int), .func (.func 26) #[] #[]] 90, .row (svp) 92 2 (List.length ((putI room xs k v).1)) (List.flatMap pairLI ((putI room xs k v).1)), .blk g1 #[.int .i64 o, .int .i64 k, .int .i64 v] 69, .row (lv) 77 2 (List.length xs) (List.flatMap pairLI xs)] := H'
  clear H'
  refine x_val (.tuple #[.int .i64 ((putI room xs k v).2.1), .bool ((putI room xs k v).2.2)]) (by kernel_rfl) rfl (by kernel_rfl) ?_
  refine x_val (.int .i64 ((putI room xs k v).2.1)) (by kernel_rfl) rfl (by kernel_rfl) ?_
  refine x_val (.bool ((putI room xs k v).2.2)) (by kernel_rfl) rfl (by kernel_rfl) ?_
  refine x_val (.int .i64 ((putI room xs k v).2.1)) (by kernel_rfl) rfl (by kernel_rfl) ?_
  refine x_val (.bool ((putI room xs k v).2.2)) (by kernel_rfl) rfl (by kernel_rfl) ?_
  refine x_nil ?_
  refine x_then ?_
  refine x_seq ?_
  refine x_region ?_
  refine x_val (lv) (by kernel_rfl) rfl (by kernel_rfl) ?_
  refine x_val (.int .i64 ((room : Nat) : Int)) (by kernel_rfl) rfl (by kernel_rfl) ?_
  refine x_val (.pointer (some ⟨g1, 1, none⟩)) (by kernel_rfl) rfl (by kernel_rfl) ?_
  refine x_load1 H 2 g1 1 #[.int .i64 o, .int .i64 k, .int .i64 v] 69 (.int .i64 k) (by kernel_rfl) (by kernel_rfl) (by kernel_rfl) rfl (by kernel_rfl) ?_
  refine x_val (.pointer (some ⟨g1, 2, none⟩)) (by kernel_rfl) rfl (by kernel_rfl) ?_
  refine x_load1 H 2 g1 2 #[.int .i64 o, .int .i64 k, .int .i64 v] 69 (.int .i64 v) (by kernel_rfl) (by kernel_rfl) (by kernel_rfl) rfl (by kernel_rfl) ?_
  refine x_call (by kernel_rfl) rfl (by kernel_rfl) (RPut xs room k v (by omega) (by omega) _ (H.roOf [3] [.row (lv) 77 2 (List.length xs) (List.flatMap pairLI xs)] (by kernel_rfl))) ?_
  rintro _ v3 ⟨u, rfl, hN'⟩
  refine ⟨_, rfl, ?_⟩
  replace H := H.more hN'
  clear hN'
  replace H : Hs (fps [.blk t #[sv, .int .i64 ((room : Nat) : Int), .func (.func 26) #[] #[]] 90, .row (sv) 92 2 (List.length xs) (List.flatMap pairLI xs), .row (lv) 77 2 (List.length xs) (List.flatMap pairLI xs)]) w0 _ [.row (u) 77 2 (List.length ((putI room xs k v).1)) (List.flatMap pairLI ((putI room xs k v).1)), .blk t #[svp, .int .i64 ((room : Nat) : Int), .func (.func 26) #[] #[]] 90, .row (svp) 92 2 (List.length ((putI room xs k v).1)) (List.flatMap pairLI ((putI room xs k v).1)), .blk g1 #[.int .i64 o, .int .i64 k, .int .i64 v] 69, .row (lv) 77 2 (List.length xs) (List.flatMap pairLI xs)] := H
  refine x_val (.tuple #[u, .int .i64 ((putI room xs k v).2.1), .bool ((putI room xs k v).2.2)]) (by kernel_rfl) rfl (by kernel_rfl) ?_
  refine x_val (u) (by kernel_rfl) rfl (by kernel_rfl) ?_
  refine x_val (.int .i64 ((putI room xs k v).2.1)) (by kernel_rfl) rfl (by kernel_rfl) ?_
  refine x_val (.bool ((putI room xs k v).2.2)) (by kernel_rfl) rfl (by kernel_rfl) ?_
  refine x_val (u) (by kernel_rfl) rfl (by kernel_rfl) ?_
  refine x_val (.int .i64 ((putI room xs k v).2.1)) (by kernel_rfl) rfl (by kernel_rfl) ?_
  refine x_val (.bool ((putI room xs k v).2.2)) (by kernel_rfl) rfl (by kernel_rfl) ?_
  refine x_nil ?_
  refine x_frame' { tmps := #[.pointer (some ⟨t, 0, none⟩), lv, .int .i64 ((room : Nat) : Int), .agg #[.int .i64 o, .int .i64 k, .int .i64 v], undef, undef, undef, .pointer (some ⟨g1, 0, none⟩), .slice none 0 0, .bool false, .int .i64 ((putI room xs k v).2.1), .bool ((putI room xs k v).2.2), u, .int .i64 ((putI room xs k v).2.1), .bool ((putI room xs k v).2.2), undef, undef, undef, undef, .pointer (some ⟨g1, 0, none⟩), .int .i64 o, .bool true, .bool true, .tuple #[.int .i64 ((putI room xs k v).2.1), .bool ((putI room xs k v).2.2)], .pointer (some ⟨t, 0, none⟩), .pointer (some ⟨g1, 1, none⟩), .int .i64 k, .pointer (some ⟨g1, 2, none⟩), .int .i64 v, .tuple #[.int .i64 ((putI room xs k v).2.1), .bool ((putI room xs k v).2.2)], .int .i64 ((putI room xs k v).2.1), .bool ((putI room xs k v).2.2), .tuple #[u, .int .i64 ((putI room xs k v).2.1), .bool ((putI room xs k v).2.2)], lv, .int .i64 ((room : Nat) : Int), .pointer (some ⟨g1, 1, none⟩), .int .i64 k, .pointer (some ⟨g1, 2, none⟩), .int .i64 v, .tuple #[u, .int .i64 ((putI room xs k v).2.1), .bool ((putI room xs k v).2.2)], u, .int .i64 ((putI room xs k v).2.1), .bool ((putI room xs k v).2.2), undef, undef, undef, undef, undef, undef, undef, undef, undef, undef, undef, undef, undef, undef, undef, undef, undef, undef, undef, undef, undef, undef, undef, undef, undef, undef, undef, undef, undef, undef, undef, undef, undef, undef, undef, undef, undef, undef, undef, undef, undef, undef, undef, undef, undef, undef, undef, undef, undef, undef, undef, undef, undef, undef, undef], defers := [] } (by kernel_rfl) ?_
  refine x_then ?_
  refine x_seq ?_
  refine x_region ?_
  refine x_val (u) (by kernel_rfl) rfl (by kernel_rfl) ?_
  refine x_val (.int .i64 ((putI room xs k v).2.1)) (by kernel_rfl) rfl (by kernel_rfl) ?_
  refine x_val (.int .i64 ((putI room xs k v).2.1)) (by kernel_rfl) rfl (by kernel_rfl) ?_
  refine x_eq (.bool true) (show Value.bool (decide (((putI room xs k v).2.1) = ((putI room xs k v).2.1))) = Value.bool true by simp) (by kernel_rfl) rfl (by kernel_rfl) ?_
  refine x_val (.bool true) (by kernel_rfl) rfl (by kernel_rfl) ?_
  refine x_val (.bool ((putI room xs k v).2.2)) (by kernel_rfl) rfl (by kernel_rfl) ?_
  refine x_val (.bool ((putI room xs k v).2.2)) (by kernel_rfl) rfl (by kernel_rfl) ?_
  refine x_eq (.bool true) (show Value.bool (((putI room xs k v).2.2) == ((putI room xs k v).2.2)) = Value.bool true by simp) (by kernel_rfl) rfl (by kernel_rfl) ?_
  refine x_val (.bool true) (by kernel_rfl) rfl (by kernel_rfl) ?_
  refine x_val (u) (by kernel_rfl) rfl (by kernel_rfl) ?_
  refine x_val (.bool true) (by kernel_rfl) rfl (by kernel_rfl) ?_
  refine x_nil ?_
  refine x_then ?_
  refine x_retc ?_
  refine x_blk_ret ?_
  refine x_then_ret ?_
  refine x_ret (.tuple #[u, .bool true]) (by kernel_rfl) (by kernel_rfl) ?_
  replace H := H.pick [1, 2, 0] [.blk t #[svp, .int .i64 ((room : Nat) : Int), .func (.func 26) #[] #[]] 90, .row (svp) 92 2 (List.length ((putI room xs k v).1)) (List.flatMap pairLI ((putI room xs k v).1)), .row (u) 77 2 (List.length ((putI room xs k v).1)) (List.flatMap pairLI ((putI room xs k v).1))] (by decide) (by kernel_rfl)
  exact ⟨_, _, rfl, H⟩

set_option maxRecDepth 100000 in
set_option maxHeartbeats 4000000 in
theorem steps_has {t : Nat} {sv : Value} {xs : List PairI} {room : Nat} (o k v : Int) (hn : xs.length ≤ room) (h1 : 1 ≤ room) (h2 : room ≤ 4096) {lv : Value} (hq : decide (fkI xs k < List.length xs) = true) (k1 : decide (o = 1) = false) (k2 : decide (o = 2) = true) (w0 : World) (H0 : Hs (fps [.blk t #[sv, .int .i64 ((room : Nat) : Int), .func (.func 26) #[] #[]] 90, .row (sv) 92 2 (List.length xs) (List.flatMap pairLI xs), .row (lv) 77 2 (List.length xs) (List.flatMap pairLI xs)]) w0 w0 [.blk t #[sv, .int .i64 ((room : Nat) : Int), .func (.func 26) #[] #[]] 90, .row (sv) 92 2 (List.length xs) (List.flatMap pairLI xs), .row (lv) 77 2 (List.length xs) (List.flatMap pairLI xs)]) :
    Calls Try.prog 31 #[.pointer (some ⟨t, 0, none⟩), lv, .int .i64 ((room : Nat) : Int), .agg #[.int .i64 o, .int .i64 k, .int .i64 v]] w0 fun e w' => ∃ sv' u, e = .returned (.tuple #[u, .bool true]) ∧ Hs (fps [.blk t #[sv, .int .i64 ((room : Nat) : Int), .func (.func 26) #[] #[]] 90, .row (sv) 92 2 (List.length xs) (List.flatMap pairLI xs), .row (lv) 77 2 (List.length xs) (List.flatMap pairLI xs)]) w0 w' [.blk t #[sv', .int .i64 ((room : Nat) : Int), .func (.func 26) #[] #[]] 90, .row (sv') 92 2 (List.length (xs.eraseIdx (fkI xs k))) (List.flatMap pairLI (xs.eraseIdx (fkI xs k))), .row (u) 77 2 (List.length (xs.eraseIdx (fkI xs k))) (List.flatMap pairLI (xs.eraseIdx (fkI xs k)))] := by
  refine x_enter Try.func31 rfl #[.pointer (some ⟨t, 0, none⟩), lv, .int .i64 ((room : Nat) : Int), .agg #[.int .i64 o, .int .i64 k, .int .i64 v], undef, undef, undef, undef, undef, undef, undef, undef, undef, undef, undef, undef, undef, undef, undef, undef, undef, undef, undef, undef, undef, undef, undef, undef, undef, undef, undef, undef, undef, undef, undef, undef, undef, undef, undef, undef, undef, undef, undef, undef, undef, undef, undef, undef, undef, undef, undef, undef, undef, undef, undef, undef, undef, undef, undef, undef, undef, undef, undef, undef, undef, undef, undef, undef, undef, undef, undef, undef, undef, undef, undef, undef, undef, undef, undef, undef, undef, undef, undef, undef, undef, undef, undef, undef, undef, undef, undef, undef, undef, undef, undef, undef, undef, undef] (by kernel_rfl) ?_
  have H := H0
  refine x_seq ?_
  refine x_region ?_
  refine x_box H #[.int .i64 o, .int .i64 k, .int .i64 v] 69 (by kernel_rfl) rfl (by kernel_rfl) ?_
  clear H
  intro v1 g1 H
  refine x_val (.slice none 0 0) (by kernel_rfl) rfl (by kernel_rfl) ?_
  refine x_val (.bool false) (by kernel_rfl) rfl (by kernel_rfl) ?_
  refine x_nil ?_
  refine x_then ?_
  refine x_seq ?_
  refine x_seq ?_
  refine x_region ?_
  refine x_val (.pointer (some ⟨g1, 0, none⟩)) (by kernel_rfl) rfl (by kernel_rfl) ?_
  refine x_load1 H 0 g1 0 #[.int .i64 o, .int .i64 k, .int .i64 v] 69 (.int .i64 o) (by kernel_rfl) (by kernel_rfl) (by kernel_rfl) rfl (by kernel_rfl) ?_
  refine x_nil ?_
  refine x_then ?_
  refine x_block ?_
  refine x_seq ?_
  refine x_region ?_
  refine x_val (.bool (decide (o = 1))) (by kernel_rfl) rfl (by kernel_rfl) ?_
  refine x_val (.bool (decide (o = 1))) (by kernel_rfl) rfl (by kernel_rfl) ?_
  refine x_nil ?_
  refine x_then ?_
  rw [k1]
  refine x_f (by kernel_rfl) ?_
  refine x_seq ?_
  refine x_region ?_
  refine x_val (.bool (decide (o = 2))) (by kernel_rfl) rfl (by kernel_rfl) ?_
  refine x_val (.bool (decide (o = 2))) (by kernel_rfl) rfl (by kernel_rfl) ?_
  refine x_nil ?_
  refine x_then ?_
  rw [k2]
  refine x_t (by kernel_rfl) ?_
  refine x_seq ?_
  refine x_region ?_
  refine x_val (lv) (by kernel_rfl) rfl (by kernel_rfl) ?_
  refine x_val (.pointer (some ⟨g1, 1, none⟩)) (by kernel_rfl) rfl (by kernel_rfl) ?_
  refine x_load1 H 0 g1 1 #[.int .i64 o, .int .i64 k, .int .i64 v] 69 (.int .i64 k) (by kernel_rfl) (by kernel_rfl) (by kernel_rfl) rfl (by kernel_rfl) ?_
  refine x_callB (.int .i64 (((fkI xs k) : Nat) : Int)) H (by kernel_rfl) rfl (by kernel_rfl) (by have h := RFind xs k (by omega) _ (H.roOf [3] [.row (lv) 77 2 (List.length xs) (List.flatMap pairLI xs)] (by kernel_rfl)); rw [findI, if_pos (of_decide_eq_true hq)] at h; exact h) ?_
  clear H
  intro v2 H
  refine x_val (.int .i64 (((fkI xs k) : Nat) : Int)) (by kernel_rfl) rfl (by kernel_rfl) ?_
  refine x_nil ?_
  refine x_then ?_
  refine x_seq ?_
  refine x_seq ?_
  refine x_region ?_
  refine x_val (.int .i64 (((fkI xs k) : Nat) : Int)) (by kernel_rfl) rfl (by kernel_rfl) ?_
  refine x_val (.bool (decide ((((fkI xs k) : Nat) : Int) < 0))) (by kernel_rfl) rfl (by kernel_rfl) ?_
  refine x_nil ?_
  refine x_then ?_
  cases h1 : decide ((((fkI xs k) : Nat) : Int) < 0)
  · skip
    have h1p := of_decide_eq_false h1
    refine x_f (by kernel_rfl) ?_
    refine x_skipc ?_
    refine x_then ?_
    refine x_seq ?_
    refine x_region_s 9 (fun w' => Hs (fps [.blk t #[sv, .int .i64 ((room : Nat) : Int), .func (.func 26) #[] #[]] 90, .row (sv) 92 2 (List.length xs) (List.flatMap pairLI xs), .row (lv) 77 2 (List.length xs) (List.flatMap pairLI xs)]) w0 w' [.blk g1 #[.int .i64 o, .int .i64 k, .int .i64 v] 69, .row (lv) 77 2 (List.length xs) (List.flatMap pairLI xs)]) (fun w' => Hs (fps [.blk t #[sv, .int .i64 ((room : Nat) : Int), .func (.func 26) #[] #[]] 90, .row (sv) 92 2 (List.length xs) (List.flatMap pairLI xs), .row (lv) 77 2 (List.length xs) (List.flatMap pairLI xs)]) w0 w' [.blk g1 #[.int .i64 o, .int .i64 k, .int .i64 v] 69, .blk t #[sv, .int .i64 ((room : Nat) : Int), .func (.func 26) #[] #[]] 90, .row (sv) 92 2 (List.length xs) (List.flatMap pairLI xs), .row (lv) 77 2 (List.length xs) (List.flatMap pairLI xs)]) (by kernel_rfl) (by kernel_rfl) (by kernel_rfl) hsShut (fun _ h => h.pick [0, 3] _ (by decide) (by kernel_rfl)) H.drew ?_
    refine s_quiet 0 rfl (by kernel_rfl) (y_val (lv) (by kernel_rfl) (fun _ => by kernel_rfl)) ?_
    refine s_quiet 1 rfl (by kernel_rfl) (y_val (.int .i64 (((fkI xs k) : Nat) : Int)) (by kernel_rfl) (fun _ => by kernel_rfl)) ?_
    refine s_quiet 3 rfl (by kernel_rfl) (y_val (.pointer (some ⟨t, 0, none⟩)) (by kernel_rfl) (fun _ => by kernel_rfl)) ?_
    refine s_quiet 4 rfl (by kernel_rfl) (y_val (.pointer (some ⟨g1, 1, none⟩)) (by kernel_rfl) (fun _ => by kernel_rfl)) ?_
    refine s_quiet 5 rfl (by kernel_rfl) (y_load1 0 g1 1 #[.int .i64 o, .int .i64 k, .int .i64 v] 69 (.int .i64 k) (by kernel_rfl) (by kernel_rfl) (by kernel_rfl) (fun _ => by kernel_rfl)) ?_
    refine s_one 2 rfl (by kernel_rfl) rfl ?_
    clear H
    intro v3 H
    refine x_call (by kernel_rfl) rfl (by kernel_rfl) (RWithout xs (fkI xs k) (of_decide_eq_true hq) (by omega) _ (H.roOf [3] [.row (lv) 77 2 (List.length xs) (List.flatMap pairLI xs)] (by kernel_rfl))) ?_
    rintro _ v4 ⟨u, rfl, hN'⟩
    refine ⟨_, rfl, ?_⟩
    replace H := H.more hN'
    clear hN'
    replace H : Hs (fps [.blk t #[sv, .int .i64 ((room : Nat) : Int), .func (.func 26) #[] #[]] 90, .row (sv) 92 2 (List.length xs) (List.flatMap pairLI xs), .row (lv) 77 2 (List.length xs) (List.flatMap pairLI xs)]) w0 _ [.row (u) 77 2 (List.length (xs.eraseIdx (fkI xs k))) (List.flatMap pairLI (xs.eraseIdx (fkI xs k))), .blk g1 #[.int .i64 o, .int .i64 k, .int .i64 v] 69, .blk t #[sv, .int .i64 ((room : Nat) : Int), .func (.func 26) #[] #[]] 90, .row (sv) 92 2 (List.length xs) (List.flatMap pairLI xs), .row (lv) 77 2 (List.length xs) (List.flatMap pairLI xs)] := H
    refine x_nil ?_
    refine x_then ?_
    refine ⟨fun w' => Hs (fps [.blk t #[sv, .int .i64 ((room : Nat) : Int), .func (.func 26) #[] #[]] 90, .row (sv) 92 2 (List.length xs) (List.flatMap pairLI xs), .row (lv) 77 2 (List.length xs) (List.flatMap pairLI xs)]) w0 w' [.row (u) 77 2 (List.length (xs.eraseIdx (fkI xs k))) (List.flatMap pairLI (xs.eraseIdx (fkI xs k))), .blk g1 #[.int .i64 o, .int .i64 k, .int .i64 v] 69, .row (lv) 77 2 (List.length xs) (List.flatMap pairLI xs)], fun w' => Hs (fps [.blk t #[sv, .int .i64 ((room : Nat) : Int), .func (.func 26) #[] #[]] 90, .row (sv) 92 2 (List.length xs) (List.flatMap pairLI xs), .row (lv) 77 2 (List.length xs) (List.flatMap pairLI xs)]) w0 w' [.row (u) 77 2 (List.length (xs.eraseIdx (fkI xs k))) (List.flatMap pairLI (xs.eraseIdx (fkI xs k))), .blk g1 #[.int .i64 o, .int .i64 k, .int .i64 v] 69, .blk t #[sv, .int .i64 ((room : Nat) : Int), .func (.func 26) #[] #[]] 90, .row (sv) 92 2 (List.length xs) (List.flatMap pairLI xs), .row (lv) 77 2 (List.length xs) (List.flatMap pairLI xs)], H, hsShut, fun _ h => h.pick [0, 1, 4] _ (by decide) (by kernel_rfl), fun _ h => h.pick [1, 2] _ (by decide) (by kernel_rfl), ?_⟩
    refine s_one 6 rfl (by kernel_rfl) rfl ?_
    clear H
    intro v5 H
    refine x_call (by kernel_rfl) rfl (by kernel_rfl) (Hs.useE (A := [.blk t #[sv, .int .i64 ((room : Nat) : Int), .func (.func 26) #[] #[]] 90, .row (sv) 92 2 (List.length xs) (List.flatMap pairLI xs)]) (R := [.row (u) 77 2 (List.length (xs.eraseIdx (fkI xs k))) (List.flatMap pairLI (xs.eraseIdx (fkI xs k))), .blk g1 #[.int .i64 o, .int .i64 k, .int .i64 v] 69, .row (lv) 77 2 (List.length xs) (List.flatMap pairLI xs)]) (fun svd => [.blk t #[svd, .int .i64 ((room : Nat) : Int), .func (.func 26) #[] #[]] 90, .row (svd) 92 2 (List.length (xs.eraseIdx (fkI xs k))) (List.flatMap pairLI (xs.eraseIdx (fkI xs k)))]) (fun _ => .bool true) (H.pick [2, 3, 0, 1, 4] _ (by decide) (by kernel_rfl)) (fun h => (by have q := Drop_I k (by omega) _ h; rw [dropI, if_pos (of_decide_eq_true hq), hq] at q; exact q))) ?_
    rintro _ v6 ⟨svd, rfl, H'⟩
    refine ⟨_, rfl, ?_⟩
    clear H
    have H : Hs (fps [.blk t #[sv, .int .i64 ((room : Nat) : Int), .func (.func 26) #[] #[]] 90, .row (sv) 92 2 (List.length xs) (List.flatMap pairLI xs), .row (lv) 77 2 (List.length xs) (List.flatMap pairLI xs)]) w0 _ [.blk t #[svd, .int .i64 ((room : Nat) : Int), .func (.func 26) #[] #[]] 90, .row (svd) 92 2 (List.length (xs.eraseIdx (fkI xs k))) (List.flatMap pairLI (xs.eraseIdx (fkI xs k))), .row (u) 77 2 (List.length (xs.eraseIdx (fkI xs k))) (List.flatMap pairLI (xs.eraseIdx (fkI xs k))), .blk g1 #[.int .i64 o, .int .i64 k, .int .i64 v] 69, .row (lv) 77 2 (List.length xs) (List.flatMap pairLI xs)] := H'
    clear H'
    refine x_nil ?_
    refine x_then ?_
    refine ⟨fun w' => Hs (fps [.blk t #[sv, .int .i64 ((room : Nat) : Int), .func (.func 26) #[] #[]] 90, .row (sv) 92 2 (List.length xs) (List.flatMap pairLI xs), .row (lv) 77 2 (List.length xs) (List.flatMap pairLI xs)]) w0 w' [.blk t #[svd, .int .i64 ((room : Nat) : Int), .func (.func 26) #[] #[]] 90, .row (svd) 92 2 (List.length (xs.eraseIdx (fkI xs k))) (List.flatMap pairLI (xs.eraseIdx (fkI xs k))), .row (u) 77 2 (List.length (xs.eraseIdx (fkI xs k))) (List.flatMap pairLI (xs.eraseIdx (fkI xs k))), .blk g1 #[.int .i64 o, .int .i64 k, .int .i64 v] 69, .row (lv) 77 2 (List.length xs) (List.flatMap pairLI xs)], fun w' => Hs (fps [.blk t #[sv, .int .i64 ((room : Nat) : Int), .func (.func 26) #[] #[]] 90, .row (sv) 92 2 (List.length xs) (List.flatMap pairLI xs), .row (lv) 77 2 (List.length xs) (List.flatMap pairLI xs)]) w0 w' [.blk t #[svd, .int .i64 ((room : Nat) : Int), .func (.func 26) #[] #[]] 90, .row (svd) 92 2 (List.length (xs.eraseIdx (fkI xs k))) (List.flatMap pairLI (xs.eraseIdx (fkI xs k))), .row (u) 77 2 (List.length (xs.eraseIdx (fkI xs k))) (List.flatMap pairLI (xs.eraseIdx (fkI xs k))), .blk g1 #[.int .i64 o, .int .i64 k, .int .i64 v] 69, .row (lv) 77 2 (List.length xs) (List.flatMap pairLI xs)], H, hsShut, fun _ h => h.pick [0, 1, 2, 3, 4] _ (by decide) (by kernel_rfl), fun _ h => h.pick [2, 3, 4] _ (by decide) (by kernel_rfl), ?_⟩
    refine s_quiet 7 rfl (by kernel_rfl) (y_val (u) (by kernel_rfl) (fun _ => by kernel_rfl)) ?_
    refine s_quiet 8 rfl (by kernel_rfl) (y_val (.bool true) (by kernel_rfl) (fun _ => by kernel_rfl)) ?_
    refine s_done (by kernel_rfl) ?_
    clear H
    intro v7 H
    refine x_then ?_
    refine x_retc ?_
    refine x_blk_ret ?_
    refine x_then_ret ?_
    refine x_ret (.tuple #[u, .bool true]) (by kernel_rfl) (by kernel_rfl) ?_
    replace H := H.pick [0, 1, 2] [.blk t #[svd, .int .i64 ((room : Nat) : Int), .func (.func 26) #[] #[]] 90, .row (svd) 92 2 (List.length (xs.eraseIdx (fkI xs k))) (List.flatMap pairLI (xs.eraseIdx (fkI xs k))), .row (u) 77 2 (List.length (xs.eraseIdx (fkI xs k))) (List.flatMap pairLI (xs.eraseIdx (fkI xs k)))] (by decide) (by kernel_rfl)
    exact ⟨_, _, rfl, H⟩
  · skip
    have h1p := of_decide_eq_true h1
    exact absurd h1p (by omega)

set_option maxRecDepth 100000 in
set_option maxHeartbeats 4000000 in
theorem steps_hasnt {t : Nat} {sv : Value} {xs : List PairI} {room : Nat} (o k v : Int) (hn : xs.length ≤ room) (h1 : 1 ≤ room) (h2 : room ≤ 4096) {lv : Value} (hq : decide (fkI xs k < List.length xs) = false) (k1 : decide (o = 1) = false) (k2 : decide (o = 2) = true) (w0 : World) (H0 : Hs (fps [.blk t #[sv, .int .i64 ((room : Nat) : Int), .func (.func 26) #[] #[]] 90, .row (sv) 92 2 (List.length xs) (List.flatMap pairLI xs), .row (lv) 77 2 (List.length xs) (List.flatMap pairLI xs)]) w0 w0 [.blk t #[sv, .int .i64 ((room : Nat) : Int), .func (.func 26) #[] #[]] 90, .row (sv) 92 2 (List.length xs) (List.flatMap pairLI xs), .row (lv) 77 2 (List.length xs) (List.flatMap pairLI xs)]) :
    Calls Try.prog 31 #[.pointer (some ⟨t, 0, none⟩), lv, .int .i64 ((room : Nat) : Int), .agg #[.int .i64 o, .int .i64 k, .int .i64 v]] w0 fun e w' => ∃ sv' u, e = .returned (.tuple #[u, .bool true]) ∧ Hs (fps [.blk t #[sv, .int .i64 ((room : Nat) : Int), .func (.func 26) #[] #[]] 90, .row (sv) 92 2 (List.length xs) (List.flatMap pairLI xs), .row (lv) 77 2 (List.length xs) (List.flatMap pairLI xs)]) w0 w' [.blk t #[sv', .int .i64 ((room : Nat) : Int), .func (.func 26) #[] #[]] 90, .row (sv') 92 2 (List.length xs) (List.flatMap pairLI xs), .row (u) 77 2 (List.length xs) (List.flatMap pairLI xs)] := by
  refine x_enter Try.func31 rfl #[.pointer (some ⟨t, 0, none⟩), lv, .int .i64 ((room : Nat) : Int), .agg #[.int .i64 o, .int .i64 k, .int .i64 v], undef, undef, undef, undef, undef, undef, undef, undef, undef, undef, undef, undef, undef, undef, undef, undef, undef, undef, undef, undef, undef, undef, undef, undef, undef, undef, undef, undef, undef, undef, undef, undef, undef, undef, undef, undef, undef, undef, undef, undef, undef, undef, undef, undef, undef, undef, undef, undef, undef, undef, undef, undef, undef, undef, undef, undef, undef, undef, undef, undef, undef, undef, undef, undef, undef, undef, undef, undef, undef, undef, undef, undef, undef, undef, undef, undef, undef, undef, undef, undef, undef, undef, undef, undef, undef, undef, undef, undef, undef, undef, undef, undef, undef, undef] (by kernel_rfl) ?_
  have H := H0
  refine x_seq ?_
  refine x_region ?_
  refine x_box H #[.int .i64 o, .int .i64 k, .int .i64 v] 69 (by kernel_rfl) rfl (by kernel_rfl) ?_
  clear H
  intro v1 g1 H
  refine x_val (.slice none 0 0) (by kernel_rfl) rfl (by kernel_rfl) ?_
  refine x_val (.bool false) (by kernel_rfl) rfl (by kernel_rfl) ?_
  refine x_nil ?_
  refine x_then ?_
  refine x_seq ?_
  refine x_seq ?_
  refine x_region ?_
  refine x_val (.pointer (some ⟨g1, 0, none⟩)) (by kernel_rfl) rfl (by kernel_rfl) ?_
  refine x_load1 H 0 g1 0 #[.int .i64 o, .int .i64 k, .int .i64 v] 69 (.int .i64 o) (by kernel_rfl) (by kernel_rfl) (by kernel_rfl) rfl (by kernel_rfl) ?_
  refine x_nil ?_
  refine x_then ?_
  refine x_block ?_
  refine x_seq ?_
  refine x_region ?_
  refine x_val (.bool (decide (o = 1))) (by kernel_rfl) rfl (by kernel_rfl) ?_
  refine x_val (.bool (decide (o = 1))) (by kernel_rfl) rfl (by kernel_rfl) ?_
  refine x_nil ?_
  refine x_then ?_
  rw [k1]
  refine x_f (by kernel_rfl) ?_
  refine x_seq ?_
  refine x_region ?_
  refine x_val (.bool (decide (o = 2))) (by kernel_rfl) rfl (by kernel_rfl) ?_
  refine x_val (.bool (decide (o = 2))) (by kernel_rfl) rfl (by kernel_rfl) ?_
  refine x_nil ?_
  refine x_then ?_
  rw [k2]
  refine x_t (by kernel_rfl) ?_
  refine x_seq ?_
  refine x_region ?_
  refine x_val (lv) (by kernel_rfl) rfl (by kernel_rfl) ?_
  refine x_val (.pointer (some ⟨g1, 1, none⟩)) (by kernel_rfl) rfl (by kernel_rfl) ?_
  refine x_load1 H 0 g1 1 #[.int .i64 o, .int .i64 k, .int .i64 v] 69 (.int .i64 k) (by kernel_rfl) (by kernel_rfl) (by kernel_rfl) rfl (by kernel_rfl) ?_
  refine x_callB (.int .i64 (-1)) H (by kernel_rfl) rfl (by kernel_rfl) (by have h := RFind xs k (by omega) _ (H.roOf [3] [.row (lv) 77 2 (List.length xs) (List.flatMap pairLI xs)] (by kernel_rfl)); rw [findI, if_neg (of_decide_eq_false hq)] at h; exact h) ?_
  clear H
  intro v2 H
  refine x_val (.int .i64 (-1)) (by kernel_rfl) rfl (by kernel_rfl) ?_
  refine x_nil ?_
  refine x_then ?_
  refine x_seq ?_
  refine x_seq ?_
  refine x_region ?_
  refine x_val (.int .i64 (-1)) (by kernel_rfl) rfl (by kernel_rfl) ?_
  refine x_val (.bool true) (by kernel_rfl) rfl (by kernel_rfl) ?_
  refine x_nil ?_
  refine x_then ?_
  refine x_t (by kernel_rfl) ?_
  refine x_seq ?_
  refine x_region ?_
  refine x_val (lv) (by kernel_rfl) rfl (by kernel_rfl) ?_
  refine x_val (.pointer (some ⟨t, 0, none⟩)) (by kernel_rfl) rfl (by kernel_rfl) ?_
  refine x_val (.pointer (some ⟨g1, 1, none⟩)) (by kernel_rfl) rfl (by kernel_rfl) ?_
  refine x_load1 H 0 g1 1 #[.int .i64 o, .int .i64 k, .int .i64 v] 69 (.int .i64 k) (by kernel_rfl) (by kernel_rfl) (by kernel_rfl) rfl (by kernel_rfl) ?_
  refine x_call (by kernel_rfl) rfl (by kernel_rfl) (Hs.useE (A := [.blk t #[sv, .int .i64 ((room : Nat) : Int), .func (.func 26) #[] #[]] 90, .row (sv) 92 2 (List.length xs) (List.flatMap pairLI xs)]) (R := [.blk g1 #[.int .i64 o, .int .i64 k, .int .i64 v] 69, .row (lv) 77 2 (List.length xs) (List.flatMap pairLI xs)]) (fun svd => [.blk t #[svd, .int .i64 ((room : Nat) : Int), .func (.func 26) #[] #[]] 90, .row (svd) 92 2 (List.length xs) (List.flatMap pairLI xs)]) (fun _ => .bool false) (H.pick [1, 2, 0, 3] _ (by decide) (by kernel_rfl)) (fun h => (by have q := Drop_I k (by omega) _ h; rw [dropI, if_neg (of_decide_eq_false hq), hq] at q; exact q))) ?_
  rintro _ v3 ⟨svd, rfl, H'⟩
  refine ⟨_, rfl, ?_⟩
  clear H
  have H : Hs (fps [.blk t #[sv, .int .i64 ((room : Nat) : Int), .func (.func 26) #[] #[]] 90, .row (sv) 92 2 (List.length xs) (List.flatMap pairLI xs), .row (lv) 77 2 (List.length xs) (List.flatMap pairLI xs)]) w0 _ [.blk t #[svd, .int .i64 ((room : Nat) : Int), .func (.func 26) #[] #[]] 90, .row (svd) 92 2 (List.length xs) (List.flatMap pairLI xs), .blk g1 #[.int .i64 o, .int .i64 k, .int .i64 v] 69, .row (lv) 77 2 (List.length xs) (List.flatMap pairLI xs)] := H'
  clear H'
  refine x_val (.bool true) (by kernel_rfl) rfl (by kernel_rfl) ?_
  refine x_val (lv) (by kernel_rfl) rfl (by kernel_rfl) ?_
  refine x_val (.bool true) (by kernel_rfl) rfl (by kernel_rfl) ?_
  refine x_nil ?_
  refine x_then ?_
  refine x_retc ?_
  refine x_then_ret ?_
  refine x_blk_ret ?_
  refine x_then_ret ?_
  refine x_ret (.tuple #[lv, .bool true]) (by kernel_rfl) (by kernel_rfl) ?_
  replace H := H.pick [0, 1, 3] [.blk t #[svd, .int .i64 ((room : Nat) : Int), .func (.func 26) #[] #[]] 90, .row (svd) 92 2 (List.length xs) (List.flatMap pairLI xs), .row (lv) 77 2 (List.length xs) (List.flatMap pairLI xs)] (by decide) (by kernel_rfl)
  exact ⟨_, _, rfl, H⟩

set_option maxRecDepth 100000 in
set_option maxHeartbeats 4000000 in
theorem steps_xor_s {t : Nat} {sv : Value} {xs : List PairI} {room : Nat} (o k v : Int) (hn : xs.length ≤ room) (h1 : 1 ≤ room) (h2 : room ≤ 4096) {g cap : Nat}  (k1 : decide (o = 1) = false) (k2 : decide (o = 2) = false) (k3 : decide (o = 3) = true) (w0 : World) (H0 : Hs (fps [.blk t #[sv, .int .i64 ((room : Nat) : Int), .func (.func 26) #[] #[]] 90, .row (sv) 92 2 (List.length xs) (List.flatMap pairLI xs), .row (.slice (some ⟨g, 0, none⟩) (List.length xs) cap) 77 2 (List.length xs) (List.flatMap pairLI xs)]) w0 w0 [.blk t #[sv, .int .i64 ((room : Nat) : Int), .func (.func 26) #[] #[]] 90, .row (sv) 92 2 (List.length xs) (List.flatMap pairLI xs), .row (.slice (some ⟨g, 0, none⟩) (List.length xs) cap) 77 2 (List.length xs) (List.flatMap pairLI xs)]) :
    Calls Try.prog 31 #[.pointer (some ⟨t, 0, none⟩), .slice (some ⟨g, 0, none⟩) (List.length xs) cap, .int .i64 ((room : Nat) : Int), .agg #[.int .i64 o, .int .i64 k, .int .i64 v]] w0 fun e w' => ∃ sv' u, e = .returned (.tuple #[u, .bool true]) ∧ Hs (fps [.blk t #[sv, .int .i64 ((room : Nat) : Int), .func (.func 26) #[] #[]] 90, .row (sv) 92 2 (List.length xs) (List.flatMap pairLI xs), .row (.slice (some ⟨g, 0, none⟩) (List.length xs) cap) 77 2 (List.length xs) (List.flatMap pairLI xs)]) w0 w' [.blk t #[sv', .int .i64 ((room : Nat) : Int), .func (.func 26) #[] #[]] 90, .row (sv') 92 2 (List.length (xorI v xs)) (List.flatMap pairLI (xorI v xs)), .row (u) 77 2 (List.length (xorI v xs)) (List.flatMap pairLI (xorI v xs))] := by
  refine x_enter Try.func31 rfl #[.pointer (some ⟨t, 0, none⟩), .slice (some ⟨g, 0, none⟩) (List.length xs) cap, .int .i64 ((room : Nat) : Int), .agg #[.int .i64 o, .int .i64 k, .int .i64 v], undef, undef, undef, undef, undef, undef, undef, undef, undef, undef, undef, undef, undef, undef, undef, undef, undef, undef, undef, undef, undef, undef, undef, undef, undef, undef, undef, undef, undef, undef, undef, undef, undef, undef, undef, undef, undef, undef, undef, undef, undef, undef, undef, undef, undef, undef, undef, undef, undef, undef, undef, undef, undef, undef, undef, undef, undef, undef, undef, undef, undef, undef, undef, undef, undef, undef, undef, undef, undef, undef, undef, undef, undef, undef, undef, undef, undef, undef, undef, undef, undef, undef, undef, undef, undef, undef, undef, undef, undef, undef, undef, undef, undef, undef] (by kernel_rfl) ?_
  have H := H0
  refine x_seq ?_
  refine x_region ?_
  refine x_box H #[.int .i64 o, .int .i64 k, .int .i64 v] 69 (by kernel_rfl) rfl (by kernel_rfl) ?_
  clear H
  intro v1 g1 H
  refine x_val (.slice none 0 0) (by kernel_rfl) rfl (by kernel_rfl) ?_
  refine x_val (.bool false) (by kernel_rfl) rfl (by kernel_rfl) ?_
  refine x_nil ?_
  refine x_then ?_
  refine x_seq ?_
  refine x_seq ?_
  refine x_region ?_
  refine x_val (.pointer (some ⟨g1, 0, none⟩)) (by kernel_rfl) rfl (by kernel_rfl) ?_
  refine x_load1 H 0 g1 0 #[.int .i64 o, .int .i64 k, .int .i64 v] 69 (.int .i64 o) (by kernel_rfl) (by kernel_rfl) (by kernel_rfl) rfl (by kernel_rfl) ?_
  refine x_nil ?_
  refine x_then ?_
  refine x_block ?_
  refine x_seq ?_
  refine x_region ?_
  refine x_val (.bool (decide (o = 1))) (by kernel_rfl) rfl (by kernel_rfl) ?_
  refine x_val (.bool (decide (o = 1))) (by kernel_rfl) rfl (by kernel_rfl) ?_
  refine x_nil ?_
  refine x_then ?_
  rw [k1]
  refine x_f (by kernel_rfl) ?_
  refine x_seq ?_
  refine x_region ?_
  refine x_val (.bool (decide (o = 2))) (by kernel_rfl) rfl (by kernel_rfl) ?_
  refine x_val (.bool (decide (o = 2))) (by kernel_rfl) rfl (by kernel_rfl) ?_
  refine x_nil ?_
  refine x_then ?_
  rw [k2]
  refine x_f (by kernel_rfl) ?_
  refine x_seq ?_
  refine x_region ?_
  refine x_val (.bool (decide (o = 3))) (by kernel_rfl) rfl (by kernel_rfl) ?_
  refine x_val (.bool (decide (o = 3))) (by kernel_rfl) rfl (by kernel_rfl) ?_
  refine x_nil ?_
  refine x_then ?_
  rw [k3]
  refine x_t (by kernel_rfl) ?_
  refine x_seq ?_
  refine x_region ?_
  refine x_val (.pointer (some ⟨t, 0, none⟩)) (by kernel_rfl) rfl (by kernel_rfl) ?_
  refine x_val (.func (.func 48) #[] #[.pointer (some ⟨g1, 0, none⟩)]) (by kernel_rfl) rfl (by kernel_rfl) ?_
  refine x_call (by kernel_rfl) rfl (by kernel_rfl) (Hs.useE (A := [.blk t #[sv, .int .i64 ((room : Nat) : Int), .func (.func 26) #[] #[]] 90, .row (sv) 92 2 (List.length xs) (List.flatMap pairLI xs), .blk g1 #[.int .i64 o, .int .i64 k, .int .i64 v] 69]) (R := [.row (.slice (some ⟨g, 0, none⟩) (List.length xs) cap) 77 2 (List.length xs) (List.flatMap pairLI xs)]) (fun svu => [.blk t #[svu, .int .i64 ((room : Nat) : Int), .func (.func 26) #[] #[]] 90, .row (svu) 92 2 (List.length (xorI v xs)) (List.flatMap pairLI (xorI v xs)), .blk g1 #[.int .i64 o, .int .i64 k, .int .i64 v] 69]) (fun _ => .tuple #[]) (H.pick [1, 2, 0, 3] _ (by decide) (by kernel_rfl)) (fun h => Update (b := g1) (o1 := o) (o2 := k) (V := v) (by omega) _ h)) ?_
  rintro _ v2 ⟨svu, rfl, H'⟩
  refine ⟨_, rfl, ?_⟩
  clear H
  have H : Hs (fps [.blk t #[sv, .int .i64 ((room : Nat) : Int), .func (.func 26) #[] #[]] 90, .row (sv) 92 2 (List.length xs) (List.flatMap pairLI xs), .row (.slice (some ⟨g, 0, none⟩) (List.length xs) cap) 77 2 (List.length xs) (List.flatMap pairLI xs)]) w0 _ [.blk t #[svu, .int .i64 ((room : Nat) : Int), .func (.func 26) #[] #[]] 90, .row (svu) 92 2 (List.length (xorI v xs)) (List.flatMap pairLI (xorI v xs)), .blk g1 #[.int .i64 o, .int .i64 k, .int .i64 v] 69, .row (.slice (some ⟨g, 0, none⟩) (List.length xs) cap) 77 2 (List.length xs) (List.flatMap pairLI xs)] := H'
  clear H'
  refine x_nil ?_
  refine x_then ?_
  refine x_seq ?_
  refine x_region ?_
  refine x_val (.slice none 0 0) (by kernel_rfl) rfl (by kernel_rfl) ?_
  refine x_nil ?_
  refine x_then ?_
  refine x_seq ?_
  refine x_seq ?_
  refine x_region ?_
  refine x_val (.slice (some ⟨g, 0, none⟩) (List.length xs) cap) (by kernel_rfl) rfl (by kernel_rfl) ?_
  refine x_val (.int .i64 (((List.length xs) : Nat) : Int)) (by kernel_rfl) rfl (by kernel_rfl) ?_
  refine x_val (.int .i64 0) (by kernel_rfl) rfl (by kernel_rfl) ?_
  refine x_nil ?_
  refine x_then ?_
  refine x_block ?_
  replace H := H.nilRow 77 2
  replace H := H.pick [1, 2, 3, 4, 0] [.blk t #[svu, .int .i64 ((room : Nat) : Int), .func (.func 26) #[] #[]] 90, .row (svu) 92 2 (List.length (xorI v xs)) (List.flatMap pairLI (xorI v xs)), .blk g1 #[.int .i64 o, .int .i64 k, .int .i64 v] 69, .row (.slice (some ⟨g, 0, none⟩) (List.length xs) cap) 77 2 (List.length xs) (List.flatMap pairLI xs), .row (.slice none 0 0) 77 2 (List.length (xorI v (List.take 0 xs))) (List.flatMap pairLI (xorI v (List.take 0 xs)))] (by decide) (by kernel_rfl)
  refine x_loop (G := Nat × Value) (fun gh a w' => match gh with | (j, mv) => ∃ uf1 : Nat → Value, a = { tmps := #[.pointer (some ⟨t, 0, none⟩), .slice (some ⟨g, 0, none⟩) (List.length xs) cap, .int .i64 ((room : Nat) : Int), .agg #[.int .i64 o, .int .i64 k, .int .i64 v], undef, undef, undef, .pointer (some ⟨g1, 0, none⟩), .slice none 0 0, .bool false, undef, undef, undef, undef, undef, undef, mv, undef, (uf1 0), .pointer (some ⟨g1, 0, none⟩), .int .i64 o, .bool false, .bool false, undef, undef, undef, undef, undef, undef, undef, undef, undef, undef, undef, undef, undef, undef, undef, undef, undef, undef, undef, undef, undef, undef, undef, undef, undef, undef, undef, undef, undef, .bool false, .bool false, undef, undef, undef, undef, undef, undef, undef, undef, undef, undef, undef, undef, undef, undef, undef, undef, undef, undef, undef, .bool true, .bool true, .pointer (some ⟨t, 0, none⟩), .func (.func 48) #[] #[.pointer (some ⟨g1, 0, none⟩)], .tuple #[], .slice (some ⟨g, 0, none⟩) (List.length xs) cap, .int .i64 (((List.length xs) : Nat) : Int), .int .i64 ((j : Nat) : Int), (uf1 1), (uf1 2), (uf1 3), (uf1 4), (uf1 5), (uf1 6), (uf1 7), (uf1 8), (uf1 9), (uf1 10), (uf1 11), (uf1 12), (uf1 13), (uf1 14), (uf1 15), undef, undef], defers := [] } ∧ Hs (fps [.blk t #[sv, .int .i64 ((room : Nat) : Int), .func (.func 26) #[] #[]] 90, .row (sv) 92 2 (List.length xs) (List.flatMap pairLI xs), .row (.slice (some ⟨g, 0, none⟩) (List.length xs) cap) 77 2 (List.length xs) (List.flatMap pairLI xs)]) w0 w' [.blk t #[svu, .int .i64 ((room : Nat) : Int), .func (.func 26) #[] #[]] 90, .row (svu) 92 2 (List.length (xorI v xs)) (List.flatMap pairLI (xorI v xs)), .blk g1 #[.int .i64 o, .int .i64 k, .int .i64 v] 69, .row (.slice (some ⟨g, 0, none⟩) (List.length xs) cap) 77 2 (List.length xs) (List.flatMap pairLI xs), .row (mv) 77 2 (List.length (xorI v (List.take j xs))) (List.flatMap pairLI (xorI v (List.take j xs)))] ∧ (j ≤ xs.length)) (fun gh => match gh with | (j, mv) => xs.length - j) (0, .slice none 0 0) ⟨(nthV [undef, undef, undef, undef, undef, undef, undef, undef, undef, undef, undef, undef, undef, undef, undef, undef]), (by kernel_rfl), H, (Nat.zero_le _)⟩ ?_
  clear H
  rintro ⟨j, mv⟩ _ v3 ⟨uf1, rfl, H, r1⟩
  refine x_seq ?_
  refine x_region ?_
  refine x_val (.bool (decide (((j : Nat) : Int) < (((List.length xs) : Nat) : Int)))) (by kernel_rfl) rfl (by kernel_rfl) ?_
  refine x_nil ?_
  refine x_then ?_
  refine x_seq ?_
  cases h1 : decide (((j : Nat) : Int) < (((List.length xs) : Nat) : Int))
  · skip
    have h1p := of_decide_eq_false h1
    refine x_f (by kernel_rfl) ?_
    refine x_exit ?_
    refine x_then_exit ?_
    refine x_then_exit ?_
    refine x_blk_exit ?_
    refine x_then ?_
    refine x_seq ?_
    refine x_region ?_
    refine x_val (mv) (by kernel_rfl) rfl (by kernel_rfl) ?_
    refine x_val (mv) (by kernel_rfl) rfl (by kernel_rfl) ?_
    refine x_val (.bool true) (by kernel_rfl) rfl (by kernel_rfl) ?_
    refine x_nil ?_
    refine x_then ?_
    refine x_retc ?_
    refine x_blk_ret ?_
    refine x_then_ret ?_
    refine x_ret (.tuple #[mv, .bool true]) (by kernel_rfl) (by kernel_rfl) ?_
    replace H := H.pick [0, 1, 4] [.blk t #[svu, .int .i64 ((room : Nat) : Int), .func (.func 26) #[] #[]] 90, .row (svu) 92 2 (List.length (xorI v xs)) (List.flatMap pairLI (xorI v xs)), .row (mv) 77 2 (List.length (xorI v (List.take j xs))) (List.flatMap pairLI (xorI v (List.take j xs)))] (by decide) (by kernel_rfl)
    have hk : j = xs.length := by omega
    rw [hk, List.take_length] at H
    exact ⟨_, _, rfl, H⟩
  · skip
    have h1p := of_decide_eq_true h1
    refine x_t (by kernel_rfl) ?_
    refine x_skipc ?_
    refine x_then ?_
    refine x_seq ?_
    refine x_block ?_
    refine x_seq ?_
    refine x_region ?_
    refine x_ix (t := 70) g 0 j (List.length xs) cap 77 2 (j * 2) (by omega) (by omega) (by kernel_rfl) (by kernel_rfl) (by kernel_rfl) rfl (by kernel_rfl) ?_
    refine x_loadcn (t := 77) g (j * 2) [.int .i64 ((xs.getD j (0, 0)).1), .int .i64 ((xs.getD j (0, 0)).2)] (H.rowCells 3 rfl (j * 2) (flatAt pairLenI (0, 0) _ (by omega))) (by kernel_rfl) rfl (by kernel_rfl) (by kernel_rfl) ?_
    refine x_box H #[.int .i64 0, .int .i64 0] 77 (by kernel_rfl) rfl (by kernel_rfl) ?_
    clear H
    intro v4 g2 H
    refine x_store (t := 77) (v := .agg #[.int .i64 ((xs.getD j (0, 0)).1), .int .i64 ((xs.getD j (0, 0)).2)]) H 0 g2 0 #[.int .i64 0, .int .i64 0] #[.int .i64 ((xs.getD j (0, 0)).1), .int .i64 ((xs.getD j (0, 0)).2)] 77 [.int .i64 ((xs.getD j (0, 0)).1), .int .i64 ((xs.getD j (0, 0)).2)] [.blk g2 #[.int .i64 ((xs.getD j (0, 0)).1), .int .i64 ((xs.getD j (0, 0)).2)] 77, .blk t #[svu, .int .i64 ((room : Nat) : Int), .func (.func 26) #[] #[]] 90, .row (svu) 92 2 (List.length (xorI v xs)) (List.flatMap pairLI (xorI v xs)), .blk g1 #[.int .i64 o, .int .i64 k, .int .i64 v] 69, .row (.slice (some ⟨g, 0, none⟩) (List.length xs) cap) 77 2 (List.length xs) (List.flatMap pairLI xs), .row (mv) 77 2 (List.length (xorI v (List.take j xs))) (List.flatMap pairLI (xorI v (List.take j xs)))] (by kernel_rfl) rfl (by kernel_rfl) (by kernel_rfl) (by kernel_rfl) (by kernel_rfl) (by kernel_rfl) (by kernel_rfl) (by kernel_rfl) (by kernel_rfl) ?_
    clear H
    intro v5 H
    refine x_nil ?_
    refine x_then ?_
    refine x_region ?_
    refine x_val (mv) (by kernel_rfl) rfl (by kernel_rfl) ?_
    refine x_val (.pointer (some ⟨g2, 0, none⟩)) (by kernel_rfl) rfl (by kernel_rfl) ?_
    refine x_load1 H 0 g2 0 #[.int .i64 ((xs.getD j (0, 0)).1), .int .i64 ((xs.getD j (0, 0)).2)] 77 (.int .i64 ((xs.getD j (0, 0)).1)) (by kernel_rfl) (by kernel_rfl) (by kernel_rfl) rfl (by kernel_rfl) ?_
    refine x_val (.pointer (some ⟨g2, 1, none⟩)) (by kernel_rfl) rfl (by kernel_rfl) ?_
    refine x_load1 H 0 g2 1 #[.int .i64 ((xs.getD j (0, 0)).1), .int .i64 ((xs.getD j (0, 0)).2)] 77 (.int .i64 ((xs.getD j (0, 0)).2)) (by kernel_rfl) (by kernel_rfl) (by kernel_rfl) rfl (by kernel_rfl) ?_
    refine x_val (.pointer (some ⟨g1, 2, none⟩)) (by kernel_rfl) rfl (by kernel_rfl) ?_
    refine x_load1 H 3 g1 2 #[.int .i64 o, .int .i64 k, .int .i64 v] 69 (.int .i64 v) (by kernel_rfl) (by kernel_rfl) (by kernel_rfl) rfl (by kernel_rfl) ?_
    refine x_val (.int .i64 (bits .xor .i64 ((xs.getD j (0, 0)).2) v)) (by kernel_rfl) rfl (by kernel_rfl) ?_
    refine x_val (.agg #[.int .i64 ((xs.getD j (0, 0)).1), .int .i64 (bits .xor .i64 ((xs.getD j (0, 0)).2) v)]) (by kernel_rfl) rfl (by kernel_rfl) ?_
    refine x_box' H #[.int .i64 ((xs.getD j (0, 0)).1), .int .i64 (bits .xor .i64 ((xs.getD j (0, 0)).2) v)] 77 1 (by kernel_rfl) rfl (by kernel_rfl) ?_
    clear H
    intro v6 g3 H
    refine x_append H 6 (mv) 70 77 2 16 (List.length (xorI v (List.take j xs))) (.agg #[.int .i64 0, .int .i64 0]) (List.flatMap pairLI (xorI v (List.take j xs))) ⟨g3, 0, none⟩ 1 1 [.int .i64 ((xs.getD j (0, 0)).1), .int .i64 (bits .xor .i64 ((xs.getD j (0, 0)).2) v)] rfl (by kernel_rfl) (by kernel_rfl) rfl (by decide) (by decide) rfl (fun j u hj => by rw [add_none]; exact cellOf (H.blk 0 rfl) (by simpa using hj)) (List.all_eq_true.1 (by kernel_rfl)) (by rw [xorI_len, List.length_take]; unfold maxLen; omega) (by rw [xorI_len, List.length_take]; omega) (by kernel_rfl) rfl (by kernel_rfl) ?_
    clear H
    intro v7 g4 c4 hc4 H
    rw [show (((List.length (xorI v (List.take j xs))) + 1) : Nat) = (List.length (xorI v (List.take (j + 1) xs))) from (by rw [take_nextP xs j (by omega), xorI_app, List.length_append]; rfl)] at H ⊢
    rw [show (List.flatMap pairLI (xorI v (List.take j xs))) ++ [.int .i64 ((xs.getD j (0, 0)).1), .int .i64 (bits .xor .i64 ((xs.getD j (0, 0)).2) v)] = (List.flatMap pairLI (xorI v (List.take (j + 1) xs))) from (by rw [take_nextP xs j (by omega), xorI_app, List.flatMap_append]; rfl)] at H
    replace H : Hs (fps [.blk t #[sv, .int .i64 ((room : Nat) : Int), .func (.func 26) #[] #[]] 90, .row (sv) 92 2 (List.length xs) (List.flatMap pairLI xs), .row (.slice (some ⟨g, 0, none⟩) (List.length xs) cap) 77 2 (List.length xs) (List.flatMap pairLI xs)]) w0 v7 [.blk g3 #[.int .i64 ((xs.getD j (0, 0)).1), .int .i64 (bits .xor .i64 ((xs.getD j (0, 0)).2) v)] 77, .blk g2 #[.int .i64 ((xs.getD j (0, 0)).1), .int .i64 ((xs.getD j (0, 0)).2)] 77, .blk t #[svu, .int .i64 ((room : Nat) : Int), .func (.func 26) #[] #[]] 90, .row (svu) 92 2 (List.length (xorI v xs)) (List.flatMap pairLI (xorI v xs)), .blk g1 #[.int .i64 o, .int .i64 k, .int .i64 v] 69, .row (.slice (some ⟨g, 0, none⟩) (List.length xs) cap) 77 2 (List.length xs) (List.flatMap pairLI xs), .row (.slice (some ⟨g4, 0, none⟩) (List.length (xorI v (List.take (j + 1) xs))) c4) 77 2 (List.length (xorI v (List.take (j + 1) xs))) (List.flatMap pairLI (xorI v (List.take (j + 1) xs)))] := H
    replace H := H.pick [1, 2, 3, 4, 5, 6] [.blk g2 #[.int .i64 ((xs.getD j (0, 0)).1), .int .i64 ((xs.getD j (0, 0)).2)] 77, .blk t #[svu, .int .i64 ((room : Nat) : Int), .func (.func 26) #[] #[]] 90, .row (svu) 92 2 (List.length (xorI v xs)) (List.flatMap pairLI (xorI v xs)), .blk g1 #[.int .i64 o, .int .i64 k, .int .i64 v] 69, .row (.slice (some ⟨g, 0, none⟩) (List.length xs) cap) 77 2 (List.length xs) (List.flatMap pairLI xs), .row (.slice (some ⟨g4, 0, none⟩) (List.length (xorI v (List.take (j + 1) xs))) c4) 77 2 (List.length (xorI v (List.take (j + 1) xs))) (List.flatMap pairLI (xorI v (List.take (j + 1) xs)))] (by decide) (by kernel_rfl)
    refine x_val (.slice (some ⟨g4, 0, none⟩) (List.length (xorI v (List.take (j + 1) xs))) c4) (by kernel_rfl) rfl (by kernel_rfl) ?_
    refine x_nil ?_
    refine x_blk ?_
    refine x_then ?_
    refine x_region ?_
    refine x_ar (((j : Nat) : Int) + 1) ⟨by omega, by omega⟩ (by kernel_rfl) rfl (by kernel_rfl) ?_
    refine x_val (.int .i64 (((j : Nat) : Int) + 1)) (by kernel_rfl) rfl (by kernel_rfl) ?_
    refine x_nil ?_
    refine x_then ?_
    replace H := H.pick [1, 2, 3, 4, 5] [.blk t #[svu, .int .i64 ((room : Nat) : Int), .func (.func 26) #[] #[]] 90, .row (svu) 92 2 (List.length (xorI v xs)) (List.flatMap pairLI (xorI v xs)), .blk g1 #[.int .i64 o, .int .i64 k, .int .i64 v] 69, .row (.slice (some ⟨g, 0, none⟩) (List.length xs) cap) 77 2 (List.length xs) (List.flatMap pairLI xs), .row (.slice (some ⟨g4, 0, none⟩) (List.length (xorI v (List.take (j + 1) xs))) c4) 77 2 (List.length (xorI v (List.take (j + 1) xs))) (List.flatMap pairLI (xorI v (List.take (j + 1) xs)))] (by decide) (by kernel_rfl)
    exact ⟨(j + 1, .slice (some ⟨g4, 0, none⟩) (List.length (xorI v (List.take (j + 1) xs))) c4), (by dsimp only; omega), (nthV [.pointer (some ⟨g2, 0, none⟩), .bool true, .pointer (some ⟨g, j * 2, none⟩), .agg #[.int .i64 ((xs.getD j (0, 0)).1), .int .i64 ((xs.getD j (0, 0)).2)], mv, .pointer (some ⟨g2, 0, none⟩), .int .i64 ((xs.getD j (0, 0)).1), .pointer (some ⟨g2, 1, none⟩), .int .i64 ((xs.getD j (0, 0)).2), .pointer (some ⟨g1, 2, none⟩), .int .i64 v, .int .i64 (bits .xor .i64 ((xs.getD j (0, 0)).2) v), .agg #[.int .i64 ((xs.getD j (0, 0)).1), .int .i64 (bits .xor .i64 ((xs.getD j (0, 0)).2) v)], .slice (some ⟨g3, 0, none⟩) 1 1, .slice (some ⟨g4, 0, none⟩) (List.length (xorI v (List.take (j + 1) xs))) c4, .int .i64 (((j : Nat) : Int) + 1)]), (by kernel_rfl), H, (by omega)⟩

set_option maxRecDepth 100000 in
set_option maxHeartbeats 4000000 in
theorem steps_xor_n {t : Nat} {sv : Value} {xs : List PairI} {room : Nat} (o k v : Int) (hn : xs.length ≤ room) (h1 : 1 ≤ room) (h2 : room ≤ 4096)  (h0 : xs.length = 0) (k1 : decide (o = 1) = false) (k2 : decide (o = 2) = false) (k3 : decide (o = 3) = true) (w0 : World) (H0 : Hs (fps [.blk t #[sv, .int .i64 ((room : Nat) : Int), .func (.func 26) #[] #[]] 90, .row (sv) 92 2 (List.length xs) (List.flatMap pairLI xs), .row (.slice none 0 0) 77 2 (List.length xs) (List.flatMap pairLI xs)]) w0 w0 [.blk t #[sv, .int .i64 ((room : Nat) : Int), .func (.func 26) #[] #[]] 90, .row (sv) 92 2 (List.length xs) (List.flatMap pairLI xs), .row (.slice none 0 0) 77 2 (List.length xs) (List.flatMap pairLI xs)]) :
    Calls Try.prog 31 #[.pointer (some ⟨t, 0, none⟩), .slice none 0 0, .int .i64 ((room : Nat) : Int), .agg #[.int .i64 o, .int .i64 k, .int .i64 v]] w0 fun e w' => ∃ sv' u, e = .returned (.tuple #[u, .bool true]) ∧ Hs (fps [.blk t #[sv, .int .i64 ((room : Nat) : Int), .func (.func 26) #[] #[]] 90, .row (sv) 92 2 (List.length xs) (List.flatMap pairLI xs), .row (.slice none 0 0) 77 2 (List.length xs) (List.flatMap pairLI xs)]) w0 w' [.blk t #[sv', .int .i64 ((room : Nat) : Int), .func (.func 26) #[] #[]] 90, .row (sv') 92 2 (List.length (xorI v xs)) (List.flatMap pairLI (xorI v xs)), .row (u) 77 2 (List.length (xorI v xs)) (List.flatMap pairLI (xorI v xs))] := by
  refine x_enter Try.func31 rfl #[.pointer (some ⟨t, 0, none⟩), .slice none 0 0, .int .i64 ((room : Nat) : Int), .agg #[.int .i64 o, .int .i64 k, .int .i64 v], undef, undef, undef, undef, undef, undef, undef, undef, undef, undef, undef, undef, undef, undef, undef, undef, undef, undef, undef, undef, undef, undef, undef, undef, undef, undef, undef, undef, undef, undef, undef, undef, undef, undef, undef, undef, undef, undef, undef, undef, undef, undef, undef, undef, undef, undef, undef, undef, undef, undef, undef, undef, undef, undef, undef, undef, undef, undef, undef, undef, undef, undef, undef, undef, undef, undef, undef, undef, undef, undef, undef, undef, undef, undef, undef, undef, undef, undef, undef, undef, undef, undef, undef, undef, undef, undef, undef, undef, undef, undef, undef, undef, undef, undef] (by kernel_rfl) ?_
  have H := H0
  refine x_seq ?_
  refine x_region ?_
  refine x_box H #[.int .i64 o, .int .i64 k, .int .i64 v] 69 (by kernel_rfl) rfl (by kernel_rfl) ?_
  clear H
  intro v1 g1 H
  refine x_val (.slice none 0 0) (by kernel_rfl) rfl (by kernel_rfl) ?_
  refine x_val (.bool false) (by kernel_rfl) rfl (by kernel_rfl) ?_
  refine x_nil ?_
  refine x_then ?_
  refine x_seq ?_
  refine x_seq ?_
  refine x_region ?_
  refine x_val (.pointer (some ⟨g1, 0, none⟩)) (by kernel_rfl) rfl (by kernel_rfl) ?_
  refine x_load1 H 0 g1 0 #[.int .i64 o, .int .i64 k, .int .i64 v] 69 (.int .i64 o) (by kernel_rfl) (by kernel_rfl) (by kernel_rfl) rfl (by kernel_rfl) ?_
  refine x_nil ?_
  refine x_then ?_
  refine x_block ?_
  refine x_seq ?_
  refine x_region ?_
  refine x_val (.bool (decide (o = 1))) (by kernel_rfl) rfl (by kernel_rfl) ?_
  refine x_val (.bool (decide (o = 1))) (by kernel_rfl) rfl (by kernel_rfl) ?_
  refine x_nil ?_
  refine x_then ?_
  rw [k1]
  refine x_f (by kernel_rfl) ?_
  refine x_seq ?_
  refine x_region ?_
  refine x_val (.bool (decide (o = 2))) (by kernel_rfl) rfl (by kernel_rfl) ?_
  refine x_val (.bool (decide (o = 2))) (by kernel_rfl) rfl (by kernel_rfl) ?_
  refine x_nil ?_
  refine x_then ?_
  rw [k2]
  refine x_f (by kernel_rfl) ?_
  refine x_seq ?_
  refine x_region ?_
  refine x_val (.bool (decide (o = 3))) (by kernel_rfl) rfl (by kernel_rfl) ?_
  refine x_val (.bool (decide (o = 3))) (by kernel_rfl) rfl (by kernel_rfl) ?_
  refine x_nil ?_
  refine x_then ?_
  rw [k3]
  refine x_t (by kernel_rfl) ?_
  refine x_seq ?_
  refine x_region ?_
  refine x_val (.pointer (some ⟨t, 0, none⟩)) (by kernel_rfl) rfl (by kernel_rfl) ?_
  refine x_val (.func (.func 48) #[] #[.pointer (some ⟨g1, 0, none⟩)]) (by kernel_rfl) rfl (by kernel_rfl) ?_
  refine x_call (by kernel_rfl) rfl (by kernel_rfl) (Hs.useE (A := [.blk t #[sv, .int .i64 ((room : Nat) : Int), .func (.func 26) #[] #[]] 90, .row (sv) 92 2 (List.length xs) (List.flatMap pairLI xs), .blk g1 #[.int .i64 o, .int .i64 k, .int .i64 v] 69]) (R := [.row (.slice none 0 0) 77 2 (List.length xs) (List.flatMap pairLI xs)]) (fun svu => [.blk t #[svu, .int .i64 ((room : Nat) : Int), .func (.func 26) #[] #[]] 90, .row (svu) 92 2 (List.length (xorI v xs)) (List.flatMap pairLI (xorI v xs)), .blk g1 #[.int .i64 o, .int .i64 k, .int .i64 v] 69]) (fun _ => .tuple #[]) (H.pick [1, 2, 0, 3] _ (by decide) (by kernel_rfl)) (fun h => Update (b := g1) (o1 := o) (o2 := k) (V := v) (by omega) _ h)) ?_
  rintro _ v2 ⟨svu, rfl, H'⟩
  refine ⟨_, rfl, ?_⟩
  clear H
  have H : Hs (fps [.blk t #[sv, .int .i64 ((room : Nat) : Int), .func (.func 26) #[] #[]] 90, .row (sv) 92 2 (List.length xs) (List.flatMap pairLI xs), .row (.slice none 0 0) 77 2 (List.length xs) (List.flatMap pairLI xs)]) w0 _ [.blk t #[svu, .int .i64 ((room : Nat) : Int), .func (.func 26) #[] #[]] 90, .row (svu) 92 2 (List.length (xorI v xs)) (List.flatMap pairLI (xorI v xs)), .blk g1 #[.int .i64 o, .int .i64 k, .int .i64 v] 69, .row (.slice none 0 0) 77 2 (List.length xs) (List.flatMap pairLI xs)] := H'
  clear H'
  refine x_nil ?_
  refine x_then ?_
  refine x_seq ?_
  refine x_region ?_
  refine x_val (.slice none 0 0) (by kernel_rfl) rfl (by kernel_rfl) ?_
  refine x_nil ?_
  refine x_then ?_
  refine x_seq ?_
  refine x_seq ?_
  refine x_region ?_
  refine x_val (.slice none 0 0) (by kernel_rfl) rfl (by kernel_rfl) ?_
  refine x_val (.int .i64 0) (by kernel_rfl) rfl (by kernel_rfl) ?_
  refine x_val (.int .i64 0) (by kernel_rfl) rfl (by kernel_rfl) ?_
  refine x_nil ?_
  refine x_then ?_
  refine x_block ?_
  refine x_loop (G := Unit) (fun (_ : Unit) a w' => ∃ uf1 : Nat → Value, a = { tmps := #[.pointer (some ⟨t, 0, none⟩), .slice none 0 0, .int .i64 ((room : Nat) : Int), .agg #[.int .i64 o, .int .i64 k, .int .i64 v], undef, undef, undef, .pointer (some ⟨g1, 0, none⟩), .slice none 0 0, .bool false, undef, undef, undef, undef, undef, undef, .slice none 0 0, undef, (uf1 0), .pointer (some ⟨g1, 0, none⟩), .int .i64 o, .bool false, .bool false, undef, undef, undef, undef, undef, undef, undef, undef, undef, undef, undef, undef, undef, undef, undef, undef, undef, undef, undef, undef, undef, undef, undef, undef, undef, undef, undef, undef, undef, .bool false, .bool false, undef, undef, undef, undef, undef, undef, undef, undef, undef, undef, undef, undef, undef, undef, undef, undef, undef, undef, undef, .bool true, .bool true, .pointer (some ⟨t, 0, none⟩), .func (.func 48) #[] #[.pointer (some ⟨g1, 0, none⟩)], .tuple #[], .slice none 0 0, .int .i64 0, .int .i64 0, (uf1 1), (uf1 2), (uf1 3), (uf1 4), (uf1 5), (uf1 6), (uf1 7), (uf1 8), (uf1 9), (uf1 10), (uf1 11), (uf1 12), (uf1 13), (uf1 14), (uf1 15), undef, undef], defers := [] } ∧ Hs (fps [.blk t #[sv, .int .i64 ((room : Nat) : Int), .func (.func 26) #[] #[]] 90, .row (sv) 92 2 (List.length xs) (List.flatMap pairLI xs), .row (.slice none 0 0) 77 2 (List.length xs) (List.flatMap pairLI xs)]) w0 w' [.blk t #[svu, .int .i64 ((room : Nat) : Int), .func (.func 26) #[] #[]] 90, .row (svu) 92 2 (List.length (xorI v xs)) (List.flatMap pairLI (xorI v xs)), .blk g1 #[.int .i64 o, .int .i64 k, .int .i64 v] 69, .row (.slice none 0 0) 77 2 (List.length xs) (List.flatMap pairLI xs)]) (fun _ => 0) () ⟨(nthV [undef, undef, undef, undef, undef, undef, undef, undef, undef, undef, undef, undef, undef, undef, undef, undef]), (by kernel_rfl), H⟩ ?_
  clear H
  rintro _ _ v3 ⟨uf1, rfl, H⟩
  refine x_seq ?_
  refine x_region ?_
  refine x_val (.bool false) (by kernel_rfl) rfl (by kernel_rfl) ?_
  refine x_nil ?_
  refine x_then ?_
  refine x_seq ?_
  refine x_f (by kernel_rfl) ?_
  refine x_exit ?_
  refine x_then_exit ?_
  refine x_then_exit ?_
  refine x_blk_exit ?_
  refine x_then ?_
  refine x_seq ?_
  refine x_region ?_
  refine x_val (.slice none 0 0) (by kernel_rfl) rfl (by kernel_rfl) ?_
  refine x_val (.slice none 0 0) (by kernel_rfl) rfl (by kernel_rfl) ?_
  refine x_val (.bool true) (by kernel_rfl) rfl (by kernel_rfl) ?_
  refine x_nil ?_
  refine x_then ?_
  refine x_retc ?_
  refine x_blk_ret ?_
  refine x_then_ret ?_
  refine x_ret (.tuple #[.slice none 0 0, .bool true]) (by kernel_rfl) (by kernel_rfl) ?_
  replace H := H.pick [0, 1, 3] [.blk t #[svu, .int .i64 ((room : Nat) : Int), .func (.func 26) #[] #[]] 90, .row (svu) 92 2 (List.length (xorI v xs)) (List.flatMap pairLI (xorI v xs)), .row (.slice none 0 0) 77 2 (List.length xs) (List.flatMap pairLI xs)] (by decide) (by kernel_rfl)
  have hx0 : xs = [] := List.length_eq_zero_iff.1 h0
  subst hx0
  exact ⟨_, _, rfl, H⟩

set_option maxRecDepth 100000 in
set_option maxHeartbeats 4000000 in
theorem steps_non {t : Nat} {sv : Value} {xs : List PairI} {room : Nat} (o k v : Int) (hn : xs.length ≤ room) (h1 : 1 ≤ room) (h2 : room ≤ 4096) {lv : Value}  (k1 : decide (o = 1) = false) (k2 : decide (o = 2) = false) (k3 : decide (o = 3) = false) (w0 : World) (H0 : Hs (fps [.blk t #[sv, .int .i64 ((room : Nat) : Int), .func (.func 26) #[] #[]] 90, .row (sv) 92 2 (List.length xs) (List.flatMap pairLI xs), .row (lv) 77 2 (List.length xs) (List.flatMap pairLI xs)]) w0 w0 [.blk t #[sv, .int .i64 ((room : Nat) : Int), .func (.func 26) #[] #[]] 90, .row (sv) 92 2 (List.length xs) (List.flatMap pairLI xs), .row (lv) 77 2 (List.length xs) (List.flatMap pairLI xs)]) :
    Calls Try.prog 31 #[.pointer (some ⟨t, 0, none⟩), lv, .int .i64 ((room : Nat) : Int), .agg #[.int .i64 o, .int .i64 k, .int .i64 v]] w0 fun e w' => ∃ sv' u, e = .returned (.tuple #[u, .bool true]) ∧ Hs (fps [.blk t #[sv, .int .i64 ((room : Nat) : Int), .func (.func 26) #[] #[]] 90, .row (sv) 92 2 (List.length xs) (List.flatMap pairLI xs), .row (lv) 77 2 (List.length xs) (List.flatMap pairLI xs)]) w0 w' [.blk t #[sv', .int .i64 ((room : Nat) : Int), .func (.func 26) #[] #[]] 90, .row (sv') 92 2 (List.length xs) (List.flatMap pairLI xs), .row (u) 77 2 (List.length xs) (List.flatMap pairLI xs)] := by
  refine x_enter Try.func31 rfl #[.pointer (some ⟨t, 0, none⟩), lv, .int .i64 ((room : Nat) : Int), .agg #[.int .i64 o, .int .i64 k, .int .i64 v], undef, undef, undef, undef, undef, undef, undef, undef, undef, undef, undef, undef, undef, undef, undef, undef, undef, undef, undef, undef, undef, undef, undef, undef, undef, undef, undef, undef, undef, undef, undef, undef, undef, undef, undef, undef, undef, undef, undef, undef, undef, undef, undef, undef, undef, undef, undef, undef, undef, undef, undef, undef, undef, undef, undef, undef, undef, undef, undef, undef, undef, undef, undef, undef, undef, undef, undef, undef, undef, undef, undef, undef, undef, undef, undef, undef, undef, undef, undef, undef, undef, undef, undef, undef, undef, undef, undef, undef, undef, undef, undef, undef, undef, undef] (by kernel_rfl) ?_
  have H := H0
  refine x_seq ?_
  refine x_region ?_
  refine x_box H #[.int .i64 o, .int .i64 k, .int .i64 v] 69 (by kernel_rfl) rfl (by kernel_rfl) ?_
  clear H
  intro v1 g1 H
  refine x_val (.slice none 0 0) (by kernel_rfl) rfl (by kernel_rfl) ?_
  refine x_val (.bool false) (by kernel_rfl) rfl (by kernel_rfl) ?_
  refine x_nil ?_
  refine x_then ?_
  refine x_seq ?_
  refine x_seq ?_
  refine x_region ?_
  refine x_val (.pointer (some ⟨g1, 0, none⟩)) (by kernel_rfl) rfl (by kernel_rfl) ?_
  refine x_load1 H 0 g1 0 #[.int .i64 o, .int .i64 k, .int .i64 v] 69 (.int .i64 o) (by kernel_rfl) (by kernel_rfl) (by kernel_rfl) rfl (by kernel_rfl) ?_
  refine x_nil ?_
  refine x_then ?_
  refine x_block ?_
  refine x_seq ?_
  refine x_region ?_
  refine x_val (.bool (decide (o = 1))) (by kernel_rfl) rfl (by kernel_rfl) ?_
  refine x_val (.bool (decide (o = 1))) (by kernel_rfl) rfl (by kernel_rfl) ?_
  refine x_nil ?_
  refine x_then ?_
  rw [k1]
  refine x_f (by kernel_rfl) ?_
  refine x_seq ?_
  refine x_region ?_
  refine x_val (.bool (decide (o = 2))) (by kernel_rfl) rfl (by kernel_rfl) ?_
  refine x_val (.bool (decide (o = 2))) (by kernel_rfl) rfl (by kernel_rfl) ?_
  refine x_nil ?_
  refine x_then ?_
  rw [k2]
  refine x_f (by kernel_rfl) ?_
  refine x_seq ?_
  refine x_region ?_
  refine x_val (.bool (decide (o = 3))) (by kernel_rfl) rfl (by kernel_rfl) ?_
  refine x_val (.bool (decide (o = 3))) (by kernel_rfl) rfl (by kernel_rfl) ?_
  refine x_nil ?_
  refine x_then ?_
  rw [k3]
  refine x_f (by kernel_rfl) ?_
  refine x_skipc ?_
  refine x_blk ?_
  refine x_then ?_
  refine x_seq ?_
  refine x_region ?_
  refine x_val (lv) (by kernel_rfl) rfl (by kernel_rfl) ?_
  refine x_val (lv) (by kernel_rfl) rfl (by kernel_rfl) ?_
  refine x_val (.bool true) (by kernel_rfl) rfl (by kernel_rfl) ?_
  refine x_nil ?_
  refine x_then ?_
  refine x_retc ?_
  refine x_ret (.tuple #[lv, .bool true]) (by kernel_rfl) (by kernel_rfl) ?_
  replace H := H.pick [1, 2, 3] [.blk t #[sv, .int .i64 ((room : Nat) : Int), .func (.func 26) #[] #[]] 90, .row (sv) 92 2 (List.length xs) (List.flatMap pairLI xs), .row (lv) 77 2 (List.length xs) (List.flatMap pairLI xs)] (by decide) (by kernel_rfl)
  exact ⟨_, _, rfl, H⟩

theorem steps {t : Nat} {sv : Value} {xs : List PairI} {room : Nat} (o k v : Int) (hn : xs.length ≤ room) (h1 : 1 ≤ room) (h2 : room ≤ 4096) {lv : Value} (w0 : World) (H0 : Hs (fps [.blk t #[sv, .int .i64 ((room : Nat) : Int), .func (.func 26) #[] #[]] 90, .row (sv) 92 2 (List.length xs) (List.flatMap pairLI xs), .row (lv) 77 2 (List.length xs) (List.flatMap pairLI xs)]) w0 w0 [.blk t #[sv, .int .i64 ((room : Nat) : Int), .func (.func 26) #[] #[]] 90, .row (sv) 92 2 (List.length xs) (List.flatMap pairLI xs), .row (lv) 77 2 (List.length xs) (List.flatMap pairLI xs)]) : Calls Try.prog 31 #[.pointer (some ⟨t, 0, none⟩), lv, .int .i64 ((room : Nat) : Int), .agg #[.int .i64 o, .int .i64 k, .int .i64 v]] w0 fun e w' => ∃ sv' u, e = .returned (.tuple #[u, .bool true]) ∧ Hs (fps [.blk t #[sv, .int .i64 ((room : Nat) : Int), .func (.func 26) #[] #[]] 90, .row (sv) 92 2 (List.length xs) (List.flatMap pairLI xs), .row (lv) 77 2 (List.length xs) (List.flatMap pairLI xs)]) w0 w' [.blk t #[sv', .int .i64 ((room : Nat) : Int), .func (.func 26) #[] #[]] 90, .row (sv') 92 2 (List.length (stepI room xs o k v)) (List.flatMap pairLI (stepI room xs o k v)), .row (u) 77 2 (List.length (stepI room xs o k v)) (List.flatMap pairLI (stepI room xs o k v))] := by
  unfold stepI
  by_cases q1 : o = 1
  · rw [if_pos q1]; exact steps_put o k v hn h1 h2 (decide_eq_true q1) w0 H0
  rw [if_neg q1]
  by_cases q2 : o = 2
  · rw [if_pos q2]; unfold dropI
    by_cases hq : fkI xs k < xs.length
    · rw [if_pos hq]; exact steps_has o k v hn h1 h2 (decide_eq_true hq) (decide_eq_false q1) (decide_eq_true q2) w0 H0
    · rw [if_neg hq]; exact steps_hasnt o k v hn h1 h2 (decide_eq_false hq) (decide_eq_false q1) (decide_eq_true q2) w0 H0
  rw [if_neg q2]
  by_cases q3 : o = 3
  · rw [if_pos q3]
    rcases H0.rowForm 2 rfl with ⟨rfl, h0⟩ | ⟨g, cap, rfl, hc, _⟩
    · exact steps_xor_n o k v hn h1 h2 h0 (decide_eq_false q1) (decide_eq_false q2) (decide_eq_true q3) w0 H0
    · exact steps_xor_s o k v hn h1 h2 (decide_eq_false q1) (decide_eq_false q2) (decide_eq_true q3) w0 H0
  · rw [if_neg q3]; exact steps_non o k v hn h1 h2 (decide_eq_false q1) (decide_eq_false q2) (decide_eq_false q3) w0 H0

end Go.Proofs.Ytpeefnbcgilihaa
