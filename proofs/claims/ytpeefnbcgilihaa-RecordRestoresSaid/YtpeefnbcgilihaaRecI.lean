/- A log is played, told as a state, and restored. -/
import Derived.Test.YtpeefnbcgilihaaRecP
namespace Go.Proofs.Ytpeefnbcgilihaa
open Go Go.RowKit
set_option linter.unusedVariables false
set_option linter.unusedSimpArgs false

set_option maxRecDepth 100000 in
set_option maxHeartbeats 2000000 in
theorem Play_of {p : Nat} {sv : Value} {xs : List Rec} {room : Nat} {nx : Int} {lo : Bool} (ad : Option Addr) (nA cA : Nat) (l : List ROp) (hn : xs.length ≤ room) (h1 : 1 ≤ room) (hr : room ≤ 4096) (hx : 1 ≤ nx ∧ nx ≤ 1000000) (hA40 : nA ≤ 1000) (w0 : World) (hA : ROpsM (fps [.blk p #[sv, .int .i64 ((room : Nat) : Int), .int .i64 nx, .bool lo] 80, .row (sv) 29 5 (List.length xs) (List.flatMap recL xs)]) w0 ad nA l) (H0 : Hs (fps [.blk p #[sv, .int .i64 ((room : Nat) : Int), .int .i64 nx, .bool lo] 80, .row (sv) 29 5 (List.length xs) (List.flatMap recL xs)]) w0 w0 [.blk p #[sv, .int .i64 ((room : Nat) : Int), .int .i64 nx, .bool lo] 80, .row (sv) 29 5 (List.length xs) (List.flatMap recL xs)]) :
    Calls Try.prog 22 #[.pointer (some ⟨p, 0, none⟩), .slice ad nA cA] w0 fun e w' => ∃ sv', e = .returned (.tuple #[]) ∧ Hs (fps [.blk p #[sv, .int .i64 ((room : Nat) : Int), .int .i64 nx, .bool lo] 80, .row (sv) 29 5 (List.length xs) (List.flatMap recL xs)]) w0 w' [.blk p #[sv', .int .i64 ((room : Nat) : Int), .int .i64 ((playK room l nA (xs, nx, lo)).2.1), .bool ((playK room l nA (xs, nx, lo)).2.2)] 80, .row (sv') 29 5 (List.length ((playK room l nA (xs, nx, lo)).1)) (List.flatMap recL ((playK room l nA (xs, nx, lo)).1))] := by
  refine x_enter Try.func22 rfl #[.pointer (some ⟨p, 0, none⟩), .slice ad nA cA, undef, undef, undef, undef, undef, undef, undef, undef, undef, undef, undef, undef, undef, undef, undef, undef, undef, undef, undef, undef] (by kernel_rfl) ?_
  have H := H0
  refine x_seq ?_
  refine x_region ?_
  refine x_val (.slice ad nA cA) (by kernel_rfl) rfl (by kernel_rfl) ?_
  refine x_val (.int .i64 ((nA : Nat) : Int)) (by kernel_rfl) rfl (by kernel_rfl) ?_
  refine x_val (.int .i64 0) (by kernel_rfl) rfl (by kernel_rfl) ?_
  refine x_nil ?_
  refine x_then ?_
  refine x_block ?_
  refine x_loop (G := Nat × Value × List Rec × Int × Bool) (fun gh a w' => match gh with | (k, sv2, xs2, nx2, lo2) => ∃ uf1 : Nat → Value, a = { tmps := #[.pointer (some ⟨p, 0, none⟩), .slice ad nA cA, undef, undef, undef, (uf1 0), .slice ad nA cA, .int .i64 ((nA : Nat) : Int), .int .i64 ((k : Nat) : Int), (uf1 1), (uf1 2), (uf1 3), (uf1 4), (uf1 5), (uf1 6), (uf1 7), (uf1 8), (uf1 9), (uf1 10), (uf1 11), (uf1 12), (uf1 13)], defers := [] } ∧ Hs (fps [.blk p #[sv, .int .i64 ((room : Nat) : Int), .int .i64 nx, .bool lo] 80, .row (sv) 29 5 (List.length xs) (List.flatMap recL xs)]) w0 w' [.blk p #[sv2, .int .i64 ((room : Nat) : Int), .int .i64 nx2, .bool lo2] 80, .row (sv2) 29 5 (List.length xs2) (List.flatMap recL xs2)] ∧ (k ≤ nA) ∧ (xs2.length ≤ room) ∧ (1 ≤ nx2 ∧ nx2 ≤ nx + k) ∧ ((xs2, nx2, lo2) = (playK room l k (xs, nx, lo)))) (fun gh => match gh with | (k, sv2, xs2, nx2, lo2) => nA - k) (0, sv, xs, nx, lo) ⟨(nthV [undef, undef, undef, undef, undef, undef, undef, undef, undef, undef, undef, undef, undef, undef]), (by kernel_rfl), H, (Nat.zero_le _), hn, (by omega), rfl⟩ ?_
  clear H
  rintro ⟨k, sv2, xs2, nx2, lo2⟩ _ v1 ⟨uf1, rfl, H, r1, r2, r3, r4⟩
  refine x_seq ?_
  refine x_region ?_
  refine x_val (.bool (decide (((k : Nat) : Int) < ((nA : Nat) : Int)))) (by kernel_rfl) rfl (by kernel_rfl) ?_
  refine x_nil ?_
  refine x_then ?_
  refine x_seq ?_
  cases h1 : decide (((k : Nat) : Int) < ((nA : Nat) : Int))
  · skip
    have h1p := of_decide_eq_false h1
    refine x_f (by kernel_rfl) ?_
    refine x_exit ?_
    refine x_then_exit ?_
    refine x_then_exit ?_
    refine x_blk_exit ?_
    refine x_end (.tuple #[]) (by kernel_rfl) (by kernel_rfl) ?_
    have hk : k = nA := by omega
    rw [hk] at r4
    refine ⟨sv2, rfl, ?_⟩
    rw [← r4]
    exact H
  · skip
    have h1p := of_decide_eq_true h1
    refine x_t (by kernel_rfl) ?_
    refine x_skipc ?_
    refine x_then ?_
    refine x_seq ?_
    refine x_block ?_
    refine x_seq ?_
    refine x_region ?_
    obtain ⟨ga, oa, had, hcell⟩ := hA (by omega)
    refine x_ixO (t := 38) had k nA cA 43 7 (oa + k * 7) (by omega) (by omega) (by kernel_rfl) (by kernel_rfl) (by kernel_rfl) rfl (by kernel_rfl) ?_
    refine x_loadcn (t := 43) ga (oa + k * 7) [.int .i64 ((l.getD k (0, 0, 0, 0, 0, 0, 0)).1), .int .i64 ((l.getD k (0, 0, 0, 0, 0, 0, 0)).2.1), .int .i64 ((l.getD k (0, 0, 0, 0, 0, 0, 0)).2.2.1), .int .i64 ((l.getD k (0, 0, 0, 0, 0, 0, 0)).2.2.2.1), .int .i64 ((l.getD k (0, 0, 0, 0, 0, 0, 0)).2.2.2.2.1), .int .i64 ((l.getD k (0, 0, 0, 0, 0, 0, 0)).2.2.2.2.2.1), .int .i64 ((l.getD k (0, 0, 0, 0, 0, 0, 0)).2.2.2.2.2.2)] (hcell _ H.fr k (by omega)) (by kernel_rfl) rfl (by kernel_rfl) (by kernel_rfl) ?_
    refine x_box H #[.int .i64 0, .int .i64 0, .int .i64 0, .int .i64 0, .int .i64 0, .int .i64 0, .int .i64 0] 43 (by kernel_rfl) rfl (by kernel_rfl) ?_
    clear H
    intro v2 g1 H
    refine x_store (t := 43) (v := .agg #[.int .i64 ((l.getD k (0, 0, 0, 0, 0, 0, 0)).1), .int .i64 ((l.getD k (0, 0, 0, 0, 0, 0, 0)).2.1), .int .i64 ((l.getD k (0, 0, 0, 0, 0, 0, 0)).2.2.1), .int .i64 ((l.getD k (0, 0, 0, 0, 0, 0, 0)).2.2.2.1), .int .i64 ((l.getD k (0, 0, 0, 0, 0, 0, 0)).2.2.2.2.1), .int .i64 ((l.getD k (0, 0, 0, 0, 0, 0, 0)).2.2.2.2.2.1), .int .i64 ((l.getD k (0, 0, 0, 0, 0, 0, 0)).2.2.2.2.2.2)]) H 0 g1 0 #[.int .i64 0, .int .i64 0, .int .i64 0, .int .i64 0, .int .i64 0, .int .i64 0, .int .i64 0] #[.int .i64 ((l.getD k (0, 0, 0, 0, 0, 0, 0)).1), .int .i64 ((l.getD k (0, 0, 0, 0, 0, 0, 0)).2.1), .int .i64 ((l.getD k (0, 0, 0, 0, 0, 0, 0)).2.2.1), .int .i64 ((l.getD k (0, 0, 0, 0, 0, 0, 0)).2.2.2.1), .int .i64 ((l.getD k (0, 0, 0, 0, 0, 0, 0)).2.2.2.2.1), .int .i64 ((l.getD k (0, 0, 0, 0, 0, 0, 0)).2.2.2.2.2.1), .int .i64 ((l.getD k (0, 0, 0, 0, 0, 0, 0)).2.2.2.2.2.2)] 43 [.int .i64 ((l.getD k (0, 0, 0, 0, 0, 0, 0)).1), .int .i64 ((l.getD k (0, 0, 0, 0, 0, 0, 0)).2.1), .int .i64 ((l.getD k (0, 0, 0, 0, 0, 0, 0)).2.2.1), .int .i64 ((l.getD k (0, 0, 0, 0, 0, 0, 0)).2.2.2.1), .int .i64 ((l.getD k (0, 0, 0, 0, 0, 0, 0)).2.2.2.2.1), .int .i64 ((l.getD k (0, 0, 0, 0, 0, 0, 0)).2.2.2.2.2.1), .int .i64 ((l.getD k (0, 0, 0, 0, 0, 0, 0)).2.2.2.2.2.2)] [.blk g1 #[.int .i64 ((l.getD k (0, 0, 0, 0, 0, 0, 0)).1), .int .i64 ((l.getD k (0, 0, 0, 0, 0, 0, 0)).2.1), .int .i64 ((l.getD k (0, 0, 0, 0, 0, 0, 0)).2.2.1), .int .i64 ((l.getD k (0, 0, 0, 0, 0, 0, 0)).2.2.2.1), .int .i64 ((l.getD k (0, 0, 0, 0, 0, 0, 0)).2.2.2.2.1), .int .i64 ((l.getD k (0, 0, 0, 0, 0, 0, 0)).2.2.2.2.2.1), .int .i64 ((l.getD k (0, 0, 0, 0, 0, 0, 0)).2.2.2.2.2.2)] 43, .blk p #[sv2, .int .i64 ((room : Nat) : Int), .int .i64 nx2, .bool lo2] 80, .row (sv2) 29 5 (List.length xs2) (List.flatMap recL xs2)] (by kernel_rfl) rfl (by kernel_rfl) (by kernel_rfl) (by kernel_rfl) (by kernel_rfl) (by kernel_rfl) (by kernel_rfl) (by kernel_rfl) (by kernel_rfl) ?_
    clear H
    intro v3 H
    refine x_nil ?_
    refine x_then ?_
    refine x_seq ?_
    refine x_region ?_
    refine x_val (.pointer (some ⟨g1, 0, none⟩)) (by kernel_rfl) rfl (by kernel_rfl) ?_
    refine x_load1 H 0 g1 0 #[.int .i64 ((l.getD k (0, 0, 0, 0, 0, 0, 0)).1), .int .i64 ((l.getD k (0, 0, 0, 0, 0, 0, 0)).2.1), .int .i64 ((l.getD k (0, 0, 0, 0, 0, 0, 0)).2.2.1), .int .i64 ((l.getD k (0, 0, 0, 0, 0, 0, 0)).2.2.2.1), .int .i64 ((l.getD k (0, 0, 0, 0, 0, 0, 0)).2.2.2.2.1), .int .i64 ((l.getD k (0, 0, 0, 0, 0, 0, 0)).2.2.2.2.2.1), .int .i64 ((l.getD k (0, 0, 0, 0, 0, 0, 0)).2.2.2.2.2.2)] 43 (.int .i64 ((l.getD k (0, 0, 0, 0, 0, 0, 0)).1)) (by kernel_rfl) (by kernel_rfl) (by kernel_rfl) rfl (by kernel_rfl) ?_
    refine x_val (.bool (decide (((l.getD k (0, 0, 0, 0, 0, 0, 0)).1) = 2))) (by kernel_rfl) rfl (by kernel_rfl) ?_
    refine x_nil ?_
    refine x_then ?_
    cases h2 : decide (((l.getD k (0, 0, 0, 0, 0, 0, 0)).1) = 2)
    · skip
      have h2p := of_decide_eq_false h2
      refine x_f (by kernel_rfl) ?_
      refine x_region ?_
      refine x_val (.pointer (some ⟨p, 0, none⟩)) (by kernel_rfl) rfl (by kernel_rfl) ?_
      refine x_val (.pointer (some ⟨g1, 2, none⟩)) (by kernel_rfl) rfl (by kernel_rfl) ?_
      refine x_loadn (t := 29) H 0 g1 2 #[.int .i64 ((l.getD k (0, 0, 0, 0, 0, 0, 0)).1), .int .i64 ((l.getD k (0, 0, 0, 0, 0, 0, 0)).2.1), .int .i64 ((l.getD k (0, 0, 0, 0, 0, 0, 0)).2.2.1), .int .i64 ((l.getD k (0, 0, 0, 0, 0, 0, 0)).2.2.2.1), .int .i64 ((l.getD k (0, 0, 0, 0, 0, 0, 0)).2.2.2.2.1), .int .i64 ((l.getD k (0, 0, 0, 0, 0, 0, 0)).2.2.2.2.2.1), .int .i64 ((l.getD k (0, 0, 0, 0, 0, 0, 0)).2.2.2.2.2.2)] 43 [.int .i64 ((l.getD k (0, 0, 0, 0, 0, 0, 0)).2.2.1), .int .i64 ((l.getD k (0, 0, 0, 0, 0, 0, 0)).2.2.2.1), .int .i64 ((l.getD k (0, 0, 0, 0, 0, 0, 0)).2.2.2.2.1), .int .i64 ((l.getD k (0, 0, 0, 0, 0, 0, 0)).2.2.2.2.2.1), .int .i64 ((l.getD k (0, 0, 0, 0, 0, 0, 0)).2.2.2.2.2.2)] (by kernel_rfl) (by kernel_rfl) (by kernel_rfl) rfl (by kernel_rfl) (by kernel_rfl) ?_
      refine x_call (by kernel_rfl) rfl (by kernel_rfl) (Hs.useE (A := [.blk p #[sv2, .int .i64 ((room : Nat) : Int), .int .i64 nx2, .bool lo2] 80, .row (sv2) 29 5 (List.length xs2) (List.flatMap recL xs2)]) (R := [.blk g1 #[.int .i64 ((l.getD k (0, 0, 0, 0, 0, 0, 0)).1), .int .i64 ((l.getD k (0, 0, 0, 0, 0, 0, 0)).2.1), .int .i64 ((l.getD k (0, 0, 0, 0, 0, 0, 0)).2.2.1), .int .i64 ((l.getD k (0, 0, 0, 0, 0, 0, 0)).2.2.2.1), .int .i64 ((l.getD k (0, 0, 0, 0, 0, 0, 0)).2.2.2.2.1), .int .i64 ((l.getD k (0, 0, 0, 0, 0, 0, 0)).2.2.2.2.2.1), .int .i64 ((l.getD k (0, 0, 0, 0, 0, 0, 0)).2.2.2.2.2.2)] 43]) (fun sva => [.blk p #[sva, .int .i64 ((room : Nat) : Int), .int .i64 (nx2 + 1), .bool (lo2 || !(decide (List.length xs2 < room)))] 80, .row (sva) 29 5 (List.length ((addS room xs2 (nx2, ((l.getD k (0, 0, 0, 0, 0, 0, 0)).2.2.2.1), ((l.getD k (0, 0, 0, 0, 0, 0, 0)).2.2.2.2.1), ((l.getD k (0, 0, 0, 0, 0, 0, 0)).2.2.2.2.2.1), ((l.getD k (0, 0, 0, 0, 0, 0, 0)).2.2.2.2.2.2))).1)) (List.flatMap recL ((addS room xs2 (nx2, ((l.getD k (0, 0, 0, 0, 0, 0, 0)).2.2.2.1), ((l.getD k (0, 0, 0, 0, 0, 0, 0)).2.2.2.2.1), ((l.getD k (0, 0, 0, 0, 0, 0, 0)).2.2.2.2.2.1), ((l.getD k (0, 0, 0, 0, 0, 0, 0)).2.2.2.2.2.2))).1))]) (fun _ => .tuple #[.agg #[.int .i64 nx2, .int .i64 ((l.getD k (0, 0, 0, 0, 0, 0, 0)).2.2.2.1), .int .i64 ((l.getD k (0, 0, 0, 0, 0, 0, 0)).2.2.2.2.1), .int .i64 ((l.getD k (0, 0, 0, 0, 0, 0, 0)).2.2.2.2.2.1), .int .i64 ((l.getD k (0, 0, 0, 0, 0, 0, 0)).2.2.2.2.2.2)], .bool ((addS room xs2 (nx2, ((l.getD k (0, 0, 0, 0, 0, 0, 0)).2.2.2.1), ((l.getD k (0, 0, 0, 0, 0, 0, 0)).2.2.2.2.1), ((l.getD k (0, 0, 0, 0, 0, 0, 0)).2.2.2.2.2.1), ((l.getD k (0, 0, 0, 0, 0, 0, 0)).2.2.2.2.2.2))).2)]) (H.pick [1, 2, 0] _ (by decide) (by kernel_rfl)) (fun h => Add_any ((l.getD k (0, 0, 0, 0, 0, 0, 0)).2.2.1) ((l.getD k (0, 0, 0, 0, 0, 0, 0)).2.2.2.1) ((l.getD k (0, 0, 0, 0, 0, 0, 0)).2.2.2.2.1) ((l.getD k (0, 0, 0, 0, 0, 0, 0)).2.2.2.2.2.1) ((l.getD k (0, 0, 0, 0, 0, 0, 0)).2.2.2.2.2.2) (by first | omega | decide) (by omega) (by omega) (by omega) _ h)) ?_
      rintro _ v4 ⟨sva, rfl, H'⟩
      refine ⟨_, rfl, ?_⟩
      clear H
      have H : Hs (fps [.blk p #[sv, .int .i64 ((room : Nat) : Int), .int .i64 nx, .bool lo] 80, .row (sv) 29 5 (List.length xs) (List.flatMap recL xs)]) w0 _ [.blk p #[sva, .int .i64 ((room : Nat) : Int), .int .i64 (nx2 + 1), .bool (lo2 || !(decide (List.length xs2 < room)))] 80, .row (sva) 29 5 (List.length ((addS room xs2 (nx2, ((l.getD k (0, 0, 0, 0, 0, 0, 0)).2.2.2.1), ((l.getD k (0, 0, 0, 0, 0, 0, 0)).2.2.2.2.1), ((l.getD k (0, 0, 0, 0, 0, 0, 0)).2.2.2.2.2.1), ((l.getD k (0, 0, 0, 0, 0, 0, 0)).2.2.2.2.2.2))).1)) (List.flatMap recL ((addS room xs2 (nx2, ((l.getD k (0, 0, 0, 0, 0, 0, 0)).2.2.2.1), ((l.getD k (0, 0, 0, 0, 0, 0, 0)).2.2.2.2.1), ((l.getD k (0, 0, 0, 0, 0, 0, 0)).2.2.2.2.2.1), ((l.getD k (0, 0, 0, 0, 0, 0, 0)).2.2.2.2.2.2))).1)), .blk g1 #[.int .i64 ((l.getD k (0, 0, 0, 0, 0, 0, 0)).1), .int .i64 ((l.getD k (0, 0, 0, 0, 0, 0, 0)).2.1), .int .i64 ((l.getD k (0, 0, 0, 0, 0, 0, 0)).2.2.1), .int .i64 ((l.getD k (0, 0, 0, 0, 0, 0, 0)).2.2.2.1), .int .i64 ((l.getD k (0, 0, 0, 0, 0, 0, 0)).2.2.2.2.1), .int .i64 ((l.getD k (0, 0, 0, 0, 0, 0, 0)).2.2.2.2.2.1), .int .i64 ((l.getD k (0, 0, 0, 0, 0, 0, 0)).2.2.2.2.2.2)] 43] := H'
      clear H'
      refine x_nil ?_
      refine x_blk ?_
      refine x_then ?_
      refine x_region ?_
      refine x_ar (((k : Nat) : Int) + 1) ⟨by omega, by omega⟩ (by kernel_rfl) rfl (by kernel_rfl) ?_
      refine x_val (.int .i64 (((k : Nat) : Int) + 1)) (by kernel_rfl) rfl (by kernel_rfl) ?_
      refine x_nil ?_
      refine x_then ?_
      replace H := H.pick [0, 1] [.blk p #[sva, .int .i64 ((room : Nat) : Int), .int .i64 (nx2 + 1), .bool (lo2 || !(decide (List.length xs2 < room)))] 80, .row (sva) 29 5 (List.length ((addS room xs2 (nx2, ((l.getD k (0, 0, 0, 0, 0, 0, 0)).2.2.2.1), ((l.getD k (0, 0, 0, 0, 0, 0, 0)).2.2.2.2.1), ((l.getD k (0, 0, 0, 0, 0, 0, 0)).2.2.2.2.2.1), ((l.getD k (0, 0, 0, 0, 0, 0, 0)).2.2.2.2.2.2))).1)) (List.flatMap recL ((addS room xs2 (nx2, ((l.getD k (0, 0, 0, 0, 0, 0, 0)).2.2.2.1), ((l.getD k (0, 0, 0, 0, 0, 0, 0)).2.2.2.2.1), ((l.getD k (0, 0, 0, 0, 0, 0, 0)).2.2.2.2.2.1), ((l.getD k (0, 0, 0, 0, 0, 0, 0)).2.2.2.2.2.2))).1))] (by decide) (by kernel_rfl)
      exact ⟨(k + 1, sva, ((addS room xs2 (nx2, ((l.getD k (0, 0, 0, 0, 0, 0, 0)).2.2.2.1), ((l.getD k (0, 0, 0, 0, 0, 0, 0)).2.2.2.2.1), ((l.getD k (0, 0, 0, 0, 0, 0, 0)).2.2.2.2.2.1), ((l.getD k (0, 0, 0, 0, 0, 0, 0)).2.2.2.2.2.2))).1), (nx2 + 1), (lo2 || !(decide (List.length xs2 < room)))), (by dsimp only; omega), (nthV [.pointer (some ⟨g1, 0, none⟩), .bool true, .pointer (some ⟨ga, oa + k * 7, none⟩), .agg #[.int .i64 ((l.getD k (0, 0, 0, 0, 0, 0, 0)).1), .int .i64 ((l.getD k (0, 0, 0, 0, 0, 0, 0)).2.1), .int .i64 ((l.getD k (0, 0, 0, 0, 0, 0, 0)).2.2.1), .int .i64 ((l.getD k (0, 0, 0, 0, 0, 0, 0)).2.2.2.1), .int .i64 ((l.getD k (0, 0, 0, 0, 0, 0, 0)).2.2.2.2.1), .int .i64 ((l.getD k (0, 0, 0, 0, 0, 0, 0)).2.2.2.2.2.1), .int .i64 ((l.getD k (0, 0, 0, 0, 0, 0, 0)).2.2.2.2.2.2)], .pointer (some ⟨g1, 0, none⟩), .int .i64 ((l.getD k (0, 0, 0, 0, 0, 0, 0)).1), .bool false, (uf1 7), (uf1 8), .pointer (some ⟨p, 0, none⟩), .pointer (some ⟨g1, 2, none⟩), .agg #[.int .i64 ((l.getD k (0, 0, 0, 0, 0, 0, 0)).2.2.1), .int .i64 ((l.getD k (0, 0, 0, 0, 0, 0, 0)).2.2.2.1), .int .i64 ((l.getD k (0, 0, 0, 0, 0, 0, 0)).2.2.2.2.1), .int .i64 ((l.getD k (0, 0, 0, 0, 0, 0, 0)).2.2.2.2.2.1), .int .i64 ((l.getD k (0, 0, 0, 0, 0, 0, 0)).2.2.2.2.2.2)], .tuple #[.agg #[.int .i64 nx2, .int .i64 ((l.getD k (0, 0, 0, 0, 0, 0, 0)).2.2.2.1), .int .i64 ((l.getD k (0, 0, 0, 0, 0, 0, 0)).2.2.2.2.1), .int .i64 ((l.getD k (0, 0, 0, 0, 0, 0, 0)).2.2.2.2.2.1), .int .i64 ((l.getD k (0, 0, 0, 0, 0, 0, 0)).2.2.2.2.2.2)], .bool ((addS room xs2 (nx2, ((l.getD k (0, 0, 0, 0, 0, 0, 0)).2.2.2.1), ((l.getD k (0, 0, 0, 0, 0, 0, 0)).2.2.2.2.1), ((l.getD k (0, 0, 0, 0, 0, 0, 0)).2.2.2.2.2.1), ((l.getD k (0, 0, 0, 0, 0, 0, 0)).2.2.2.2.2.2))).2)], .int .i64 (((k : Nat) : Int) + 1)]), (by kernel_rfl), H, (by omega), (addS_len _ _ _ (by omega)), (by omega), (by show _ = stepP room (playK room l k (xs, nx, lo)) (l.getD k (0, 0, 0, 0, 0, 0, 0)); rw [← r4]; unfold stepP; rw [if_neg h2p])⟩
    · skip
      have h2p := of_decide_eq_true h2
      refine x_t (by kernel_rfl) ?_
      refine x_region ?_
      refine x_val (.pointer (some ⟨p, 0, none⟩)) (by kernel_rfl) rfl (by kernel_rfl) ?_
      refine x_call (by kernel_rfl) rfl (by kernel_rfl) (Hs.useE (A := [.blk p #[sv2, .int .i64 ((room : Nat) : Int), .int .i64 nx2, .bool lo2] 80, .row (sv2) 29 5 (List.length xs2) (List.flatMap recL xs2)]) (R := [.blk g1 #[.int .i64 ((l.getD k (0, 0, 0, 0, 0, 0, 0)).1), .int .i64 ((l.getD k (0, 0, 0, 0, 0, 0, 0)).2.1), .int .i64 ((l.getD k (0, 0, 0, 0, 0, 0, 0)).2.2.1), .int .i64 ((l.getD k (0, 0, 0, 0, 0, 0, 0)).2.2.2.1), .int .i64 ((l.getD k (0, 0, 0, 0, 0, 0, 0)).2.2.2.2.1), .int .i64 ((l.getD k (0, 0, 0, 0, 0, 0, 0)).2.2.2.2.2.1), .int .i64 ((l.getD k (0, 0, 0, 0, 0, 0, 0)).2.2.2.2.2.2)] 43]) (fun svc => [.blk p #[svc, .int .i64 ((room : Nat) : Int), .int .i64 nx2, .bool false] 80, .row (svc) 29 5 (List.length ([] : List Rec)) (List.flatMap recL ([] : List Rec))]) (fun _ => .int .i64 (((List.length xs2) : Nat) : Int)) (H.pick [1, 2, 0] _ (by decide) (by kernel_rfl)) (fun h => Clear_ex _ h)) ?_
      rintro _ v5 ⟨svc, rfl, H'⟩
      refine ⟨_, rfl, ?_⟩
      clear H
      have H : Hs (fps [.blk p #[sv, .int .i64 ((room : Nat) : Int), .int .i64 nx, .bool lo] 80, .row (sv) 29 5 (List.length xs) (List.flatMap recL xs)]) w0 _ [.blk p #[svc, .int .i64 ((room : Nat) : Int), .int .i64 nx2, .bool false] 80, .row (svc) 29 5 (List.length ([] : List Rec)) (List.flatMap recL ([] : List Rec)), .blk g1 #[.int .i64 ((l.getD k (0, 0, 0, 0, 0, 0, 0)).1), .int .i64 ((l.getD k (0, 0, 0, 0, 0, 0, 0)).2.1), .int .i64 ((l.getD k (0, 0, 0, 0, 0, 0, 0)).2.2.1), .int .i64 ((l.getD k (0, 0, 0, 0, 0, 0, 0)).2.2.2.1), .int .i64 ((l.getD k (0, 0, 0, 0, 0, 0, 0)).2.2.2.2.1), .int .i64 ((l.getD k (0, 0, 0, 0, 0, 0, 0)).2.2.2.2.2.1), .int .i64 ((l.getD k (0, 0, 0, 0, 0, 0, 0)).2.2.2.2.2.2)] 43] := H'
      clear H'
      refine x_nil ?_
      refine x_blk ?_
      refine x_then ?_
      refine x_region ?_
      refine x_ar (((k : Nat) : Int) + 1) ⟨by omega, by omega⟩ (by kernel_rfl) rfl (by kernel_rfl) ?_
      refine x_val (.int .i64 (((k : Nat) : Int) + 1)) (by kernel_rfl) rfl (by kernel_rfl) ?_
      refine x_nil ?_
      refine x_then ?_
      replace H := H.pick [0, 1] [.blk p #[svc, .int .i64 ((room : Nat) : Int), .int .i64 nx2, .bool false] 80, .row (svc) 29 5 (List.length ([] : List Rec)) (List.flatMap recL ([] : List Rec))] (by decide) (by kernel_rfl)
      exact ⟨(k + 1, svc, ([] : List Rec), nx2, false), (by dsimp only; omega), (nthV [.pointer (some ⟨g1, 0, none⟩), .bool true, .pointer (some ⟨ga, oa + k * 7, none⟩), .agg #[.int .i64 ((l.getD k (0, 0, 0, 0, 0, 0, 0)).1), .int .i64 ((l.getD k (0, 0, 0, 0, 0, 0, 0)).2.1), .int .i64 ((l.getD k (0, 0, 0, 0, 0, 0, 0)).2.2.1), .int .i64 ((l.getD k (0, 0, 0, 0, 0, 0, 0)).2.2.2.1), .int .i64 ((l.getD k (0, 0, 0, 0, 0, 0, 0)).2.2.2.2.1), .int .i64 ((l.getD k (0, 0, 0, 0, 0, 0, 0)).2.2.2.2.2.1), .int .i64 ((l.getD k (0, 0, 0, 0, 0, 0, 0)).2.2.2.2.2.2)], .pointer (some ⟨g1, 0, none⟩), .int .i64 ((l.getD k (0, 0, 0, 0, 0, 0, 0)).1), .bool true, .pointer (some ⟨p, 0, none⟩), .int .i64 (((List.length xs2) : Nat) : Int), (uf1 9), (uf1 10), (uf1 11), (uf1 12), .int .i64 (((k : Nat) : Int) + 1)]), (by kernel_rfl), H, (by omega), (Nat.zero_le _), (by omega), (by show _ = stepP room (playK room l k (xs, nx, lo)) (l.getD k (0, 0, 0, 0, 0, 0, 0)); rw [← r4]; unfold stepP; rw [if_pos h2p])⟩

set_option maxRecDepth 100000 in
set_option maxHeartbeats 2000000 in
theorem State_of {p : Nat} {sv : Value} {xs : List Rec} {room : Nat} {nx : Int} {lo : Bool} (hn : xs.length ≤ 4096) (w0 : World) (hR : Ro w0 [.blk p #[sv, .int .i64 ((room : Nat) : Int), .int .i64 nx, .bool lo] 80, .row (sv) 29 5 (List.length xs) (List.flatMap recL xs)]) :
    Calls Try.prog 23 #[.pointer (some ⟨p, 0, none⟩)] w0 fun e w' => ∃ sv', e = .returned (.agg #[sv', .int .i64 nx, .bool lo]) ∧ Hs [] w0 w' [.row (sv') 29 5 (List.length xs) (List.flatMap recL xs)] := by
  refine x_enter Try.func23 rfl #[.pointer (some ⟨p, 0, none⟩), undef, undef, undef, undef, undef, undef, undef, undef, undef, undef, undef, undef, undef, undef, undef, undef, undef] (by kernel_rfl) ?_
  have H := Hs.nil w0
  have R0 := hR
  refine x_seq ?_
  refine x_region ?_
  refine x_box H #[.slice none 0 0, .int .i64 0, .bool false] 50 (by kernel_rfl) rfl (by kernel_rfl) ?_
  clear H
  intro v1 g1 H
  refine x_nil ?_
  refine x_then ?_
  refine x_seq ?_
  refine x_region_s 16 (fun w' => Hs [] w0 w' []) (fun w' => Hs [] w0 w' [.blk g1 #[.slice none 0 0, .int .i64 0, .bool false] 50]) (by kernel_rfl) (by kernel_rfl) (by kernel_rfl) hsShut (fun _ h => h.pick [] _ (by decide) (by kernel_rfl)) H.drew ?_
  refine s_quiet 1 rfl (by kernel_rfl) (y_val (.pointer (some ⟨p, 0, none⟩)) (by kernel_rfl) (fun _ => by kernel_rfl)) ?_
  refine s_quiet 2 rfl (by kernel_rfl) (y_val (.pointer (some ⟨p, 0, none⟩)) (by kernel_rfl) (fun _ => by kernel_rfl)) ?_
  refine s_quiet 3 rfl (by kernel_rfl) (y_val (.pointer (some ⟨p, 0, none⟩)) (by kernel_rfl) (fun _ => by kernel_rfl)) ?_
  refine s_quiet 4 rfl (by kernel_rfl) (y_loadc p 0 (sv) (fun _ H => (H.ro R0).cell 0 rfl 0 rfl) (by kernel_rfl) (fun _ => by kernel_rfl)) ?_
  refine s_quiet 6 rfl (by kernel_rfl) (y_val (.pointer (some ⟨p, 0, none⟩)) (by kernel_rfl) (fun _ => by kernel_rfl)) ?_
  refine s_quiet 7 rfl (by kernel_rfl) (y_val (.pointer (some ⟨p, 0, none⟩)) (by kernel_rfl) (fun _ => by kernel_rfl)) ?_
  refine s_quiet 8 rfl (by kernel_rfl) (y_val (.pointer (some ⟨p, 2, none⟩)) (by kernel_rfl) (fun _ => by kernel_rfl)) ?_
  refine s_quiet 9 rfl (by kernel_rfl) (y_loadc p 2 (.int .i64 nx) (fun _ H => (H.ro R0).cell 0 rfl 2 rfl) (by kernel_rfl) (fun _ => by kernel_rfl)) ?_
  refine s_quiet 10 rfl (by kernel_rfl) (y_val (.pointer (some ⟨p, 0, none⟩)) (by kernel_rfl) (fun _ => by kernel_rfl)) ?_
  refine s_quiet 11 rfl (by kernel_rfl) (y_val (.pointer (some ⟨p, 0, none⟩)) (by kernel_rfl) (fun _ => by kernel_rfl)) ?_
  refine s_quiet 12 rfl (by kernel_rfl) (y_val (.pointer (some ⟨p, 3, none⟩)) (by kernel_rfl) (fun _ => by kernel_rfl)) ?_
  refine s_quiet 13 rfl (by kernel_rfl) (y_loadc p 3 (.bool lo) (fun _ H => (H.ro R0).cell 0 rfl 3 rfl) (by kernel_rfl) (fun _ => by kernel_rfl)) ?_
  refine s_one 0 rfl (by kernel_rfl) rfl ?_
  clear H
  intro v2 H
  refine x_box' H #[] 29 0 (by kernel_rfl) rfl (by kernel_rfl) ?_
  clear H
  intro v3 g2 H
  refine x_nil ?_
  refine x_then ?_
  refine ⟨fun w' => Hs [] w0 w' [], fun w' => Hs [] w0 w' [.blk g2 #[] 29, .blk g1 #[.slice none 0 0, .int .i64 0, .bool false] 50], H, hsShut, fun _ h => h.pick [] _ (by decide) (by kernel_rfl), fun _ h => h.pick [] _ (by decide) (by kernel_rfl), ?_⟩
  refine s_one 5 rfl (by kernel_rfl) rfl ?_
  clear H
  intro v4 H
  replace H : Hs [] w0 _ [.row (.slice (some ⟨g2, 0, none⟩) 0 0) 29 5 0 (List.flatMap recL ([] : List Rec)), .blk g1 #[.slice none 0 0, .int .i64 0, .bool false] 50] := H.row0 0 rfl
  refine x_appendSrc H 0 (.slice (some ⟨g2, 0, none⟩) 0 0) 22 29 5 40 0 (.agg #[.int .i64 0, .int .i64 0, .int .i64 0, .int .i64 0, .int .i64 0]) (List.flatMap recL ([] : List Rec)) (sv) (List.length xs) (List.flatMap recL xs) rfl (src_row (((H.ro R0) 1 _ rfl : Go.World.ownsRow _ 0 29 5 sv _ _))) (by kernel_rfl) (by kernel_rfl) (by kernel_rfl) (by decide) (oneCellFlat recOne _) (by unfold maxLen; omega) (by omega) (by kernel_rfl) rfl (by kernel_rfl) ?_
  clear H
  intro v5 vr8 H
  rw [show (List.flatMap recL ([] : List Rec)) ++ (List.flatMap recL xs) = (List.flatMap recL xs) from (by simp)] at H
  rw [show (0 + (List.length xs) : Nat) = (List.length xs) from (by simp)] at H
  replace H : Hs [] w0 v5 [.row (vr8) 29 5 (List.length xs) (List.flatMap recL xs), .blk g1 #[.slice none 0 0, .int .i64 0, .bool false] 50] := H
  rcases H.rowForm 0 rfl with ⟨rfl, h0⟩ | ⟨gr, cr, rfl, hcr, -⟩
  · skip
    refine x_nil ?_
    refine x_then ?_
    refine ⟨fun w' => Hs [] w0 w' [.row (.slice none 0 0) 29 5 (List.length xs) (List.flatMap recL xs)], fun w' => Hs [] w0 w' [.row (.slice none 0 0) 29 5 (List.length xs) (List.flatMap recL xs), .blk g1 #[.slice none 0 0, .int .i64 0, .bool false] 50], H, hsShut, fun _ h => h.pick [0] _ (by decide) (by kernel_rfl), fun _ h => h.pick [] _ (by decide) (by kernel_rfl), ?_⟩
    refine s_quiet 14 rfl (by kernel_rfl) (y_val (.agg #[.slice none 0 0, .int .i64 nx, .bool lo]) (by kernel_rfl) (fun _ => by kernel_rfl)) ?_
    refine s_one 15 rfl (by kernel_rfl) rfl ?_
    clear H
    intro v6 H
    refine x_store (t := 50) (v := .agg #[.slice none 0 0, .int .i64 nx, .bool lo]) H 1 g1 0 #[.slice none 0 0, .int .i64 0, .bool false] #[.slice none 0 0, .int .i64 nx, .bool lo] 50 [.slice none 0 0, .int .i64 nx, .bool lo] [.row (.slice none 0 0) 29 5 (List.length xs) (List.flatMap recL xs), .blk g1 #[.slice none 0 0, .int .i64 nx, .bool lo] 50] (by kernel_rfl) rfl (by kernel_rfl) (by kernel_rfl) (by kernel_rfl) (by kernel_rfl) (by kernel_rfl) (by kernel_rfl) (by kernel_rfl) (by kernel_rfl) ?_
    clear H
    intro v7 H
    refine x_nil ?_
    refine x_then ?_
    refine ⟨fun w' => Hs [] w0 w' [.row (.slice none 0 0) 29 5 (List.length xs) (List.flatMap recL xs), .blk g1 #[.slice none 0 0, .int .i64 nx, .bool lo] 50], fun w' => Hs [] w0 w' [.row (.slice none 0 0) 29 5 (List.length xs) (List.flatMap recL xs), .blk g1 #[.slice none 0 0, .int .i64 nx, .bool lo] 50], H, hsShut, fun _ h => h.pick [0, 1] _ (by decide) (by kernel_rfl), fun _ h => h.pick [0] _ (by decide) (by kernel_rfl), ?_⟩
    refine s_done (by kernel_rfl) ?_
    clear H
    intro v8 H
    refine x_then ?_
    refine x_retc ?_
    refine x_ret (.agg #[.slice none 0 0, .int .i64 nx, .bool lo]) (by kernel_rfl) (x_rescell H 1 g1 0 #[.slice none 0 0, .int .i64 nx, .bool lo] 50 [.slice none 0 0, .int .i64 nx, .bool lo] (fun x => x) (by kernel_rfl) (by kernel_rfl) (by kernel_rfl)) ?_
    exact ⟨_, rfl, H.pick [0] _ (by decide) (by kernel_rfl)⟩
  · skip
    refine x_nil ?_
    refine x_then ?_
    refine ⟨fun w' => Hs [] w0 w' [], fun w' => Hs [] w0 w' [.row (.slice (some ⟨gr, 0, none⟩) (List.length xs) cr) 29 5 (List.length xs) (List.flatMap recL xs), .blk g1 #[.slice none 0 0, .int .i64 0, .bool false] 50], H, hsShut, fun _ h => h.pick [] _ (by decide) (by kernel_rfl), fun _ h => h.pick [] _ (by decide) (by kernel_rfl), ?_⟩
    refine s_quiet 14 rfl (by kernel_rfl) (y_val (.agg #[.slice (some ⟨gr, 0, none⟩) (List.length xs) cr, .int .i64 nx, .bool lo]) (by kernel_rfl) (fun _ => by kernel_rfl)) ?_
    refine s_one 15 rfl (by kernel_rfl) rfl ?_
    clear H
    intro v9 H
    refine x_store (t := 50) (v := .agg #[.slice (some ⟨gr, 0, none⟩) (List.length xs) cr, .int .i64 nx, .bool lo]) H 1 g1 0 #[.slice none 0 0, .int .i64 0, .bool false] #[.slice (some ⟨gr, 0, none⟩) (List.length xs) cr, .int .i64 nx, .bool lo] 50 [.slice (some ⟨gr, 0, none⟩) (List.length xs) cr, .int .i64 nx, .bool lo] [.row (.slice (some ⟨gr, 0, none⟩) (List.length xs) cr) 29 5 (List.length xs) (List.flatMap recL xs), .blk g1 #[.slice (some ⟨gr, 0, none⟩) (List.length xs) cr, .int .i64 nx, .bool lo] 50] (by kernel_rfl) rfl (by kernel_rfl) (by kernel_rfl) (by kernel_rfl) (by kernel_rfl) (by kernel_rfl) (by kernel_rfl) (by kernel_rfl) (by kernel_rfl) ?_
    clear H
    intro v10 H
    refine x_nil ?_
    refine x_then ?_
    refine ⟨fun w' => Hs [] w0 w' [], fun w' => Hs [] w0 w' [.row (.slice (some ⟨gr, 0, none⟩) (List.length xs) cr) 29 5 (List.length xs) (List.flatMap recL xs), .blk g1 #[.slice (some ⟨gr, 0, none⟩) (List.length xs) cr, .int .i64 nx, .bool lo] 50], H, hsShut, fun _ h => h.pick [] _ (by decide) (by kernel_rfl), fun _ h => h.pick [] _ (by decide) (by kernel_rfl), ?_⟩
    refine s_done (by kernel_rfl) ?_
    clear H
    intro v11 H
    refine x_then ?_
    refine x_retc ?_
    refine x_ret (.agg #[.slice (some ⟨gr, 0, none⟩) (List.length xs) cr, .int .i64 nx, .bool lo]) (by kernel_rfl) (x_rescell H 1 g1 0 #[.slice (some ⟨gr, 0, none⟩) (List.length xs) cr, .int .i64 nx, .bool lo] 50 [.slice (some ⟨gr, 0, none⟩) (List.length xs) cr, .int .i64 nx, .bool lo] (fun x => x) (by kernel_rfl) (by kernel_rfl) (by kernel_rfl)) ?_
    exact ⟨_, rfl, H.pick [0] _ (by decide) (by kernel_rfl)⟩

set_option maxRecDepth 100000 in
set_option maxHeartbeats 2000000 in
theorem Restore_yes (room : Nat) (aS : Option Addr) (cS : Nat) (l : List Rec) (nx : Int) (lo : Bool) (h1 : 1 ≤ room) (h2 : room ≤ 256) (hok : (∀ i, i < l.length → lastS l i < (l.getD i (0, 0, 0, 0, 0)).1) ∧ l.length ≤ room ∧ lastS l l.length < nx) (w0 : World) (hV : RecsV w0 (.slice aS l.length cS) l.length l) :
    Calls Try.prog 21 #[.int .i64 ((room : Nat) : Int), .agg #[.slice aS (List.length l) cS, .int .i64 nx, .bool lo]] w0 fun e w' => ∃ p2 sv2, e = .returned (.tuple #[.pointer (some ⟨p2, 0, none⟩), .int .i64 0]) ∧ Hs [] w0 w' [.blk p2 #[sv2, .int .i64 ((room : Nat) : Int), .int .i64 nx, .bool lo] 80, .row (sv2) 29 5 (List.length l) (List.flatMap recL l)] := by
  refine x_enter Try.func21 rfl #[.int .i64 ((room : Nat) : Int), .agg #[.slice aS (List.length l) cS, .int .i64 nx, .bool lo], undef, undef, undef, undef, undef, undef, undef, undef, undef, undef, undef, undef, undef, undef, undef, undef, undef, undef, undef, undef, undef, undef, undef, undef, undef, undef, undef, undef, undef, undef, undef, undef, undef, undef, undef, undef, undef, undef, undef, undef, undef, undef, undef, undef, undef, undef, undef, undef, undef, undef, undef, undef, undef, undef, undef, undef, undef, undef, undef, undef, undef, undef, undef] (by kernel_rfl) ?_
  have H := Hs.nil w0
  have hA : RecsAt w0 aS l.length l := by obtain ⟨ad, c, e, _, hA⟩ := hV; cases e; exact hA
  refine x_seq ?_
  refine x_region ?_
  refine x_box H #[.slice aS (List.length l) cS, .int .i64 nx, .bool lo] 50 (by kernel_rfl) rfl (by kernel_rfl) ?_
  clear H
  intro v1 g1 H
  refine x_val (.pointer none) (by kernel_rfl) rfl (by kernel_rfl) ?_
  refine x_val (.int .i64 0) (by kernel_rfl) rfl (by kernel_rfl) ?_
  refine x_nil ?_
  refine x_then ?_
  refine x_seq ?_
  refine x_region ?_
  refine x_val (.int .i64 ((room : Nat) : Int)) (by kernel_rfl) rfl (by kernel_rfl) ?_
  refine x_call (by kernel_rfl) rfl (by kernel_rfl) (RNew_yes room (by omega) (by omega) _) ?_
  rintro _ v2 ⟨p, rfl, hN'⟩
  refine ⟨_, rfl, ?_⟩
  replace H := H.more hN'
  clear hN'
  replace H : Hs [] w0 _ [.blk p #[.slice none 0 0, .int .i64 ((room : Nat) : Int), .int .i64 1, .bool false] 80, .row (.slice none 0 0) 29 5 (List.length ([] : List Rec)) (List.flatMap recL ([] : List Rec)), .blk g1 #[.slice aS (List.length l) cS, .int .i64 nx, .bool lo] 50] := H
  refine x_val (.tuple #[.pointer (some ⟨p, 0, none⟩), .int .i64 0]) (by kernel_rfl) rfl (by kernel_rfl) ?_
  refine x_val (.pointer (some ⟨p, 0, none⟩)) (by kernel_rfl) rfl (by kernel_rfl) ?_
  refine x_val (.int .i64 0) (by kernel_rfl) rfl (by kernel_rfl) ?_
  refine x_val (.pointer (some ⟨p, 0, none⟩)) (by kernel_rfl) rfl (by kernel_rfl) ?_
  refine x_val (.int .i64 0) (by kernel_rfl) rfl (by kernel_rfl) ?_
  refine x_nil ?_
  refine x_then ?_
  refine x_seq ?_
  refine x_seq ?_
  refine x_region ?_
  refine x_val (.int .i64 0) (by kernel_rfl) rfl (by kernel_rfl) ?_
  refine x_val (.bool false) (by kernel_rfl) rfl (by kernel_rfl) ?_
  refine x_nil ?_
  refine x_then ?_
  refine x_f (by kernel_rfl) ?_
  refine x_skipc ?_
  refine x_then ?_
  refine x_seq ?_
  refine x_region ?_
  refine x_val (.int .i64 0) (by kernel_rfl) rfl (by kernel_rfl) ?_
  refine x_nil ?_
  refine x_then ?_
  refine x_seq ?_
  refine x_seq ?_
  refine x_region ?_
  refine x_val (.pointer (some ⟨g1, 0, none⟩)) (by kernel_rfl) rfl (by kernel_rfl) ?_
  refine x_load1 H 2 g1 0 #[.slice aS (List.length l) cS, .int .i64 nx, .bool lo] 50 (.slice aS (List.length l) cS) (by kernel_rfl) (by kernel_rfl) (by kernel_rfl) rfl (by kernel_rfl) ?_
  refine x_val (.int .i64 (((List.length l) : Nat) : Int)) (by kernel_rfl) rfl (by kernel_rfl) ?_
  refine x_val (.int .i64 0) (by kernel_rfl) rfl (by kernel_rfl) ?_
  refine x_nil ?_
  refine x_then ?_
  refine x_block ?_
  refine x_loop (G := Nat) (fun (k : Nat) a w' => ∃ uf1 : Nat → Value, a = { tmps := #[.int .i64 ((room : Nat) : Int), .agg #[.slice aS (List.length l) cS, .int .i64 nx, .bool lo], undef, .pointer (some ⟨g1, 0, none⟩), (uf1 0), (uf1 1), .pointer (some ⟨p, 0, none⟩), .int .i64 0, .int .i64 (lastS l k), undef, (uf1 2), .tuple #[.pointer (some ⟨p, 0, none⟩), .int .i64 0], .int .i64 ((room : Nat) : Int), .tuple #[.pointer (some ⟨p, 0, none⟩), .int .i64 0], .pointer (some ⟨p, 0, none⟩), .int .i64 0, .int .i64 0, .bool false, undef, .pointer (some ⟨g1, 0, none⟩), .slice aS (List.length l) cS, .int .i64 (((List.length l) : Nat) : Int), .int .i64 ((k : Nat) : Int), (uf1 3), (uf1 4), (uf1 5), (uf1 6), (uf1 7), (uf1 8), (uf1 9), (uf1 10), (uf1 11), (uf1 12), undef, undef, undef, undef, undef, undef, undef, undef, undef, undef, undef, undef, undef, undef, undef, undef, undef, undef, undef, undef, undef, undef, undef, undef, undef, undef, undef, undef, undef, undef, undef, undef], defers := [] } ∧ Hs [] w0 w' [.blk p #[.slice none 0 0, .int .i64 ((room : Nat) : Int), .int .i64 1, .bool false] 80, .row (.slice none 0 0) 29 5 (List.length ([] : List Rec)) (List.flatMap recL ([] : List Rec)), .blk g1 #[.slice aS (List.length l) cS, .int .i64 nx, .bool lo] 50] ∧ (k ≤ l.length) ∧ (∀ i, i < k → lastS l i < (l.getD i (0, 0, 0, 0, 0)).1)) (fun (k : Nat) => l.length - k) 0 ⟨(nthV [.pointer none, .int .i64 0, undef, undef, undef, undef, undef, undef, undef, undef, undef, undef, undef]), (by kernel_rfl), H, (Nat.zero_le _), (fun i hi => absurd hi (Nat.not_lt_zero _))⟩ ?_
  clear H
  rintro k _ v3 ⟨uf1, rfl, H, r1, r2⟩
  refine x_seq ?_
  refine x_region ?_
  refine x_val (.bool (decide (((k : Nat) : Int) < (((List.length l) : Nat) : Int)))) (by kernel_rfl) rfl (by kernel_rfl) ?_
  refine x_nil ?_
  refine x_then ?_
  refine x_seq ?_
  cases h1 : decide (((k : Nat) : Int) < (((List.length l) : Nat) : Int))
  · skip
    have h1p := of_decide_eq_false h1
    refine x_f (by kernel_rfl) ?_
    refine x_exit ?_
    refine x_then_exit ?_
    refine x_then_exit ?_
    refine x_blk_exit ?_
    refine x_then ?_
    refine x_seq ?_
    refine x_seq ?_
    refine x_region ?_
    refine x_val (.pointer (some ⟨g1, 0, none⟩)) (by kernel_rfl) rfl (by kernel_rfl) ?_
    refine x_load1 H 2 g1 0 #[.slice aS (List.length l) cS, .int .i64 nx, .bool lo] 50 (.slice aS (List.length l) cS) (by kernel_rfl) (by kernel_rfl) (by kernel_rfl) rfl (by kernel_rfl) ?_
    refine x_val (.int .i64 (((List.length l) : Nat) : Int)) (by kernel_rfl) rfl (by kernel_rfl) ?_
    refine x_val (.int .i64 ((room : Nat) : Int)) (by kernel_rfl) rfl (by kernel_rfl) ?_
    refine x_val (.bool (decide (((room : Nat) : Int) < (((List.length l) : Nat) : Int)))) (by kernel_rfl) rfl (by kernel_rfl) ?_
    refine x_val (.bool (decide (((room : Nat) : Int) < (((List.length l) : Nat) : Int)))) (by kernel_rfl) rfl (by kernel_rfl) ?_
    cases h2 : decide (((room : Nat) : Int) < (((List.length l) : Nat) : Int))
    · skip
      have h2p := of_decide_eq_false h2
      refine x_val (.pointer (some ⟨g1, 1, none⟩)) (by kernel_rfl) rfl (by kernel_rfl) ?_
      refine x_load1 H 2 g1 1 #[.slice aS (List.length l) cS, .int .i64 nx, .bool lo] 50 (.int .i64 nx) (by kernel_rfl) (by kernel_rfl) (by kernel_rfl) rfl (by kernel_rfl) ?_
      refine x_val (.int .i64 (lastS l k)) (by kernel_rfl) rfl (by kernel_rfl) ?_
      refine x_val (.bool (decide (nx ≤ (lastS l k)))) (by kernel_rfl) rfl (by kernel_rfl) ?_
      refine x_val (.bool (decide (nx ≤ (lastS l k)))) (by kernel_rfl) rfl (by kernel_rfl) ?_
      refine x_nil ?_
      refine x_then ?_
      cases h3 : decide (nx ≤ (lastS l k))
      · skip
        have h3p := of_decide_eq_false h3
        refine x_f (by kernel_rfl) ?_
        refine x_skipc ?_
        refine x_then ?_
        refine x_seq ?_
        refine x_region_s 11 (fun w' => Hs [] w0 w' [.blk g1 #[.slice aS (List.length l) cS, .int .i64 nx, .bool lo] 50]) (fun w' => Hs [] w0 w' [.blk p #[.slice none 0 0, .int .i64 ((room : Nat) : Int), .int .i64 1, .bool false] 80, .row (.slice none 0 0) 29 5 (List.length ([] : List Rec)) (List.flatMap recL ([] : List Rec)), .blk g1 #[.slice aS (List.length l) cS, .int .i64 nx, .bool lo] 50]) (by kernel_rfl) (by kernel_rfl) (by kernel_rfl) hsShut (fun _ h => h.pick [2] _ (by decide) (by kernel_rfl)) H.drew ?_
        refine s_quiet 0 rfl (by kernel_rfl) (y_val (.pointer (some ⟨p, 0, none⟩)) (by kernel_rfl) (fun _ => by kernel_rfl)) ?_
        refine s_quiet 1 rfl (by kernel_rfl) (y_val (.pointer (some ⟨p, 0, none⟩)) (by kernel_rfl) (fun _ => by kernel_rfl)) ?_
        refine s_quiet 2 rfl (by kernel_rfl) (y_val (.pointer (some ⟨p, 0, none⟩)) (by kernel_rfl) (fun _ => by kernel_rfl)) ?_
        refine s_quiet 3 rfl (by kernel_rfl) (y_val (.pointer (some ⟨p, 0, none⟩)) (by kernel_rfl) (fun _ => by kernel_rfl)) ?_
        refine s_quiet 5 rfl (by kernel_rfl) (y_val (.pointer (some ⟨g1, 0, none⟩)) (by kernel_rfl) (fun _ => by kernel_rfl)) ?_
        refine s_quiet 6 rfl (by kernel_rfl) (y_load1 0 g1 0 #[.slice aS (List.length l) cS, .int .i64 nx, .bool lo] 50 (.slice aS (List.length l) cS) (by kernel_rfl) (by kernel_rfl) (by kernel_rfl) (fun _ => by kernel_rfl)) ?_
        refine s_one 4 rfl (by kernel_rfl) rfl ?_
        clear H
        intro v4 H
        refine x_load1 H 0 p 0 #[.slice none 0 0, .int .i64 ((room : Nat) : Int), .int .i64 1, .bool false] 80 (.slice none 0 0) (by kernel_rfl) (by kernel_rfl) (by kernel_rfl) rfl (by kernel_rfl) ?_
        refine x_nil ?_
        refine x_then ?_
        refine ⟨fun w' => Hs [] w0 w' [.blk g1 #[.slice aS (List.length l) cS, .int .i64 nx, .bool lo] 50], fun w' => Hs [] w0 w' [.blk p #[.slice none 0 0, .int .i64 ((room : Nat) : Int), .int .i64 1, .bool false] 80, .row (.slice none 0 0) 29 5 (List.length ([] : List Rec)) (List.flatMap recL ([] : List Rec)), .blk g1 #[.slice aS (List.length l) cS, .int .i64 nx, .bool lo] 50], H, hsShut, fun _ h => h.pick [2] _ (by decide) (by kernel_rfl), fun _ h => h.pick [0] _ (by decide) (by kernel_rfl), ?_⟩
        refine s_one 7 rfl (by kernel_rfl) rfl ?_
        clear H
        intro v5 H
        refine x_appendSrc H 1 (.slice none 0 0) 22 29 5 40 (List.length ([] : List Rec)) (.agg #[.int .i64 0, .int .i64 0, .int .i64 0, .int .i64 0, .int .i64 0]) (List.flatMap recL ([] : List Rec)) (.slice aS (List.length l) cS) (List.length l) (List.flatMap recL l) rfl (hV.src H.below) (by kernel_rfl) (by kernel_rfl) (by kernel_rfl) (by decide) (oneCellFlat recOne _) (by simp; unfold maxLen; omega) (by simp; omega) (by kernel_rfl) rfl (by kernel_rfl) ?_
        clear H
        intro v6 vr51 H
        rw [show (List.flatMap recL ([] : List Rec)) ++ (List.flatMap recL l) = (List.flatMap recL l) from (by simp)] at H
        rw [show ((List.length ([] : List Rec)) + (List.length l) : Nat) = (List.length l) from (by simp)] at H
        replace H : Hs [] w0 v6 [.blk p #[.slice none 0 0, .int .i64 ((room : Nat) : Int), .int .i64 1, .bool false] 80, .row (vr51) 29 5 (List.length l) (List.flatMap recL l), .blk g1 #[.slice aS (List.length l) cS, .int .i64 nx, .bool lo] 50] := H
        refine x_nil ?_
        refine x_then ?_
        refine ⟨fun w' => Hs [] w0 w' [.row (vr51) 29 5 (List.length l) (List.flatMap recL l), .blk g1 #[.slice aS (List.length l) cS, .int .i64 nx, .bool lo] 50], fun w' => Hs [] w0 w' [.blk p #[.slice none 0 0, .int .i64 ((room : Nat) : Int), .int .i64 1, .bool false] 80, .row (vr51) 29 5 (List.length l) (List.flatMap recL l), .blk g1 #[.slice aS (List.length l) cS, .int .i64 nx, .bool lo] 50], H, hsShut, fun _ h => h.pick [1, 2] _ (by decide) (by kernel_rfl), fun _ h => h.pick [1] _ (by decide) (by kernel_rfl), ?_⟩
        refine s_quiet 8 rfl (by kernel_rfl) (y_val (.pointer (some ⟨p, 0, none⟩)) (by kernel_rfl) (fun _ => by kernel_rfl)) ?_
        refine s_quiet 9 rfl (by kernel_rfl) (y_val (.pointer (some ⟨p, 0, none⟩)) (by kernel_rfl) (fun _ => by kernel_rfl)) ?_
        refine s_one 10 rfl (by kernel_rfl) rfl ?_
        clear H
        intro v7 H
        have h4o := H.rowOne 1 rfl
        have h4c := H.rowCel 1 rfl
        refine x_store (t := 22) (v := vr51) H 0 p 0 #[.slice none 0 0, .int .i64 ((room : Nat) : Int), .int .i64 1, .bool false] #[vr51, .int .i64 ((room : Nat) : Int), .int .i64 1, .bool false] 80 [vr51] [.blk p #[vr51, .int .i64 ((room : Nat) : Int), .int .i64 1, .bool false] 80, .row (vr51) 29 5 (List.length l) (List.flatMap recL l), .blk g1 #[.slice aS (List.length l) cS, .int .i64 nx, .bool lo] 50] (by kernel_rfl) rfl (by kernel_rfl) (by simp only [List.all_cons, List.all_nil, h4o, Bool.and_true, Bool.true_and] <;> rfl) (by kernel_rfl) (by kernel_rfl) (by kernel_rfl) (by kernel_rfl) (by kernel_rfl) (by rw [h4c]) ?_
        clear H
        intro v8 H
        refine x_nil ?_
        refine x_then ?_
        refine ⟨fun w' => Hs [] w0 w' [.blk p #[vr51, .int .i64 ((room : Nat) : Int), .int .i64 1, .bool false] 80, .row (vr51) 29 5 (List.length l) (List.flatMap recL l), .blk g1 #[.slice aS (List.length l) cS, .int .i64 nx, .bool lo] 50], fun w' => Hs [] w0 w' [.blk p #[vr51, .int .i64 ((room : Nat) : Int), .int .i64 1, .bool false] 80, .row (vr51) 29 5 (List.length l) (List.flatMap recL l), .blk g1 #[.slice aS (List.length l) cS, .int .i64 nx, .bool lo] 50], H, hsShut, fun _ h => h.pick [0, 1, 2] _ (by decide) (by kernel_rfl), fun _ h => h.pick [1, 2] _ (by decide) (by kernel_rfl), ?_⟩
        refine s_done (by kernel_rfl) ?_
        clear H
        intro v9 H
        refine x_then ?_
        refine x_seq ?_
        refine x_region_s 12 (fun w' => Hs [] w0 w' [.row (vr51) 29 5 (List.length l) (List.flatMap recL l), .blk g1 #[.slice aS (List.length l) cS, .int .i64 nx, .bool lo] 50]) (fun w' => Hs [] w0 w' [.blk p #[vr51, .int .i64 ((room : Nat) : Int), .int .i64 1, .bool false] 80, .row (vr51) 29 5 (List.length l) (List.flatMap recL l), .blk g1 #[.slice aS (List.length l) cS, .int .i64 nx, .bool lo] 50]) (by kernel_rfl) (by kernel_rfl) (by kernel_rfl) hsShut (fun _ h => h.pick [1, 2] _ (by decide) (by kernel_rfl)) H.drew ?_
        refine s_quiet 0 rfl (by kernel_rfl) (y_val (.pointer (some ⟨p, 0, none⟩)) (by kernel_rfl) (fun _ => by kernel_rfl)) ?_
        refine s_quiet 1 rfl (by kernel_rfl) (y_val (.pointer (some ⟨p, 0, none⟩)) (by kernel_rfl) (fun _ => by kernel_rfl)) ?_
        refine s_quiet 2 rfl (by kernel_rfl) (y_val (.pointer (some ⟨g1, 1, none⟩)) (by kernel_rfl) (fun _ => by kernel_rfl)) ?_
        refine s_quiet 3 rfl (by kernel_rfl) (y_load1 1 g1 1 #[.slice aS (List.length l) cS, .int .i64 nx, .bool lo] 50 (.int .i64 nx) (by kernel_rfl) (by kernel_rfl) (by kernel_rfl) (fun _ => by kernel_rfl)) ?_
        refine s_quiet 4 rfl (by kernel_rfl) (y_val (.pointer (some ⟨g1, 2, none⟩)) (by kernel_rfl) (fun _ => by kernel_rfl)) ?_
        refine s_quiet 5 rfl (by kernel_rfl) (y_load1 1 g1 2 #[.slice aS (List.length l) cS, .int .i64 nx, .bool lo] 50 (.bool lo) (by kernel_rfl) (by kernel_rfl) (by kernel_rfl) (fun _ => by kernel_rfl)) ?_
        refine s_quiet 6 rfl (by kernel_rfl) (y_val (.pointer (some ⟨p, 0, none⟩)) (by kernel_rfl) (fun _ => by kernel_rfl)) ?_
        refine s_quiet 7 rfl (by kernel_rfl) (y_val (.pointer (some ⟨p, 2, none⟩)) (by kernel_rfl) (fun _ => by kernel_rfl)) ?_
        refine s_one 8 rfl (by kernel_rfl) rfl ?_
        clear H
        intro v10 H
        refine x_store (t := 3) (v := .int .i64 nx) H 0 p 2 #[vr51, .int .i64 ((room : Nat) : Int), .int .i64 1, .bool false] #[vr51, .int .i64 ((room : Nat) : Int), .int .i64 nx, .bool false] 80 [.int .i64 nx] [.blk p #[vr51, .int .i64 ((room : Nat) : Int), .int .i64 nx, .bool false] 80, .row (vr51) 29 5 (List.length l) (List.flatMap recL l), .blk g1 #[.slice aS (List.length l) cS, .int .i64 nx, .bool lo] 50] (by kernel_rfl) rfl (by kernel_rfl) (by kernel_rfl) (by kernel_rfl) (by kernel_rfl) (by kernel_rfl) (by kernel_rfl) (by kernel_rfl) (by kernel_rfl) ?_
        clear H
        intro v11 H
        refine x_nil ?_
        refine x_then ?_
        refine ⟨fun w' => Hs [] w0 w' [.row (vr51) 29 5 (List.length l) (List.flatMap recL l), .blk g1 #[.slice aS (List.length l) cS, .int .i64 nx, .bool lo] 50], fun w' => Hs [] w0 w' [.blk p #[vr51, .int .i64 ((room : Nat) : Int), .int .i64 nx, .bool false] 80, .row (vr51) 29 5 (List.length l) (List.flatMap recL l), .blk g1 #[.slice aS (List.length l) cS, .int .i64 nx, .bool lo] 50], H, hsShut, fun _ h => h.pick [1, 2] _ (by decide) (by kernel_rfl), fun _ h => h.pick [0, 1] _ (by decide) (by kernel_rfl), ?_⟩
        refine s_quiet 9 rfl (by kernel_rfl) (y_val (.pointer (some ⟨p, 0, none⟩)) (by kernel_rfl) (fun _ => by kernel_rfl)) ?_
        refine s_quiet 10 rfl (by kernel_rfl) (y_val (.pointer (some ⟨p, 3, none⟩)) (by kernel_rfl) (fun _ => by kernel_rfl)) ?_
        refine s_one 11 rfl (by kernel_rfl) rfl ?_
        clear H
        intro v12 H
        refine x_store (t := 4) (v := .bool lo) H 0 p 3 #[vr51, .int .i64 ((room : Nat) : Int), .int .i64 nx, .bool false] #[vr51, .int .i64 ((room : Nat) : Int), .int .i64 nx, .bool lo] 80 [.bool lo] [.blk p #[vr51, .int .i64 ((room : Nat) : Int), .int .i64 nx, .bool lo] 80, .row (vr51) 29 5 (List.length l) (List.flatMap recL l), .blk g1 #[.slice aS (List.length l) cS, .int .i64 nx, .bool lo] 50] (by kernel_rfl) rfl (by kernel_rfl) (by kernel_rfl) (by kernel_rfl) (by kernel_rfl) (by kernel_rfl) (by kernel_rfl) (by kernel_rfl) (by kernel_rfl) ?_
        clear H
        intro v13 H
        refine x_nil ?_
        refine x_then ?_
        refine ⟨fun w' => Hs [] w0 w' [.blk p #[vr51, .int .i64 ((room : Nat) : Int), .int .i64 nx, .bool lo] 80, .row (vr51) 29 5 (List.length l) (List.flatMap recL l), .blk g1 #[.slice aS (List.length l) cS, .int .i64 nx, .bool lo] 50], fun w' => Hs [] w0 w' [.blk p #[vr51, .int .i64 ((room : Nat) : Int), .int .i64 nx, .bool lo] 80, .row (vr51) 29 5 (List.length l) (List.flatMap recL l), .blk g1 #[.slice aS (List.length l) cS, .int .i64 nx, .bool lo] 50], H, hsShut, fun _ h => h.pick [0, 1, 2] _ (by decide) (by kernel_rfl), fun _ h => h.pick [1, 2] _ (by decide) (by kernel_rfl), ?_⟩
        refine s_done (by kernel_rfl) ?_
        clear H
        intro v14 H
        refine x_frame' { tmps := #[.int .i64 ((room : Nat) : Int), .agg #[.slice aS (List.length l) cS, .int .i64 nx, .bool lo], undef, .pointer (some ⟨g1, 0, none⟩), (uf1 0), (uf1 1), .pointer (some ⟨p, 0, none⟩), .int .i64 0, .int .i64 (lastS l k), undef, (uf1 2), .tuple #[.pointer (some ⟨p, 0, none⟩), .int .i64 0], .int .i64 ((room : Nat) : Int), .tuple #[.pointer (some ⟨p, 0, none⟩), .int .i64 0], .pointer (some ⟨p, 0, none⟩), .int .i64 0, .int .i64 0, .bool false, undef, .pointer (some ⟨g1, 0, none⟩), .slice aS (List.length l) cS, .int .i64 (((List.length l) : Nat) : Int), .int .i64 ((k : Nat) : Int), .bool false, (uf1 4), (uf1 5), (uf1 6), (uf1 7), (uf1 8), (uf1 9), (uf1 10), (uf1 11), (uf1 12), .pointer (some ⟨g1, 0, none⟩), .slice aS (List.length l) cS, .int .i64 (((List.length l) : Nat) : Int), .int .i64 ((room : Nat) : Int), .bool false, .bool false, .pointer (some ⟨g1, 1, none⟩), .int .i64 nx, .int .i64 (lastS l k), .bool false, .bool false, .pointer (some ⟨p, 0, none⟩), .pointer (some ⟨p, 0, none⟩), .pointer (some ⟨p, 0, none⟩), .pointer (some ⟨p, 0, none⟩), .slice none 0 0, .pointer (some ⟨g1, 0, none⟩), .slice aS (List.length l) cS, vr51, .pointer (some ⟨p, 0, none⟩), .pointer (some ⟨p, 0, none⟩), .pointer (some ⟨p, 0, none⟩), .pointer (some ⟨p, 0, none⟩), .pointer (some ⟨g1, 1, none⟩), .int .i64 nx, .pointer (some ⟨g1, 2, none⟩), .bool lo, .pointer (some ⟨p, 0, none⟩), .pointer (some ⟨p, 2, none⟩), .pointer (some ⟨p, 0, none⟩), .pointer (some ⟨p, 3, none⟩), undef], defers := [] } (by kernel_rfl) ?_
        refine x_then ?_
        refine x_seq ?_
        refine x_region ?_
        refine x_val (.pointer (some ⟨p, 0, none⟩)) (by kernel_rfl) rfl (by kernel_rfl) ?_
        refine x_val (.pointer (some ⟨p, 0, none⟩)) (by kernel_rfl) rfl (by kernel_rfl) ?_
        refine x_val (.int .i64 0) (by kernel_rfl) rfl (by kernel_rfl) ?_
        refine x_nil ?_
        refine x_then ?_
        refine x_retc ?_
        refine x_ret (.tuple #[.pointer (some ⟨p, 0, none⟩), .int .i64 0]) (by kernel_rfl) (by kernel_rfl) ?_
        exact ⟨p, vr51, rfl, H.pick [0, 1] _ (by decide) (by kernel_rfl)⟩
      · skip
        have h3p := of_decide_eq_true h3
        refine x_t (by kernel_rfl) ?_
        refine x_seq ?_
        refine x_region ?_
        refine x_val (.pointer none) (by kernel_rfl) rfl (by kernel_rfl) ?_
        refine x_val (.int .i64 10) (by kernel_rfl) rfl (by kernel_rfl) ?_
        refine x_nil ?_
        refine x_then ?_
        refine x_retc ?_
        refine x_then_ret ?_
        refine x_ret (.tuple #[.pointer none, .int .i64 10]) (by kernel_rfl) (by kernel_rfl) ?_
        exact absurd hok (by intro hq; obtain ⟨q1, q2, q3⟩ := hq; first | omega | (have := q1 k (by omega); omega) | (obtain rfl : k = l.length := (by omega); omega))
    · skip
      have h2p := of_decide_eq_true h2
      refine x_skip (by kernel_rfl) ?_
      refine x_skip (by kernel_rfl) ?_
      refine x_skip (by kernel_rfl) ?_
      refine x_skip (by kernel_rfl) ?_
      refine x_val (.bool true) (by kernel_rfl) rfl (by kernel_rfl) ?_
      refine x_nil ?_
      refine x_then ?_
      refine x_t (by kernel_rfl) ?_
      refine x_seq ?_
      refine x_region ?_
      refine x_val (.pointer none) (by kernel_rfl) rfl (by kernel_rfl) ?_
      refine x_val (.int .i64 10) (by kernel_rfl) rfl (by kernel_rfl) ?_
      refine x_nil ?_
      refine x_then ?_
      refine x_retc ?_
      refine x_then_ret ?_
      refine x_ret (.tuple #[.pointer none, .int .i64 10]) (by kernel_rfl) (by kernel_rfl) ?_
      exact absurd hok (by intro hq; obtain ⟨q1, q2, q3⟩ := hq; first | omega | (have := q1 k (by omega); omega) | (obtain rfl : k = l.length := (by omega); omega))
  · skip
    have h1p := of_decide_eq_true h1
    refine x_t (by kernel_rfl) ?_
    refine x_skipc ?_
    refine x_then ?_
    refine x_seq ?_
    refine x_block ?_
    refine x_seq ?_
    refine x_region ?_
    obtain ⟨ga, oa, had, hcell⟩ := hA (by omega)
    refine x_ixO (t := 22) had k (List.length l) cS 29 5 (oa + k * 5) (by omega) (by omega) (by kernel_rfl) (by kernel_rfl) (by kernel_rfl) rfl (by kernel_rfl) ?_
    refine x_loadcn (t := 29) ga (oa + k * 5) [.int .i64 ((l.getD k (0, 0, 0, 0, 0)).1), .int .i64 ((l.getD k (0, 0, 0, 0, 0)).2.1), .int .i64 ((l.getD k (0, 0, 0, 0, 0)).2.2.1), .int .i64 ((l.getD k (0, 0, 0, 0, 0)).2.2.2.1), .int .i64 ((l.getD k (0, 0, 0, 0, 0)).2.2.2.2)] (hcell _ H.below k (by omega)) (by kernel_rfl) rfl (by kernel_rfl) (by kernel_rfl) ?_
    refine x_box H #[.int .i64 0, .int .i64 0, .int .i64 0, .int .i64 0, .int .i64 0] 29 (by kernel_rfl) rfl (by kernel_rfl) ?_
    clear H
    intro v15 g2 H
    refine x_store (t := 29) (v := .agg #[.int .i64 ((l.getD k (0, 0, 0, 0, 0)).1), .int .i64 ((l.getD k (0, 0, 0, 0, 0)).2.1), .int .i64 ((l.getD k (0, 0, 0, 0, 0)).2.2.1), .int .i64 ((l.getD k (0, 0, 0, 0, 0)).2.2.2.1), .int .i64 ((l.getD k (0, 0, 0, 0, 0)).2.2.2.2)]) H 0 g2 0 #[.int .i64 0, .int .i64 0, .int .i64 0, .int .i64 0, .int .i64 0] #[.int .i64 ((l.getD k (0, 0, 0, 0, 0)).1), .int .i64 ((l.getD k (0, 0, 0, 0, 0)).2.1), .int .i64 ((l.getD k (0, 0, 0, 0, 0)).2.2.1), .int .i64 ((l.getD k (0, 0, 0, 0, 0)).2.2.2.1), .int .i64 ((l.getD k (0, 0, 0, 0, 0)).2.2.2.2)] 29 [.int .i64 ((l.getD k (0, 0, 0, 0, 0)).1), .int .i64 ((l.getD k (0, 0, 0, 0, 0)).2.1), .int .i64 ((l.getD k (0, 0, 0, 0, 0)).2.2.1), .int .i64 ((l.getD k (0, 0, 0, 0, 0)).2.2.2.1), .int .i64 ((l.getD k (0, 0, 0, 0, 0)).2.2.2.2)] [.blk g2 #[.int .i64 ((l.getD k (0, 0, 0, 0, 0)).1), .int .i64 ((l.getD k (0, 0, 0, 0, 0)).2.1), .int .i64 ((l.getD k (0, 0, 0, 0, 0)).2.2.1), .int .i64 ((l.getD k (0, 0, 0, 0, 0)).2.2.2.1), .int .i64 ((l.getD k (0, 0, 0, 0, 0)).2.2.2.2)] 29, .blk p #[.slice none 0 0, .int .i64 ((room : Nat) : Int), .int .i64 1, .bool false] 80, .row (.slice none 0 0) 29 5 (List.length ([] : List Rec)) (List.flatMap recL ([] : List Rec)), .blk g1 #[.slice aS (List.length l) cS, .int .i64 nx, .bool lo] 50] (by kernel_rfl) rfl (by kernel_rfl) (by kernel_rfl) (by kernel_rfl) (by kernel_rfl) (by kernel_rfl) (by kernel_rfl) (by kernel_rfl) (by kernel_rfl) ?_
    clear H
    intro v16 H
    refine x_nil ?_
    refine x_then ?_
    refine x_seq ?_
    refine x_seq ?_
    refine x_region ?_
    refine x_val (.pointer (some ⟨g2, 0, none⟩)) (by kernel_rfl) rfl (by kernel_rfl) ?_
    refine x_load1 H 0 g2 0 #[.int .i64 ((l.getD k (0, 0, 0, 0, 0)).1), .int .i64 ((l.getD k (0, 0, 0, 0, 0)).2.1), .int .i64 ((l.getD k (0, 0, 0, 0, 0)).2.2.1), .int .i64 ((l.getD k (0, 0, 0, 0, 0)).2.2.2.1), .int .i64 ((l.getD k (0, 0, 0, 0, 0)).2.2.2.2)] 29 (.int .i64 ((l.getD k (0, 0, 0, 0, 0)).1)) (by kernel_rfl) (by kernel_rfl) (by kernel_rfl) rfl (by kernel_rfl) ?_
    refine x_val (.int .i64 (lastS l k)) (by kernel_rfl) rfl (by kernel_rfl) ?_
    refine x_val (.bool (decide (((l.getD k (0, 0, 0, 0, 0)).1) ≤ (lastS l k)))) (by kernel_rfl) rfl (by kernel_rfl) ?_
    refine x_nil ?_
    refine x_then ?_
    cases h5 : decide (((l.getD k (0, 0, 0, 0, 0)).1) ≤ (lastS l k))
    · skip
      have h5p := of_decide_eq_false h5
      refine x_f (by kernel_rfl) ?_
      refine x_skipc ?_
      refine x_then ?_
      refine x_region ?_
      refine x_val (.pointer (some ⟨g2, 0, none⟩)) (by kernel_rfl) rfl (by kernel_rfl) ?_
      refine x_load1 H 0 g2 0 #[.int .i64 ((l.getD k (0, 0, 0, 0, 0)).1), .int .i64 ((l.getD k (0, 0, 0, 0, 0)).2.1), .int .i64 ((l.getD k (0, 0, 0, 0, 0)).2.2.1), .int .i64 ((l.getD k (0, 0, 0, 0, 0)).2.2.2.1), .int .i64 ((l.getD k (0, 0, 0, 0, 0)).2.2.2.2)] 29 (.int .i64 ((l.getD k (0, 0, 0, 0, 0)).1)) (by kernel_rfl) (by kernel_rfl) (by kernel_rfl) rfl (by kernel_rfl) ?_
      refine x_val (.int .i64 ((l.getD k (0, 0, 0, 0, 0)).1)) (by kernel_rfl) rfl (by kernel_rfl) ?_
      refine x_nil ?_
      refine x_blk ?_
      refine x_then ?_
      refine x_region ?_
      refine x_ar (((k : Nat) : Int) + 1) ⟨by omega, by omega⟩ (by kernel_rfl) rfl (by kernel_rfl) ?_
      refine x_val (.int .i64 (((k : Nat) : Int) + 1)) (by kernel_rfl) rfl (by kernel_rfl) ?_
      refine x_nil ?_
      refine x_then ?_
      replace H := H.pick [1, 2, 3] [.blk p #[.slice none 0 0, .int .i64 ((room : Nat) : Int), .int .i64 1, .bool false] 80, .row (.slice none 0 0) 29 5 (List.length ([] : List Rec)) (List.flatMap recL ([] : List Rec)), .blk g1 #[.slice aS (List.length l) cS, .int .i64 nx, .bool lo] 50] (by decide) (by kernel_rfl)
      exact ⟨(k + 1), (by omega), (nthV [(uf1 0), (uf1 1), .pointer (some ⟨g2, 0, none⟩), .bool true, .pointer (some ⟨ga, oa + k * 5, none⟩), .agg #[.int .i64 ((l.getD k (0, 0, 0, 0, 0)).1), .int .i64 ((l.getD k (0, 0, 0, 0, 0)).2.1), .int .i64 ((l.getD k (0, 0, 0, 0, 0)).2.2.1), .int .i64 ((l.getD k (0, 0, 0, 0, 0)).2.2.2.1), .int .i64 ((l.getD k (0, 0, 0, 0, 0)).2.2.2.2)], .pointer (some ⟨g2, 0, none⟩), .int .i64 ((l.getD k (0, 0, 0, 0, 0)).1), .int .i64 (lastS l k), .bool false, .pointer (some ⟨g2, 0, none⟩), .int .i64 ((l.getD k (0, 0, 0, 0, 0)).1), .int .i64 (((k : Nat) : Int) + 1)]), (by kernel_rfl), H, (by omega), (fun i hi => by by_cases e : i = k; (subst e; omega); exact r2 i (by omega))⟩
    · skip
      have h5p := of_decide_eq_true h5
      refine x_t (by kernel_rfl) ?_
      refine x_seq ?_
      refine x_region ?_
      refine x_val (.pointer none) (by kernel_rfl) rfl (by kernel_rfl) ?_
      refine x_val (.int .i64 10) (by kernel_rfl) rfl (by kernel_rfl) ?_
      refine x_nil ?_
      refine x_then ?_
      refine x_retc ?_
      refine x_then_ret ?_
      refine x_blk_ret ?_
      refine x_then_ret ?_
      refine x_then_ret ?_
      refine x_blk_ret ?_
      refine x_then_ret ?_
      refine x_ret (.tuple #[.pointer none, .int .i64 10]) (by kernel_rfl) (by kernel_rfl) ?_
      exact absurd hok (by intro hq; obtain ⟨q1, q2, q3⟩ := hq; first | omega | (have := q1 k (by omega); omega) | (obtain rfl : k = l.length := (by omega); omega))

set_option maxRecDepth 100000 in
set_option maxHeartbeats 2000000 in
theorem Restore_bad (room : Nat) (aS : Option Addr) (cS : Nat) (l : List Rec) (nx : Int) (lo : Bool) (h1 : 1 ≤ room) (h2 : room ≤ 256) (hln : l.length ≤ 4096) (hbad : ¬ ((∀ i, i < l.length → lastS l i < (l.getD i (0, 0, 0, 0, 0)).1) ∧ l.length ≤ room ∧ lastS l l.length < nx)) (w0 : World) (hV : RecsV w0 (.slice aS l.length cS) l.length l) :
    Calls Try.prog 21 #[.int .i64 ((room : Nat) : Int), .agg #[.slice aS (List.length l) cS, .int .i64 nx, .bool lo]] w0 fun e w' => e = .returned (.tuple #[.pointer none, .int .i64 10]) ∧ Below w0.heap.size w0 w' := by
  refine x_enter Try.func21 rfl #[.int .i64 ((room : Nat) : Int), .agg #[.slice aS (List.length l) cS, .int .i64 nx, .bool lo], undef, undef, undef, undef, undef, undef, undef, undef, undef, undef, undef, undef, undef, undef, undef, undef, undef, undef, undef, undef, undef, undef, undef, undef, undef, undef, undef, undef, undef, undef, undef, undef, undef, undef, undef, undef, undef, undef, undef, undef, undef, undef, undef, undef, undef, undef, undef, undef, undef, undef, undef, undef, undef, undef, undef, undef, undef, undef, undef, undef, undef, undef, undef] (by kernel_rfl) ?_
  have H := Hs.nil w0
  have hA : RecsAt w0 aS l.length l := by obtain ⟨ad, c, e, _, hA⟩ := hV; cases e; exact hA
  refine x_seq ?_
  refine x_region ?_
  refine x_box H #[.slice aS (List.length l) cS, .int .i64 nx, .bool lo] 50 (by kernel_rfl) rfl (by kernel_rfl) ?_
  clear H
  intro v1 g1 H
  refine x_val (.pointer none) (by kernel_rfl) rfl (by kernel_rfl) ?_
  refine x_val (.int .i64 0) (by kernel_rfl) rfl (by kernel_rfl) ?_
  refine x_nil ?_
  refine x_then ?_
  refine x_seq ?_
  refine x_region ?_
  refine x_val (.int .i64 ((room : Nat) : Int)) (by kernel_rfl) rfl (by kernel_rfl) ?_
  refine x_call (by kernel_rfl) rfl (by kernel_rfl) (RNew_yes room (by omega) (by omega) _) ?_
  rintro _ v2 ⟨p, rfl, hN'⟩
  refine ⟨_, rfl, ?_⟩
  replace H := H.more hN'
  clear hN'
  replace H : Hs [] w0 _ [.blk p #[.slice none 0 0, .int .i64 ((room : Nat) : Int), .int .i64 1, .bool false] 80, .row (.slice none 0 0) 29 5 (List.length ([] : List Rec)) (List.flatMap recL ([] : List Rec)), .blk g1 #[.slice aS (List.length l) cS, .int .i64 nx, .bool lo] 50] := H
  refine x_val (.tuple #[.pointer (some ⟨p, 0, none⟩), .int .i64 0]) (by kernel_rfl) rfl (by kernel_rfl) ?_
  refine x_val (.pointer (some ⟨p, 0, none⟩)) (by kernel_rfl) rfl (by kernel_rfl) ?_
  refine x_val (.int .i64 0) (by kernel_rfl) rfl (by kernel_rfl) ?_
  refine x_val (.pointer (some ⟨p, 0, none⟩)) (by kernel_rfl) rfl (by kernel_rfl) ?_
  refine x_val (.int .i64 0) (by kernel_rfl) rfl (by kernel_rfl) ?_
  refine x_nil ?_
  refine x_then ?_
  refine x_seq ?_
  refine x_seq ?_
  refine x_region ?_
  refine x_val (.int .i64 0) (by kernel_rfl) rfl (by kernel_rfl) ?_
  refine x_val (.bool false) (by kernel_rfl) rfl (by kernel_rfl) ?_
  refine x_nil ?_
  refine x_then ?_
  refine x_f (by kernel_rfl) ?_
  refine x_skipc ?_
  refine x_then ?_
  refine x_seq ?_
  refine x_region ?_
  refine x_val (.int .i64 0) (by kernel_rfl) rfl (by kernel_rfl) ?_
  refine x_nil ?_
  refine x_then ?_
  refine x_seq ?_
  refine x_seq ?_
  refine x_region ?_
  refine x_val (.pointer (some ⟨g1, 0, none⟩)) (by kernel_rfl) rfl (by kernel_rfl) ?_
  refine x_load1 H 2 g1 0 #[.slice aS (List.length l) cS, .int .i64 nx, .bool lo] 50 (.slice aS (List.length l) cS) (by kernel_rfl) (by kernel_rfl) (by kernel_rfl) rfl (by kernel_rfl) ?_
  refine x_val (.int .i64 (((List.length l) : Nat) : Int)) (by kernel_rfl) rfl (by kernel_rfl) ?_
  refine x_val (.int .i64 0) (by kernel_rfl) rfl (by kernel_rfl) ?_
  refine x_nil ?_
  refine x_then ?_
  refine x_block ?_
  refine x_loop (G := Nat) (fun (k : Nat) a w' => ∃ uf1 : Nat → Value, a = { tmps := #[.int .i64 ((room : Nat) : Int), .agg #[.slice aS (List.length l) cS, .int .i64 nx, .bool lo], undef, .pointer (some ⟨g1, 0, none⟩), (uf1 0), (uf1 1), .pointer (some ⟨p, 0, none⟩), .int .i64 0, .int .i64 (lastS l k), undef, (uf1 2), .tuple #[.pointer (some ⟨p, 0, none⟩), .int .i64 0], .int .i64 ((room : Nat) : Int), .tuple #[.pointer (some ⟨p, 0, none⟩), .int .i64 0], .pointer (some ⟨p, 0, none⟩), .int .i64 0, .int .i64 0, .bool false, undef, .pointer (some ⟨g1, 0, none⟩), .slice aS (List.length l) cS, .int .i64 (((List.length l) : Nat) : Int), .int .i64 ((k : Nat) : Int), (uf1 3), (uf1 4), (uf1 5), (uf1 6), (uf1 7), (uf1 8), (uf1 9), (uf1 10), (uf1 11), (uf1 12), undef, undef, undef, undef, undef, undef, undef, undef, undef, undef, undef, undef, undef, undef, undef, undef, undef, undef, undef, undef, undef, undef, undef, undef, undef, undef, undef, undef, undef, undef, undef, undef], defers := [] } ∧ Hs [] w0 w' [.blk p #[.slice none 0 0, .int .i64 ((room : Nat) : Int), .int .i64 1, .bool false] 80, .row (.slice none 0 0) 29 5 (List.length ([] : List Rec)) (List.flatMap recL ([] : List Rec)), .blk g1 #[.slice aS (List.length l) cS, .int .i64 nx, .bool lo] 50] ∧ (k ≤ l.length) ∧ (∀ i, i < k → lastS l i < (l.getD i (0, 0, 0, 0, 0)).1)) (fun (k : Nat) => l.length - k) 0 ⟨(nthV [.pointer none, .int .i64 0, undef, undef, undef, undef, undef, undef, undef, undef, undef, undef, undef]), (by kernel_rfl), H, (Nat.zero_le _), (fun i hi => absurd hi (Nat.not_lt_zero _))⟩ ?_
  clear H
  rintro k _ v3 ⟨uf1, rfl, H, r1, r2⟩
  refine x_seq ?_
  refine x_region ?_
  refine x_val (.bool (decide (((k : Nat) : Int) < (((List.length l) : Nat) : Int)))) (by kernel_rfl) rfl (by kernel_rfl) ?_
  refine x_nil ?_
  refine x_then ?_
  refine x_seq ?_
  cases h1 : decide (((k : Nat) : Int) < (((List.length l) : Nat) : Int))
  · skip
    have h1p := of_decide_eq_false h1
    refine x_f (by kernel_rfl) ?_
    refine x_exit ?_
    refine x_then_exit ?_
    refine x_then_exit ?_
    refine x_blk_exit ?_
    refine x_then ?_
    refine x_seq ?_
    refine x_seq ?_
    refine x_region ?_
    refine x_val (.pointer (some ⟨g1, 0, none⟩)) (by kernel_rfl) rfl (by kernel_rfl) ?_
    refine x_load1 H 2 g1 0 #[.slice aS (List.length l) cS, .int .i64 nx, .bool lo] 50 (.slice aS (List.length l) cS) (by kernel_rfl) (by kernel_rfl) (by kernel_rfl) rfl (by kernel_rfl) ?_
    refine x_val (.int .i64 (((List.length l) : Nat) : Int)) (by kernel_rfl) rfl (by kernel_rfl) ?_
    refine x_val (.int .i64 ((room : Nat) : Int)) (by kernel_rfl) rfl (by kernel_rfl) ?_
    refine x_val (.bool (decide (((room : Nat) : Int) < (((List.length l) : Nat) : Int)))) (by kernel_rfl) rfl (by kernel_rfl) ?_
    refine x_val (.bool (decide (((room : Nat) : Int) < (((List.length l) : Nat) : Int)))) (by kernel_rfl) rfl (by kernel_rfl) ?_
    cases h2 : decide (((room : Nat) : Int) < (((List.length l) : Nat) : Int))
    · skip
      have h2p := of_decide_eq_false h2
      refine x_val (.pointer (some ⟨g1, 1, none⟩)) (by kernel_rfl) rfl (by kernel_rfl) ?_
      refine x_load1 H 2 g1 1 #[.slice aS (List.length l) cS, .int .i64 nx, .bool lo] 50 (.int .i64 nx) (by kernel_rfl) (by kernel_rfl) (by kernel_rfl) rfl (by kernel_rfl) ?_
      refine x_val (.int .i64 (lastS l k)) (by kernel_rfl) rfl (by kernel_rfl) ?_
      refine x_val (.bool (decide (nx ≤ (lastS l k)))) (by kernel_rfl) rfl (by kernel_rfl) ?_
      refine x_val (.bool (decide (nx ≤ (lastS l k)))) (by kernel_rfl) rfl (by kernel_rfl) ?_
      refine x_nil ?_
      refine x_then ?_
      cases h3 : decide (nx ≤ (lastS l k))
      · skip
        have h3p := of_decide_eq_false h3
        refine x_f (by kernel_rfl) ?_
        refine x_skipc ?_
        refine x_then ?_
        refine x_seq ?_
        refine x_region_s 11 (fun w' => Hs [] w0 w' [.blk g1 #[.slice aS (List.length l) cS, .int .i64 nx, .bool lo] 50]) (fun w' => Hs [] w0 w' [.blk p #[.slice none 0 0, .int .i64 ((room : Nat) : Int), .int .i64 1, .bool false] 80, .row (.slice none 0 0) 29 5 (List.length ([] : List Rec)) (List.flatMap recL ([] : List Rec)), .blk g1 #[.slice aS (List.length l) cS, .int .i64 nx, .bool lo] 50]) (by kernel_rfl) (by kernel_rfl) (by kernel_rfl) hsShut (fun _ h => h.pick [2] _ (by decide) (by kernel_rfl)) H.drew ?_
        refine s_quiet 0 rfl (by kernel_rfl) (y_val (.pointer (some ⟨p, 0, none⟩)) (by kernel_rfl) (fun _ => by kernel_rfl)) ?_
        refine s_quiet 1 rfl (by kernel_rfl) (y_val (.pointer (some ⟨p, 0, none⟩)) (by kernel_rfl) (fun _ => by kernel_rfl)) ?_
        refine s_quiet 2 rfl (by kernel_rfl) (y_val (.pointer (some ⟨p, 0, none⟩)) (by kernel_rfl) (fun _ => by kernel_rfl)) ?_
        refine s_quiet 3 rfl (by kernel_rfl) (y_val (.pointer (some ⟨p, 0, none⟩)) (by kernel_rfl) (fun _ => by kernel_rfl)) ?_
        refine s_quiet 5 rfl (by kernel_rfl) (y_val (.pointer (some ⟨g1, 0, none⟩)) (by kernel_rfl) (fun _ => by kernel_rfl)) ?_
        refine s_quiet 6 rfl (by kernel_rfl) (y_load1 0 g1 0 #[.slice aS (List.length l) cS, .int .i64 nx, .bool lo] 50 (.slice aS (List.length l) cS) (by kernel_rfl) (by kernel_rfl) (by kernel_rfl) (fun _ => by kernel_rfl)) ?_
        refine s_one 4 rfl (by kernel_rfl) rfl ?_
        clear H
        intro v4 H
        refine x_load1 H 0 p 0 #[.slice none 0 0, .int .i64 ((room : Nat) : Int), .int .i64 1, .bool false] 80 (.slice none 0 0) (by kernel_rfl) (by kernel_rfl) (by kernel_rfl) rfl (by kernel_rfl) ?_
        refine x_nil ?_
        refine x_then ?_
        refine ⟨fun w' => Hs [] w0 w' [.blk g1 #[.slice aS (List.length l) cS, .int .i64 nx, .bool lo] 50], fun w' => Hs [] w0 w' [.blk p #[.slice none 0 0, .int .i64 ((room : Nat) : Int), .int .i64 1, .bool false] 80, .row (.slice none 0 0) 29 5 (List.length ([] : List Rec)) (List.flatMap recL ([] : List Rec)), .blk g1 #[.slice aS (List.length l) cS, .int .i64 nx, .bool lo] 50], H, hsShut, fun _ h => h.pick [2] _ (by decide) (by kernel_rfl), fun _ h => h.pick [0] _ (by decide) (by kernel_rfl), ?_⟩
        refine s_one 7 rfl (by kernel_rfl) rfl ?_
        clear H
        intro v5 H
        refine x_appendSrc H 1 (.slice none 0 0) 22 29 5 40 (List.length ([] : List Rec)) (.agg #[.int .i64 0, .int .i64 0, .int .i64 0, .int .i64 0, .int .i64 0]) (List.flatMap recL ([] : List Rec)) (.slice aS (List.length l) cS) (List.length l) (List.flatMap recL l) rfl (hV.src H.below) (by kernel_rfl) (by kernel_rfl) (by kernel_rfl) (by decide) (oneCellFlat recOne _) (by simp; unfold maxLen; omega) (by simp; omega) (by kernel_rfl) rfl (by kernel_rfl) ?_
        clear H
        intro v6 vr51 H
        rw [show (List.flatMap recL ([] : List Rec)) ++ (List.flatMap recL l) = (List.flatMap recL l) from (by simp)] at H
        rw [show ((List.length ([] : List Rec)) + (List.length l) : Nat) = (List.length l) from (by simp)] at H
        replace H : Hs [] w0 v6 [.blk p #[.slice none 0 0, .int .i64 ((room : Nat) : Int), .int .i64 1, .bool false] 80, .row (vr51) 29 5 (List.length l) (List.flatMap recL l), .blk g1 #[.slice aS (List.length l) cS, .int .i64 nx, .bool lo] 50] := H
        refine x_nil ?_
        refine x_then ?_
        refine ⟨fun w' => Hs [] w0 w' [.row (vr51) 29 5 (List.length l) (List.flatMap recL l), .blk g1 #[.slice aS (List.length l) cS, .int .i64 nx, .bool lo] 50], fun w' => Hs [] w0 w' [.blk p #[.slice none 0 0, .int .i64 ((room : Nat) : Int), .int .i64 1, .bool false] 80, .row (vr51) 29 5 (List.length l) (List.flatMap recL l), .blk g1 #[.slice aS (List.length l) cS, .int .i64 nx, .bool lo] 50], H, hsShut, fun _ h => h.pick [1, 2] _ (by decide) (by kernel_rfl), fun _ h => h.pick [1] _ (by decide) (by kernel_rfl), ?_⟩
        refine s_quiet 8 rfl (by kernel_rfl) (y_val (.pointer (some ⟨p, 0, none⟩)) (by kernel_rfl) (fun _ => by kernel_rfl)) ?_
        refine s_quiet 9 rfl (by kernel_rfl) (y_val (.pointer (some ⟨p, 0, none⟩)) (by kernel_rfl) (fun _ => by kernel_rfl)) ?_
        refine s_one 10 rfl (by kernel_rfl) rfl ?_
        clear H
        intro v7 H
        have h4o := H.rowOne 1 rfl
        have h4c := H.rowCel 1 rfl
        refine x_store (t := 22) (v := vr51) H 0 p 0 #[.slice none 0 0, .int .i64 ((room : Nat) : Int), .int .i64 1, .bool false] #[vr51, .int .i64 ((room : Nat) : Int), .int .i64 1, .bool false] 80 [vr51] [.blk p #[vr51, .int .i64 ((room : Nat) : Int), .int .i64 1, .bool false] 80, .row (vr51) 29 5 (List.length l) (List.flatMap recL l), .blk g1 #[.slice aS (List.length l) cS, .int .i64 nx, .bool lo] 50] (by kernel_rfl) rfl (by kernel_rfl) (by simp only [List.all_cons, List.all_nil, h4o, Bool.and_true, Bool.true_and] <;> rfl) (by kernel_rfl) (by kernel_rfl) (by kernel_rfl) (by kernel_rfl) (by kernel_rfl) (by rw [h4c]) ?_
        clear H
        intro v8 H
        refine x_nil ?_
        refine x_then ?_
        refine ⟨fun w' => Hs [] w0 w' [.blk p #[vr51, .int .i64 ((room : Nat) : Int), .int .i64 1, .bool false] 80, .row (vr51) 29 5 (List.length l) (List.flatMap recL l), .blk g1 #[.slice aS (List.length l) cS, .int .i64 nx, .bool lo] 50], fun w' => Hs [] w0 w' [.blk p #[vr51, .int .i64 ((room : Nat) : Int), .int .i64 1, .bool false] 80, .row (vr51) 29 5 (List.length l) (List.flatMap recL l), .blk g1 #[.slice aS (List.length l) cS, .int .i64 nx, .bool lo] 50], H, hsShut, fun _ h => h.pick [0, 1, 2] _ (by decide) (by kernel_rfl), fun _ h => h.pick [1, 2] _ (by decide) (by kernel_rfl), ?_⟩
        refine s_done (by kernel_rfl) ?_
        clear H
        intro v9 H
        refine x_then ?_
        refine x_seq ?_
        refine x_region_s 12 (fun w' => Hs [] w0 w' [.row (vr51) 29 5 (List.length l) (List.flatMap recL l), .blk g1 #[.slice aS (List.length l) cS, .int .i64 nx, .bool lo] 50]) (fun w' => Hs [] w0 w' [.blk p #[vr51, .int .i64 ((room : Nat) : Int), .int .i64 1, .bool false] 80, .row (vr51) 29 5 (List.length l) (List.flatMap recL l), .blk g1 #[.slice aS (List.length l) cS, .int .i64 nx, .bool lo] 50]) (by kernel_rfl) (by kernel_rfl) (by kernel_rfl) hsShut (fun _ h => h.pick [1, 2] _ (by decide) (by kernel_rfl)) H.drew ?_
        refine s_quiet 0 rfl (by kernel_rfl) (y_val (.pointer (some ⟨p, 0, none⟩)) (by kernel_rfl) (fun _ => by kernel_rfl)) ?_
        refine s_quiet 1 rfl (by kernel_rfl) (y_val (.pointer (some ⟨p, 0, none⟩)) (by kernel_rfl) (fun _ => by kernel_rfl)) ?_
        refine s_quiet 2 rfl (by kernel_rfl) (y_val (.pointer (some ⟨g1, 1, none⟩)) (by kernel_rfl) (fun _ => by kernel_rfl)) ?_
        refine s_quiet 3 rfl (by kernel_rfl) (y_load1 1 g1 1 #[.slice aS (List.length l) cS, .int .i64 nx, .bool lo] 50 (.int .i64 nx) (by kernel_rfl) (by kernel_rfl) (by kernel_rfl) (fun _ => by kernel_rfl)) ?_
        refine s_quiet 4 rfl (by kernel_rfl) (y_val (.pointer (some ⟨g1, 2, none⟩)) (by kernel_rfl) (fun _ => by kernel_rfl)) ?_
        refine s_quiet 5 rfl (by kernel_rfl) (y_load1 1 g1 2 #[.slice aS (List.length l) cS, .int .i64 nx, .bool lo] 50 (.bool lo) (by kernel_rfl) (by kernel_rfl) (by kernel_rfl) (fun _ => by kernel_rfl)) ?_
        refine s_quiet 6 rfl (by kernel_rfl) (y_val (.pointer (some ⟨p, 0, none⟩)) (by kernel_rfl) (fun _ => by kernel_rfl)) ?_
        refine s_quiet 7 rfl (by kernel_rfl) (y_val (.pointer (some ⟨p, 2, none⟩)) (by kernel_rfl) (fun _ => by kernel_rfl)) ?_
        refine s_one 8 rfl (by kernel_rfl) rfl ?_
        clear H
        intro v10 H
        refine x_store (t := 3) (v := .int .i64 nx) H 0 p 2 #[vr51, .int .i64 ((room : Nat) : Int), .int .i64 1, .bool false] #[vr51, .int .i64 ((room : Nat) : Int), .int .i64 nx, .bool false] 80 [.int .i64 nx] [.blk p #[vr51, .int .i64 ((room : Nat) : Int), .int .i64 nx, .bool false] 80, .row (vr51) 29 5 (List.length l) (List.flatMap recL l), .blk g1 #[.slice aS (List.length l) cS, .int .i64 nx, .bool lo] 50] (by kernel_rfl) rfl (by kernel_rfl) (by kernel_rfl) (by kernel_rfl) (by kernel_rfl) (by kernel_rfl) (by kernel_rfl) (by kernel_rfl) (by kernel_rfl) ?_
        clear H
        intro v11 H
        refine x_nil ?_
        refine x_then ?_
        refine ⟨fun w' => Hs [] w0 w' [.row (vr51) 29 5 (List.length l) (List.flatMap recL l), .blk g1 #[.slice aS (List.length l) cS, .int .i64 nx, .bool lo] 50], fun w' => Hs [] w0 w' [.blk p #[vr51, .int .i64 ((room : Nat) : Int), .int .i64 nx, .bool false] 80, .row (vr51) 29 5 (List.length l) (List.flatMap recL l), .blk g1 #[.slice aS (List.length l) cS, .int .i64 nx, .bool lo] 50], H, hsShut, fun _ h => h.pick [1, 2] _ (by decide) (by kernel_rfl), fun _ h => h.pick [0, 1] _ (by decide) (by kernel_rfl), ?_⟩
        refine s_quiet 9 rfl (by kernel_rfl) (y_val (.pointer (some ⟨p, 0, none⟩)) (by kernel_rfl) (fun _ => by kernel_rfl)) ?_
        refine s_quiet 10 rfl (by kernel_rfl) (y_val (.pointer (some ⟨p, 3, none⟩)) (by kernel_rfl) (fun _ => by kernel_rfl)) ?_
        refine s_one 11 rfl (by kernel_rfl) rfl ?_
        clear H
        intro v12 H
        refine x_store (t := 4) (v := .bool lo) H 0 p 3 #[vr51, .int .i64 ((room : Nat) : Int), .int .i64 nx, .bool false] #[vr51, .int .i64 ((room : Nat) : Int), .int .i64 nx, .bool lo] 80 [.bool lo] [.blk p #[vr51, .int .i64 ((room : Nat) : Int), .int .i64 nx, .bool lo] 80, .row (vr51) 29 5 (List.length l) (List.flatMap recL l), .blk g1 #[.slice aS (List.length l) cS, .int .i64 nx, .bool lo] 50] (by kernel_rfl) rfl (by kernel_rfl) (by kernel_rfl) (by kernel_rfl) (by kernel_rfl) (by kernel_rfl) (by kernel_rfl) (by kernel_rfl) (by kernel_rfl) ?_
        clear H
        intro v13 H
        refine x_nil ?_
        refine x_then ?_
        refine ⟨fun w' => Hs [] w0 w' [.blk p #[vr51, .int .i64 ((room : Nat) : Int), .int .i64 nx, .bool lo] 80, .row (vr51) 29 5 (List.length l) (List.flatMap recL l), .blk g1 #[.slice aS (List.length l) cS, .int .i64 nx, .bool lo] 50], fun w' => Hs [] w0 w' [.blk p #[vr51, .int .i64 ((room : Nat) : Int), .int .i64 nx, .bool lo] 80, .row (vr51) 29 5 (List.length l) (List.flatMap recL l), .blk g1 #[.slice aS (List.length l) cS, .int .i64 nx, .bool lo] 50], H, hsShut, fun _ h => h.pick [0, 1, 2] _ (by decide) (by kernel_rfl), fun _ h => h.pick [1, 2] _ (by decide) (by kernel_rfl), ?_⟩
        refine s_done (by kernel_rfl) ?_
        clear H
        intro v14 H
        refine x_frame' { tmps := #[.int .i64 ((room : Nat) : Int), .agg #[.slice aS (List.length l) cS, .int .i64 nx, .bool lo], undef, .pointer (some ⟨g1, 0, none⟩), (uf1 0), (uf1 1), .pointer (some ⟨p, 0, none⟩), .int .i64 0, .int .i64 (lastS l k), undef, (uf1 2), .tuple #[.pointer (some ⟨p, 0, none⟩), .int .i64 0], .int .i64 ((room : Nat) : Int), .tuple #[.pointer (some ⟨p, 0, none⟩), .int .i64 0], .pointer (some ⟨p, 0, none⟩), .int .i64 0, .int .i64 0, .bool false, undef, .pointer (some ⟨g1, 0, none⟩), .slice aS (List.length l) cS, .int .i64 (((List.length l) : Nat) : Int), .int .i64 ((k : Nat) : Int), .bool false, (uf1 4), (uf1 5), (uf1 6), (uf1 7), (uf1 8), (uf1 9), (uf1 10), (uf1 11), (uf1 12), .pointer (some ⟨g1, 0, none⟩), .slice aS (List.length l) cS, .int .i64 (((List.length l) : Nat) : Int), .int .i64 ((room : Nat) : Int), .bool false, .bool false, .pointer (some ⟨g1, 1, none⟩), .int .i64 nx, .int .i64 (lastS l k), .bool false, .bool false, .pointer (some ⟨p, 0, none⟩), .pointer (some ⟨p, 0, none⟩), .pointer (some ⟨p, 0, none⟩), .pointer (some ⟨p, 0, none⟩), .slice none 0 0, .pointer (some ⟨g1, 0, none⟩), .slice aS (List.length l) cS, vr51, .pointer (some ⟨p, 0, none⟩), .pointer (some ⟨p, 0, none⟩), .pointer (some ⟨p, 0, none⟩), .pointer (some ⟨p, 0, none⟩), .pointer (some ⟨g1, 1, none⟩), .int .i64 nx, .pointer (some ⟨g1, 2, none⟩), .bool lo, .pointer (some ⟨p, 0, none⟩), .pointer (some ⟨p, 2, none⟩), .pointer (some ⟨p, 0, none⟩), .pointer (some ⟨p, 3, none⟩), undef], defers := [] } (by kernel_rfl) ?_
        refine x_then ?_
        refine x_seq ?_
        refine x_region ?_
        refine x_val (.pointer (some ⟨p, 0, none⟩)) (by kernel_rfl) rfl (by kernel_rfl) ?_
        refine x_val (.pointer (some ⟨p, 0, none⟩)) (by kernel_rfl) rfl (by kernel_rfl) ?_
        refine x_val (.int .i64 0) (by kernel_rfl) rfl (by kernel_rfl) ?_
        refine x_nil ?_
        refine x_then ?_
        refine x_retc ?_
        refine x_ret (.tuple #[.pointer (some ⟨p, 0, none⟩), .int .i64 0]) (by kernel_rfl) (by kernel_rfl) ?_
        exact absurd (show (∀ i, i < l.length → lastS l i < (l.getD i (0, 0, 0, 0, 0)).1) ∧ l.length ≤ room ∧ lastS l l.length < nx by obtain rfl : k = l.length := (by omega); exact ⟨r2, by omega, by omega⟩) hbad
      · skip
        have h3p := of_decide_eq_true h3
        refine x_t (by kernel_rfl) ?_
        refine x_seq ?_
        refine x_region ?_
        refine x_val (.pointer none) (by kernel_rfl) rfl (by kernel_rfl) ?_
        refine x_val (.int .i64 10) (by kernel_rfl) rfl (by kernel_rfl) ?_
        refine x_nil ?_
        refine x_then ?_
        refine x_retc ?_
        refine x_then_ret ?_
        refine x_ret (.tuple #[.pointer none, .int .i64 10]) (by kernel_rfl) (by kernel_rfl) ?_
        exact ⟨rfl, H.below⟩
    · skip
      have h2p := of_decide_eq_true h2
      refine x_skip (by kernel_rfl) ?_
      refine x_skip (by kernel_rfl) ?_
      refine x_skip (by kernel_rfl) ?_
      refine x_skip (by kernel_rfl) ?_
      refine x_val (.bool true) (by kernel_rfl) rfl (by kernel_rfl) ?_
      refine x_nil ?_
      refine x_then ?_
      refine x_t (by kernel_rfl) ?_
      refine x_seq ?_
      refine x_region ?_
      refine x_val (.pointer none) (by kernel_rfl) rfl (by kernel_rfl) ?_
      refine x_val (.int .i64 10) (by kernel_rfl) rfl (by kernel_rfl) ?_
      refine x_nil ?_
      refine x_then ?_
      refine x_retc ?_
      refine x_then_ret ?_
      refine x_ret (.tuple #[.pointer none, .int .i64 10]) (by kernel_rfl) (by kernel_rfl) ?_
      exact ⟨rfl, H.below⟩
  · skip
    have h1p := of_decide_eq_true h1
    refine x_t (by kernel_rfl) ?_
    refine x_skipc ?_
    refine x_then ?_
    refine x_seq ?_
    refine x_block ?_
    refine x_seq ?_
    refine x_region ?_
    obtain ⟨ga, oa, had, hcell⟩ := hA (by omega)
    refine x_ixO (t := 22) had k (List.length l) cS 29 5 (oa + k * 5) (by omega) (by omega) (by kernel_rfl) (by kernel_rfl) (by kernel_rfl) rfl (by kernel_rfl) ?_
    refine x_loadcn (t := 29) ga (oa + k * 5) [.int .i64 ((l.getD k (0, 0, 0, 0, 0)).1), .int .i64 ((l.getD k (0, 0, 0, 0, 0)).2.1), .int .i64 ((l.getD k (0, 0, 0, 0, 0)).2.2.1), .int .i64 ((l.getD k (0, 0, 0, 0, 0)).2.2.2.1), .int .i64 ((l.getD k (0, 0, 0, 0, 0)).2.2.2.2)] (hcell _ H.below k (by omega)) (by kernel_rfl) rfl (by kernel_rfl) (by kernel_rfl) ?_
    refine x_box H #[.int .i64 0, .int .i64 0, .int .i64 0, .int .i64 0, .int .i64 0] 29 (by kernel_rfl) rfl (by kernel_rfl) ?_
    clear H
    intro v15 g2 H
    refine x_store (t := 29) (v := .agg #[.int .i64 ((l.getD k (0, 0, 0, 0, 0)).1), .int .i64 ((l.getD k (0, 0, 0, 0, 0)).2.1), .int .i64 ((l.getD k (0, 0, 0, 0, 0)).2.2.1), .int .i64 ((l.getD k (0, 0, 0, 0, 0)).2.2.2.1), .int .i64 ((l.getD k (0, 0, 0, 0, 0)).2.2.2.2)]) H 0 g2 0 #[.int .i64 0, .int .i64 0, .int .i64 0, .int .i64 0, .int .i64 0] #[.int .i64 ((l.getD k (0, 0, 0, 0, 0)).1), .int .i64 ((l.getD k (0, 0, 0, 0, 0)).2.1), .int .i64 ((l.getD k (0, 0, 0, 0, 0)).2.2.1), .int .i64 ((l.getD k (0, 0, 0, 0, 0)).2.2.2.1), .int .i64 ((l.getD k (0, 0, 0, 0, 0)).2.2.2.2)] 29 [.int .i64 ((l.getD k (0, 0, 0, 0, 0)).1), .int .i64 ((l.getD k (0, 0, 0, 0, 0)).2.1), .int .i64 ((l.getD k (0, 0, 0, 0, 0)).2.2.1), .int .i64 ((l.getD k (0, 0, 0, 0, 0)).2.2.2.1), .int .i64 ((l.getD k (0, 0, 0, 0, 0)).2.2.2.2)] [.blk g2 #[.int .i64 ((l.getD k (0, 0, 0, 0, 0)).1), .int .i64 ((l.getD k (0, 0, 0, 0, 0)).2.1), .int .i64 ((l.getD k (0, 0, 0, 0, 0)).2.2.1), .int .i64 ((l.getD k (0, 0, 0, 0, 0)).2.2.2.1), .int .i64 ((l.getD k (0, 0, 0, 0, 0)).2.2.2.2)] 29, .blk p #[.slice none 0 0, .int .i64 ((room : Nat) : Int), .int .i64 1, .bool false] 80, .row (.slice none 0 0) 29 5 (List.length ([] : List Rec)) (List.flatMap recL ([] : List Rec)), .blk g1 #[.slice aS (List.length l) cS, .int .i64 nx, .bool lo] 50] (by kernel_rfl) rfl (by kernel_rfl) (by kernel_rfl) (by kernel_rfl) (by kernel_rfl) (by kernel_rfl) (by kernel_rfl) (by kernel_rfl) (by kernel_rfl) ?_
    clear H
    intro v16 H
    refine x_nil ?_
    refine x_then ?_
    refine x_seq ?_
    refine x_seq ?_
    refine x_region ?_
    refine x_val (.pointer (some ⟨g2, 0, none⟩)) (by kernel_rfl) rfl (by kernel_rfl) ?_
    refine x_load1 H 0 g2 0 #[.int .i64 ((l.getD k (0, 0, 0, 0, 0)).1), .int .i64 ((l.getD k (0, 0, 0, 0, 0)).2.1), .int .i64 ((l.getD k (0, 0, 0, 0, 0)).2.2.1), .int .i64 ((l.getD k (0, 0, 0, 0, 0)).2.2.2.1), .int .i64 ((l.getD k (0, 0, 0, 0, 0)).2.2.2.2)] 29 (.int .i64 ((l.getD k (0, 0, 0, 0, 0)).1)) (by kernel_rfl) (by kernel_rfl) (by kernel_rfl) rfl (by kernel_rfl) ?_
    refine x_val (.int .i64 (lastS l k)) (by kernel_rfl) rfl (by kernel_rfl) ?_
    refine x_val (.bool (decide (((l.getD k (0, 0, 0, 0, 0)).1) ≤ (lastS l k)))) (by kernel_rfl) rfl (by kernel_rfl) ?_
    refine x_nil ?_
    refine x_then ?_
    cases h5 : decide (((l.getD k (0, 0, 0, 0, 0)).1) ≤ (lastS l k))
    · skip
      have h5p := of_decide_eq_false h5
      refine x_f (by kernel_rfl) ?_
      refine x_skipc ?_
      refine x_then ?_
      refine x_region ?_
      refine x_val (.pointer (some ⟨g2, 0, none⟩)) (by kernel_rfl) rfl (by kernel_rfl) ?_
      refine x_load1 H 0 g2 0 #[.int .i64 ((l.getD k (0, 0, 0, 0, 0)).1), .int .i64 ((l.getD k (0, 0, 0, 0, 0)).2.1), .int .i64 ((l.getD k (0, 0, 0, 0, 0)).2.2.1), .int .i64 ((l.getD k (0, 0, 0, 0, 0)).2.2.2.1), .int .i64 ((l.getD k (0, 0, 0, 0, 0)).2.2.2.2)] 29 (.int .i64 ((l.getD k (0, 0, 0, 0, 0)).1)) (by kernel_rfl) (by kernel_rfl) (by kernel_rfl) rfl (by kernel_rfl) ?_
      refine x_val (.int .i64 ((l.getD k (0, 0, 0, 0, 0)).1)) (by kernel_rfl) rfl (by kernel_rfl) ?_
      refine x_nil ?_
      refine x_blk ?_
      refine x_then ?_
      refine x_region ?_
      refine x_ar (((k : Nat) : Int) + 1) ⟨by omega, by omega⟩ (by kernel_rfl) rfl (by kernel_rfl) ?_
      refine x_val (.int .i64 (((k : Nat) : Int) + 1)) (by kernel_rfl) rfl (by kernel_rfl) ?_
      refine x_nil ?_
      refine x_then ?_
      replace H := H.pick [1, 2, 3] [.blk p #[.slice none 0 0, .int .i64 ((room : Nat) : Int), .int .i64 1, .bool false] 80, .row (.slice none 0 0) 29 5 (List.length ([] : List Rec)) (List.flatMap recL ([] : List Rec)), .blk g1 #[.slice aS (List.length l) cS, .int .i64 nx, .bool lo] 50] (by decide) (by kernel_rfl)
      exact ⟨(k + 1), (by omega), (nthV [(uf1 0), (uf1 1), .pointer (some ⟨g2, 0, none⟩), .bool true, .pointer (some ⟨ga, oa + k * 5, none⟩), .agg #[.int .i64 ((l.getD k (0, 0, 0, 0, 0)).1), .int .i64 ((l.getD k (0, 0, 0, 0, 0)).2.1), .int .i64 ((l.getD k (0, 0, 0, 0, 0)).2.2.1), .int .i64 ((l.getD k (0, 0, 0, 0, 0)).2.2.2.1), .int .i64 ((l.getD k (0, 0, 0, 0, 0)).2.2.2.2)], .pointer (some ⟨g2, 0, none⟩), .int .i64 ((l.getD k (0, 0, 0, 0, 0)).1), .int .i64 (lastS l k), .bool false, .pointer (some ⟨g2, 0, none⟩), .int .i64 ((l.getD k (0, 0, 0, 0, 0)).1), .int .i64 (((k : Nat) : Int) + 1)]), (by kernel_rfl), H, (by omega), (fun i hi => by by_cases e : i = k; (subst e; omega); exact r2 i (by omega))⟩
    · skip
      have h5p := of_decide_eq_true h5
      refine x_t (by kernel_rfl) ?_
      refine x_seq ?_
      refine x_region ?_
      refine x_val (.pointer none) (by kernel_rfl) rfl (by kernel_rfl) ?_
      refine x_val (.int .i64 10) (by kernel_rfl) rfl (by kernel_rfl) ?_
      refine x_nil ?_
      refine x_then ?_
      refine x_retc ?_
      refine x_then_ret ?_
      refine x_blk_ret ?_
      refine x_then_ret ?_
      refine x_then_ret ?_
      refine x_blk_ret ?_
      refine x_then_ret ?_
      refine x_ret (.tuple #[.pointer none, .int .i64 10]) (by kernel_rfl) (by kernel_rfl) ?_
      exact ⟨rfl, H.below⟩

set_option maxRecDepth 100000 in
set_option maxHeartbeats 2000000 in
theorem Restore_no (room : Int) (aS : Option Addr) (cS : Nat) (l : List Rec) (nx : Int) (lo : Bool) (h1 : room < 1 ∨ 256 < room) (w0 : World) :
    Calls Try.prog 21 #[.int .i64 room, .agg #[.slice aS (List.length l) cS, .int .i64 nx, .bool lo]] w0 fun e w' => e = .returned (.tuple #[.pointer none, .int .i64 12]) ∧ Below w0.heap.size w0 w' := by
  refine x_enter Try.func21 rfl #[.int .i64 room, .agg #[.slice aS (List.length l) cS, .int .i64 nx, .bool lo], undef, undef, undef, undef, undef, undef, undef, undef, undef, undef, undef, undef, undef, undef, undef, undef, undef, undef, undef, undef, undef, undef, undef, undef, undef, undef, undef, undef, undef, undef, undef, undef, undef, undef, undef, undef, undef, undef, undef, undef, undef, undef, undef, undef, undef, undef, undef, undef, undef, undef, undef, undef, undef, undef, undef, undef, undef, undef, undef, undef, undef, undef, undef] (by kernel_rfl) ?_
  have H := Hs.nil w0
  refine x_seq ?_
  refine x_region ?_
  refine x_box H #[.slice aS (List.length l) cS, .int .i64 nx, .bool lo] 50 (by kernel_rfl) rfl (by kernel_rfl) ?_
  clear H
  intro v1 g1 H
  refine x_val (.pointer none) (by kernel_rfl) rfl (by kernel_rfl) ?_
  refine x_val (.int .i64 0) (by kernel_rfl) rfl (by kernel_rfl) ?_
  refine x_nil ?_
  refine x_then ?_
  refine x_seq ?_
  refine x_region ?_
  refine x_val (.int .i64 room) (by kernel_rfl) rfl (by kernel_rfl) ?_
  refine x_callB (.tuple #[.pointer none, .int .i64 12]) H (by kernel_rfl) rfl (by kernel_rfl) (RNew_no room h1 _) ?_
  clear H
  intro v2 H
  refine x_val (.tuple #[.pointer none, .int .i64 12]) (by kernel_rfl) rfl (by kernel_rfl) ?_
  refine x_val (.pointer none) (by kernel_rfl) rfl (by kernel_rfl) ?_
  refine x_val (.int .i64 12) (by kernel_rfl) rfl (by kernel_rfl) ?_
  refine x_val (.pointer none) (by kernel_rfl) rfl (by kernel_rfl) ?_
  refine x_val (.int .i64 12) (by kernel_rfl) rfl (by kernel_rfl) ?_
  refine x_nil ?_
  refine x_then ?_
  refine x_seq ?_
  refine x_seq ?_
  refine x_region ?_
  refine x_val (.int .i64 12) (by kernel_rfl) rfl (by kernel_rfl) ?_
  refine x_val (.bool true) (by kernel_rfl) rfl (by kernel_rfl) ?_
  refine x_nil ?_
  refine x_then ?_
  refine x_t (by kernel_rfl) ?_
  refine x_seq ?_
  refine x_region ?_
  refine x_val (.int .i64 12) (by kernel_rfl) rfl (by kernel_rfl) ?_
  refine x_val (.pointer none) (by kernel_rfl) rfl (by kernel_rfl) ?_
  refine x_val (.int .i64 12) (by kernel_rfl) rfl (by kernel_rfl) ?_
  refine x_nil ?_
  refine x_then ?_
  refine x_retc ?_
  refine x_then_ret ?_
  refine x_ret (.tuple #[.pointer none, .int .i64 12]) (by kernel_rfl) (by kernel_rfl) ?_
  exact ⟨rfl, H.below⟩

end Go.Proofs.Ytpeefnbcgilihaa
