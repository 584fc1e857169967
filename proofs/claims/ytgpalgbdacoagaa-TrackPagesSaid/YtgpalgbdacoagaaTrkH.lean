/- The law TrackPages, walked. -/
import Derived.Test.YtgpalgbdacoagaaTrkL
import Derived.Test.YtgpalgbdacoagaaRat
namespace Go.Proofs.Ytgpalgbdacoagaa
open Go Go.RowKit
set_option linter.unusedVariables false
set_option linter.unusedSimpArgs false

set_option maxRecDepth 100000 in
set_option maxHeartbeats 4000000 in
theorem pages_bad (rL rE pL pE hv room ranks page : Int) (ad : Option Addr) (nA cA : Nat) (hb : ¬ Rul rL rE pL pE room hv) (w0 : World) :
    Calls Try.prog 7 #[.agg #[.int .i64 rL, .int .i64 rE, .int .i64 pL, .int .i64 pE, .int .i64 room, .int .i64 hv], .int .i64 ranks, .slice ad nA cA, .int .i64 page] w0 fun e w' => e = .returned (.bool true) ∧ Below w0.heap.size w0 w' := by
  refine x_enter Try.func7 rfl #[.agg #[.int .i64 rL, .int .i64 rE, .int .i64 pL, .int .i64 pE, .int .i64 room, .int .i64 hv], .int .i64 ranks, .slice ad nA cA, .int .i64 page, undef, undef, undef, undef, undef, undef, undef, undef, undef, undef, undef, undef, undef, undef, undef, undef, undef, undef, undef, undef, undef, undef, undef, undef, undef, undef, undef, undef, undef, undef, undef, undef, undef, undef, undef, undef, undef, undef, undef, undef, undef, undef, undef, undef, undef, undef, undef, undef, undef, undef, undef, undef, undef, undef, undef, undef, undef, undef, undef, undef, undef, undef, undef, undef, undef, undef, undef, undef, undef, undef, undef, undef, undef, undef, undef, undef, undef, undef, undef, undef, undef, undef, undef, undef, undef, undef, undef, undef, undef, undef, undef, undef, undef, undef, undef, undef, undef, undef, undef, undef, undef, undef, undef, undef, undef, undef, undef, undef, undef, undef, undef, undef, undef, undef, undef, undef, undef, undef, undef, undef, undef, undef, undef, undef, undef, undef, undef, undef, undef] (by kernel_rfl) ?_
  have H := Hs.nil w0
  refine x_seq ?_
  refine x_region ?_
  refine x_box H #[.int .i64 rL, .int .i64 rE, .int .i64 pL, .int .i64 pE, .int .i64 room, .int .i64 hv] 80 (by kernel_rfl) rfl (by kernel_rfl) ?_
  clear H
  intro v1 g1 H
  refine x_val (.bool false) (by kernel_rfl) rfl (by kernel_rfl) ?_
  refine x_nil ?_
  refine x_then ?_
  refine x_seq ?_
  refine x_seq ?_
  refine x_region ?_
  refine x_callB (.bool true) H (by kernel_rfl) rfl (by kernel_rfl) (anchor18 _) ?_
  clear H
  intro v2 H
  refine x_val (.bool false) (by kernel_rfl) rfl (by kernel_rfl) ?_
  refine x_nil ?_
  refine x_then ?_
  refine x_f (by kernel_rfl) ?_
  refine x_skipc ?_
  refine x_then ?_
  refine x_seq ?_
  refine x_region ?_
  refine x_loadn (t := 80) H 0 g1 0 #[.int .i64 rL, .int .i64 rE, .int .i64 pL, .int .i64 pE, .int .i64 room, .int .i64 hv] 80 [.int .i64 rL, .int .i64 rE, .int .i64 pL, .int .i64 pE, .int .i64 room, .int .i64 hv] (by kernel_rfl) (by kernel_rfl) (by kernel_rfl) rfl (by kernel_rfl) (by kernel_rfl) ?_
  refine x_val (.int .i64 ranks) (by kernel_rfl) rfl (by kernel_rfl) ?_
  refine x_callB (.tuple #[.pointer none, .int .i64 22]) H (by kernel_rfl) rfl (by kernel_rfl) (TkNew_bad rL rE pL pE room hv ranks hb _) ?_
  clear H
  intro v3 H
  refine x_val (.tuple #[.pointer none, .int .i64 22]) (by kernel_rfl) rfl (by kernel_rfl) ?_
  refine x_val (.pointer none) (by kernel_rfl) rfl (by kernel_rfl) ?_
  refine x_val (.int .i64 22) (by kernel_rfl) rfl (by kernel_rfl) ?_
  refine x_val (.pointer none) (by kernel_rfl) rfl (by kernel_rfl) ?_
  refine x_val (.int .i64 22) (by kernel_rfl) rfl (by kernel_rfl) ?_
  refine x_nil ?_
  refine x_then ?_
  refine x_seq ?_
  refine x_seq ?_
  refine x_region ?_
  refine x_val (.int .i64 22) (by kernel_rfl) rfl (by kernel_rfl) ?_
  refine x_val (.bool true) (by kernel_rfl) rfl (by kernel_rfl) ?_
  refine x_val (.bool true) (by kernel_rfl) rfl (by kernel_rfl) ?_
  refine x_skip (by kernel_rfl) ?_
  refine x_skip (by kernel_rfl) ?_
  refine x_val (.bool true) (by kernel_rfl) rfl (by kernel_rfl) ?_
  refine x_val (.bool true) (by kernel_rfl) rfl (by kernel_rfl) ?_
  refine x_skip (by kernel_rfl) ?_
  refine x_skip (by kernel_rfl) ?_
  refine x_skip (by kernel_rfl) ?_
  refine x_val (.bool true) (by kernel_rfl) rfl (by kernel_rfl) ?_
  refine x_val (.bool true) (by kernel_rfl) rfl (by kernel_rfl) ?_
  refine x_skip (by kernel_rfl) ?_
  refine x_skip (by kernel_rfl) ?_
  refine x_skip (by kernel_rfl) ?_
  refine x_skip (by kernel_rfl) ?_
  refine x_skip (by kernel_rfl) ?_
  refine x_val (.bool true) (by kernel_rfl) rfl (by kernel_rfl) ?_
  refine x_nil ?_
  refine x_frame' { tmps := #[.agg #[.int .i64 rL, .int .i64 rE, .int .i64 pL, .int .i64 pE, .int .i64 room, .int .i64 hv], .int .i64 ranks, .slice ad nA cA, .int .i64 page, .pointer (some ⟨g1, 0, none⟩), undef, undef, undef, .bool false, .pointer none, .int .i64 22, undef, undef, undef, undef, undef, undef, undef, undef, undef, .bool true, .bool false, .tuple #[.pointer none, .int .i64 22], .agg #[.int .i64 rL, .int .i64 rE, .int .i64 pL, .int .i64 pE, .int .i64 room, .int .i64 hv], .int .i64 ranks, .tuple #[.pointer none, .int .i64 22], .pointer none, .int .i64 22, .int .i64 22, .bool true, .bool true, undef, undef, .bool true, .bool true, undef, undef, undef, .bool true, .bool true, undef, undef, undef, undef, undef, .bool true, undef, undef, undef, undef, undef, undef, undef, undef, undef, undef, undef, undef, undef, undef, undef, undef, undef, undef, undef, undef, undef, undef, undef, undef, undef, undef, undef, undef, undef, undef, undef, undef, undef, undef, undef, undef, undef, undef, undef, undef, undef, undef, undef, undef, undef, undef, undef, undef, undef, undef, undef, undef, undef, undef, undef, undef, undef, undef, undef, undef, undef, undef, undef, undef, undef, undef, undef, undef, undef, undef, undef, undef, undef, undef, undef, undef, undef, undef, undef, undef, undef, undef, undef, undef, undef, undef, undef], defers := [] } (by kernel_rfl) ?_
  refine x_then ?_
  refine x_t (by kernel_rfl) ?_
  refine x_seq ?_
  refine x_region ?_
  refine x_val (.bool true) (by kernel_rfl) rfl (by kernel_rfl) ?_
  refine x_nil ?_
  refine x_then ?_
  refine x_retc ?_
  refine x_then_ret ?_
  refine x_ret (.bool true) (by kernel_rfl) (by kernel_rfl) ?_
  exact ⟨rfl, H.below⟩

set_option maxRecDepth 100000 in
set_option maxHeartbeats 4000000 in
theorem pages_rng (rL rE pL pE hv room ranks page : Int) (ad : Option Addr) (nA cA : Nat) (hb : Rul rL rE pL pE room hv) (hk : ranks < 1 ∨ 8 < ranks) (w0 : World) :
    Calls Try.prog 7 #[.agg #[.int .i64 rL, .int .i64 rE, .int .i64 pL, .int .i64 pE, .int .i64 room, .int .i64 hv], .int .i64 ranks, .slice ad nA cA, .int .i64 page] w0 fun e w' => e = .returned (.bool true) ∧ Below w0.heap.size w0 w' := by
  refine x_enter Try.func7 rfl #[.agg #[.int .i64 rL, .int .i64 rE, .int .i64 pL, .int .i64 pE, .int .i64 room, .int .i64 hv], .int .i64 ranks, .slice ad nA cA, .int .i64 page, undef, undef, undef, undef, undef, undef, undef, undef, undef, undef, undef, undef, undef, undef, undef, undef, undef, undef, undef, undef, undef, undef, undef, undef, undef, undef, undef, undef, undef, undef, undef, undef, undef, undef, undef, undef, undef, undef, undef, undef, undef, undef, undef, undef, undef, undef, undef, undef, undef, undef, undef, undef, undef, undef, undef, undef, undef, undef, undef, undef, undef, undef, undef, undef, undef, undef, undef, undef, undef, undef, undef, undef, undef, undef, undef, undef, undef, undef, undef, undef, undef, undef, undef, undef, undef, undef, undef, undef, undef, undef, undef, undef, undef, undef, undef, undef, undef, undef, undef, undef, undef, undef, undef, undef, undef, undef, undef, undef, undef, undef, undef, undef, undef, undef, undef, undef, undef, undef, undef, undef, undef, undef, undef, undef, undef, undef, undef, undef, undef] (by kernel_rfl) ?_
  have H := Hs.nil w0
  refine x_seq ?_
  refine x_region ?_
  refine x_box H #[.int .i64 rL, .int .i64 rE, .int .i64 pL, .int .i64 pE, .int .i64 room, .int .i64 hv] 80 (by kernel_rfl) rfl (by kernel_rfl) ?_
  clear H
  intro v1 g1 H
  refine x_val (.bool false) (by kernel_rfl) rfl (by kernel_rfl) ?_
  refine x_nil ?_
  refine x_then ?_
  refine x_seq ?_
  refine x_seq ?_
  refine x_region ?_
  refine x_callB (.bool true) H (by kernel_rfl) rfl (by kernel_rfl) (anchor18 _) ?_
  clear H
  intro v2 H
  refine x_val (.bool false) (by kernel_rfl) rfl (by kernel_rfl) ?_
  refine x_nil ?_
  refine x_then ?_
  refine x_f (by kernel_rfl) ?_
  refine x_skipc ?_
  refine x_then ?_
  refine x_seq ?_
  refine x_region ?_
  refine x_loadn (t := 80) H 0 g1 0 #[.int .i64 rL, .int .i64 rE, .int .i64 pL, .int .i64 pE, .int .i64 room, .int .i64 hv] 80 [.int .i64 rL, .int .i64 rE, .int .i64 pL, .int .i64 pE, .int .i64 room, .int .i64 hv] (by kernel_rfl) (by kernel_rfl) (by kernel_rfl) rfl (by kernel_rfl) (by kernel_rfl) ?_
  refine x_val (.int .i64 ranks) (by kernel_rfl) rfl (by kernel_rfl) ?_
  refine x_callB (.tuple #[.pointer none, .int .i64 12]) H (by kernel_rfl) rfl (by kernel_rfl) (TkNew_rng rL rE pL pE room hv ranks hb hk _) ?_
  clear H
  intro v3 H
  refine x_val (.tuple #[.pointer none, .int .i64 12]) (by kernel_rfl) rfl (by kernel_rfl) ?_
  refine x_val (.pointer none) (by kernel_rfl) rfl (by kernel_rfl) ?_
  refine x_val (.int .i64 12) (by kernel_rfl) rfl (by kernel_rfl) ?_
  refine x_val (.pointer none) (by kernel_rfl) rfl (by kernel_rfl) ?_
  refine x_val (.int .i64 12) (by kernel_rfl) rfl (by kernel_rfl) ?_
  refine x_nil ?_
  refine x_then ?_
  refine x_seq ?_
  refine x_seq ?_
  refine x_region ?_
  refine x_val (.int .i64 12) (by kernel_rfl) rfl (by kernel_rfl) ?_
  refine x_val (.bool true) (by kernel_rfl) rfl (by kernel_rfl) ?_
  refine x_val (.bool true) (by kernel_rfl) rfl (by kernel_rfl) ?_
  refine x_skip (by kernel_rfl) ?_
  refine x_skip (by kernel_rfl) ?_
  refine x_val (.bool true) (by kernel_rfl) rfl (by kernel_rfl) ?_
  refine x_val (.bool true) (by kernel_rfl) rfl (by kernel_rfl) ?_
  refine x_skip (by kernel_rfl) ?_
  refine x_skip (by kernel_rfl) ?_
  refine x_skip (by kernel_rfl) ?_
  refine x_val (.bool true) (by kernel_rfl) rfl (by kernel_rfl) ?_
  refine x_val (.bool true) (by kernel_rfl) rfl (by kernel_rfl) ?_
  refine x_skip (by kernel_rfl) ?_
  refine x_skip (by kernel_rfl) ?_
  refine x_skip (by kernel_rfl) ?_
  refine x_skip (by kernel_rfl) ?_
  refine x_skip (by kernel_rfl) ?_
  refine x_val (.bool true) (by kernel_rfl) rfl (by kernel_rfl) ?_
  refine x_nil ?_
  refine x_frame' { tmps := #[.agg #[.int .i64 rL, .int .i64 rE, .int .i64 pL, .int .i64 pE, .int .i64 room, .int .i64 hv], .int .i64 ranks, .slice ad nA cA, .int .i64 page, .pointer (some ⟨g1, 0, none⟩), undef, undef, undef, .bool false, .pointer none, .int .i64 12, undef, undef, undef, undef, undef, undef, undef, undef, undef, .bool true, .bool false, .tuple #[.pointer none, .int .i64 12], .agg #[.int .i64 rL, .int .i64 rE, .int .i64 pL, .int .i64 pE, .int .i64 room, .int .i64 hv], .int .i64 ranks, .tuple #[.pointer none, .int .i64 12], .pointer none, .int .i64 12, .int .i64 12, .bool true, .bool true, undef, undef, .bool true, .bool true, undef, undef, undef, .bool true, .bool true, undef, undef, undef, undef, undef, .bool true, undef, undef, undef, undef, undef, undef, undef, undef, undef, undef, undef, undef, undef, undef, undef, undef, undef, undef, undef, undef, undef, undef, undef, undef, undef, undef, undef, undef, undef, undef, undef, undef, undef, undef, undef, undef, undef, undef, undef, undef, undef, undef, undef, undef, undef, undef, undef, undef, undef, undef, undef, undef, undef, undef, undef, undef, undef, undef, undef, undef, undef, undef, undef, undef, undef, undef, undef, undef, undef, undef, undef, undef, undef, undef, undef, undef, undef, undef, undef, undef, undef, undef, undef, undef, undef, undef, undef], defers := [] } (by kernel_rfl) ?_
  refine x_then ?_
  refine x_t (by kernel_rfl) ?_
  refine x_seq ?_
  refine x_region ?_
  refine x_val (.bool true) (by kernel_rfl) rfl (by kernel_rfl) ?_
  refine x_nil ?_
  refine x_then ?_
  refine x_retc ?_
  refine x_then_ret ?_
  refine x_ret (.bool true) (by kernel_rfl) (by kernel_rfl) ?_
  exact ⟨rfl, H.below⟩

theorem PgOk.ok {xs : List PairB} {page : Int} {b : Buk} {has : Bool} {k : Nat} (h : PgOk xs page b has k) {E : Int} (hE : 1 ≤ E) (hc : ∀ x ∈ xs, RB E x.2) : RB E b := by
  rw [← h.get.1]; exact getB_ok hE hc _

set_option maxRecDepth 100000 in
set_option maxHeartbeats 4000000 in
theorem pages_yes (rL rE pL pE hv : Int) (room ranks : Nat) (ad : Option Addr) (nA cA : Nat) (page : Int) (hlen : nA ≤ 60) (hroom : nA ≤ room) (hR : Rul rL rE pL pE ((room : Nat) : Int) hv) (h1 : 1 ≤ ranks) (h2 : ranks ≤ 8) (l : List Int4) (w0 : World) (hA : RAt int4L 4 (0, 0, 0, 0) w0 ad nA l) :
    Calls Try.prog 7 #[.agg #[.int .i64 rL, .int .i64 rE, .int .i64 pL, .int .i64 pE, .int .i64 ((room : Nat) : Int), .int .i64 hv], .int .i64 ((ranks : Nat) : Int), .slice ad nA cA, .int .i64 page] w0 fun e w' => e = .returned (.bool true) ∧ Below w0.heap.size w0 w' := by
  refine x_enter Try.func7 rfl #[.agg #[.int .i64 rL, .int .i64 rE, .int .i64 pL, .int .i64 pE, .int .i64 ((room : Nat) : Int), .int .i64 hv], .int .i64 ((ranks : Nat) : Int), .slice ad nA cA, .int .i64 page, undef, undef, undef, undef, undef, undef, undef, undef, undef, undef, undef, undef, undef, undef, undef, undef, undef, undef, undef, undef, undef, undef, undef, undef, undef, undef, undef, undef, undef, undef, undef, undef, undef, undef, undef, undef, undef, undef, undef, undef, undef, undef, undef, undef, undef, undef, undef, undef, undef, undef, undef, undef, undef, undef, undef, undef, undef, undef, undef, undef, undef, undef, undef, undef, undef, undef, undef, undef, undef, undef, undef, undef, undef, undef, undef, undef, undef, undef, undef, undef, undef, undef, undef, undef, undef, undef, undef, undef, undef, undef, undef, undef, undef, undef, undef, undef, undef, undef, undef, undef, undef, undef, undef, undef, undef, undef, undef, undef, undef, undef, undef, undef, undef, undef, undef, undef, undef, undef, undef, undef, undef, undef, undef, undef, undef, undef, undef, undef, undef] (by kernel_rfl) ?_
  have H := Hs.nil w0
  have q1 : decide (60 < ((nA : Nat) : Int)) = false := decide_eq_false (by omega)
  have q2 : decide (((room : Nat) : Int) < ((nA : Nat) : Int)) = false := decide_eq_false (by omega)
  refine x_seq ?_
  refine x_region ?_
  refine x_box H #[.int .i64 rL, .int .i64 rE, .int .i64 pL, .int .i64 pE, .int .i64 ((room : Nat) : Int), .int .i64 hv] 80 (by kernel_rfl) rfl (by kernel_rfl) ?_
  clear H
  intro v1 g1 H
  refine x_val (.bool false) (by kernel_rfl) rfl (by kernel_rfl) ?_
  refine x_nil ?_
  refine x_then ?_
  refine x_seq ?_
  refine x_seq ?_
  refine x_region ?_
  refine x_callB (.bool true) H (by kernel_rfl) rfl (by kernel_rfl) (anchor18 _) ?_
  clear H
  intro v2 H
  refine x_val (.bool false) (by kernel_rfl) rfl (by kernel_rfl) ?_
  refine x_nil ?_
  refine x_then ?_
  refine x_f (by kernel_rfl) ?_
  refine x_skipc ?_
  refine x_then ?_
  refine x_seq ?_
  refine x_region ?_
  refine x_loadn (t := 80) H 0 g1 0 #[.int .i64 rL, .int .i64 rE, .int .i64 pL, .int .i64 pE, .int .i64 ((room : Nat) : Int), .int .i64 hv] 80 [.int .i64 rL, .int .i64 rE, .int .i64 pL, .int .i64 pE, .int .i64 ((room : Nat) : Int), .int .i64 hv] (by kernel_rfl) (by kernel_rfl) (by kernel_rfl) rfl (by kernel_rfl) (by kernel_rfl) ?_
  refine x_val (.int .i64 ((ranks : Nat) : Int)) (by kernel_rfl) rfl (by kernel_rfl) ?_
  refine x_call (by kernel_rfl) rfl (by kernel_rfl) (TkNew_yes rL rE pL pE hv room ranks hR h1 h2 _) ?_
  rintro _ v3 ⟨p, gr, t, rfl, hN'⟩
  refine ⟨_, rfl, ?_⟩
  replace H := H.more hN'
  clear hN'
  replace H : Hs [] w0 _ [.blk p #[.int .i64 rL, .int .i64 rE, .int .i64 pL, .int .i64 pE, .int .i64 ((room : Nat) : Int), .int .i64 hv, .slice (some ⟨gr, 0, none⟩) ranks ranks, .pointer (some ⟨t, 0, none⟩)] 187, .row (.slice (some ⟨gr, 0, none⟩) ranks ranks) 86 2 ranks (List.flatMap bukL (List.replicate ranks (0, 0))), .blk t #[.slice none 0 0, .int .i64 ((room : Nat) : Int), .func (.func 103) #[] #[]] 228, .row (.slice none 0 0) 230 3 (List.length ([] : List PairB)) (List.flatMap pairLB ([] : List PairB)), .blk g1 #[.int .i64 rL, .int .i64 rE, .int .i64 pL, .int .i64 pE, .int .i64 ((room : Nat) : Int), .int .i64 hv] 80] := H
  have hP : TP ranks room rL rE pL pE := ⟨hR.1, hR.2.1, ⟨by have := hR.2.2.1; omega, h2⟩, ⟨by have := hR.2.2.1; omega, h1⟩⟩
  refine x_val (.tuple #[.pointer (some ⟨p, 0, none⟩), .int .i64 0]) (by kernel_rfl) rfl (by kernel_rfl) ?_
  refine x_val (.pointer (some ⟨p, 0, none⟩)) (by kernel_rfl) rfl (by kernel_rfl) ?_
  refine x_val (.int .i64 0) (by kernel_rfl) rfl (by kernel_rfl) ?_
  refine x_val (.pointer (some ⟨p, 0, none⟩)) (by kernel_rfl) rfl (by kernel_rfl) ?_
  refine x_val (.int .i64 0) (by kernel_rfl) rfl (by kernel_rfl) ?_
  refine x_nil ?_
  refine x_then ?_
  refine x_seq ?_
  refine x_seq ?_
  refine x_region ?_
  refine x_val (.int .i64 0) (by kernel_rfl) rfl (by kernel_rfl) ?_
  refine x_val (.bool false) (by kernel_rfl) rfl (by kernel_rfl) ?_
  refine x_val (.bool false) (by kernel_rfl) rfl (by kernel_rfl) ?_
  refine x_val (.pointer (some ⟨p, 0, none⟩)) (by kernel_rfl) rfl (by kernel_rfl) ?_
  refine x_val (.bool false) (by kernel_rfl) rfl (by kernel_rfl) ?_
  refine x_val (.bool false) (by kernel_rfl) rfl (by kernel_rfl) ?_
  refine x_val (.bool false) (by kernel_rfl) rfl (by kernel_rfl) ?_
  refine x_val (.slice ad nA cA) (by kernel_rfl) rfl (by kernel_rfl) ?_
  refine x_val (.int .i64 ((nA : Nat) : Int)) (by kernel_rfl) rfl (by kernel_rfl) ?_
  refine x_val (.bool (decide (60 < ((nA : Nat) : Int)))) (by kernel_rfl) rfl (by kernel_rfl) ?_
  refine x_val (.bool (decide (60 < ((nA : Nat) : Int)))) (by kernel_rfl) rfl (by kernel_rfl) ?_
  refine x_val (.bool (decide (60 < ((nA : Nat) : Int)))) (by kernel_rfl) rfl (by kernel_rfl) ?_
  rw [q1]
  refine x_val (.pointer (some ⟨g1, 4, none⟩)) (by kernel_rfl) rfl (by kernel_rfl) ?_
  refine x_load1 H 4 g1 4 #[.int .i64 rL, .int .i64 rE, .int .i64 pL, .int .i64 pE, .int .i64 ((room : Nat) : Int), .int .i64 hv] 80 (.int .i64 ((room : Nat) : Int)) (by kernel_rfl) (by kernel_rfl) (by kernel_rfl) rfl (by kernel_rfl) ?_
  refine x_val (.slice ad nA cA) (by kernel_rfl) rfl (by kernel_rfl) ?_
  refine x_val (.int .i64 ((nA : Nat) : Int)) (by kernel_rfl) rfl (by kernel_rfl) ?_
  refine x_val (.bool (decide (((room : Nat) : Int) < ((nA : Nat) : Int)))) (by kernel_rfl) rfl (by kernel_rfl) ?_
  refine x_val (.bool (decide (((room : Nat) : Int) < ((nA : Nat) : Int)))) (by kernel_rfl) rfl (by kernel_rfl) ?_
  refine x_nil ?_
  refine x_frame' { tmps := #[.agg #[.int .i64 rL, .int .i64 rE, .int .i64 pL, .int .i64 pE, .int .i64 ((room : Nat) : Int), .int .i64 hv], .int .i64 ((ranks : Nat) : Int), .slice ad nA cA, .int .i64 page, .pointer (some ⟨g1, 0, none⟩), undef, undef, undef, .bool false, .pointer (some ⟨p, 0, none⟩), .int .i64 0, undef, undef, undef, undef, undef, undef, undef, undef, undef, .bool true, .bool false, .tuple #[.pointer (some ⟨p, 0, none⟩), .int .i64 0], .agg #[.int .i64 rL, .int .i64 rE, .int .i64 pL, .int .i64 pE, .int .i64 ((room : Nat) : Int), .int .i64 hv], .int .i64 ((ranks : Nat) : Int), .tuple #[.pointer (some ⟨p, 0, none⟩), .int .i64 0], .pointer (some ⟨p, 0, none⟩), .int .i64 0, .int .i64 0, .bool false, .bool false, .pointer (some ⟨p, 0, none⟩), .bool false, .bool false, .bool false, .slice ad nA cA, .int .i64 ((nA : Nat) : Int), .bool false, .bool false, .bool false, .pointer (some ⟨g1, 4, none⟩), .int .i64 ((room : Nat) : Int), .slice ad nA cA, .int .i64 ((nA : Nat) : Int), .bool (decide (((room : Nat) : Int) < ((nA : Nat) : Int))), .bool (decide (((room : Nat) : Int) < ((nA : Nat) : Int))), undef, undef, undef, undef, undef, undef, undef, undef, undef, undef, undef, undef, undef, undef, undef, undef, undef, undef, undef, undef, undef, undef, undef, undef, undef, undef, undef, undef, undef, undef, undef, undef, undef, undef, undef, undef, undef, undef, undef, undef, undef, undef, undef, undef, undef, undef, undef, undef, undef, undef, undef, undef, undef, undef, undef, undef, undef, undef, undef, undef, undef, undef, undef, undef, undef, undef, undef, undef, undef, undef, undef, undef, undef, undef, undef, undef, undef, undef, undef, undef, undef, undef, undef, undef, undef, undef, undef], defers := [] } (by kernel_rfl) ?_
  refine x_then ?_
  rw [q2]
  refine x_f (by kernel_rfl) ?_
  refine x_skipc ?_
  refine x_then ?_
  refine x_seq ?_
  refine x_region ?_
  refine x_box H #[.int .i64 0, .int .i64 0] 86 (by kernel_rfl) rfl (by kernel_rfl) ?_
  clear H
  intro v4 g2 H
  refine x_nil ?_
  refine x_then ?_
  refine x_seq ?_
  refine x_region ?_
  refine x_val (.bool false) (by kernel_rfl) rfl (by kernel_rfl) ?_
  refine x_nil ?_
  refine x_then ?_
  refine x_seq ?_
  refine x_seq ?_
  refine x_region ?_
  refine x_val (.slice ad nA cA) (by kernel_rfl) rfl (by kernel_rfl) ?_
  refine x_val (.int .i64 ((nA : Nat) : Int)) (by kernel_rfl) rfl (by kernel_rfl) ?_
  refine x_val (.int .i64 0) (by kernel_rfl) rfl (by kernel_rfl) ?_
  refine x_nil ?_
  refine x_then ?_
  refine x_block ?_
  replace H := H.pick [1, 2, 3, 4, 0, 5] [.blk p #[.int .i64 rL, .int .i64 rE, .int .i64 pL, .int .i64 pE, .int .i64 ((room : Nat) : Int), .int .i64 hv, .slice (some ⟨gr, 0, none⟩) ranks ranks, .pointer (some ⟨t, 0, none⟩)] 187, .row (.slice (some ⟨gr, 0, none⟩) ranks ranks) 86 2 ranks (List.flatMap bukL (List.replicate ranks (0, 0))), .blk t #[.slice none 0 0, .int .i64 ((room : Nat) : Int), .func (.func 103) #[] #[]] 228, .row (.slice none 0 0) 230 3 (List.length ([] : List PairB)) (List.flatMap pairLB ([] : List PairB)), .blk g2 #[.int .i64 0, .int .i64 0] 86, .blk g1 #[.int .i64 rL, .int .i64 rE, .int .i64 pL, .int .i64 pE, .int .i64 ((room : Nat) : Int), .int .i64 hv] 80] (by decide) (by kernel_rfl)
  refine x_loop (G := Nat × Value × List Buk × List PairB × Buk × Bool) (fun gh a w' => match gh with | (k, sv, rs, xs, b, has) => ∃ uf1 : Nat → Value, a = { tmps := #[.agg #[.int .i64 rL, .int .i64 rE, .int .i64 pL, .int .i64 pE, .int .i64 ((room : Nat) : Int), .int .i64 hv], .int .i64 ((ranks : Nat) : Int), .slice ad nA cA, .int .i64 page, .pointer (some ⟨g1, 0, none⟩), undef, undef, undef, (uf1 0), .pointer (some ⟨p, 0, none⟩), .int .i64 0, .pointer (some ⟨g2, 0, none⟩), .bool has, undef, (uf1 1), (uf1 2), (uf1 3), (uf1 4), (uf1 5), (uf1 6), .bool true, .bool false, .tuple #[.pointer (some ⟨p, 0, none⟩), .int .i64 0], .agg #[.int .i64 rL, .int .i64 rE, .int .i64 pL, .int .i64 pE, .int .i64 ((room : Nat) : Int), .int .i64 hv], .int .i64 ((ranks : Nat) : Int), .tuple #[.pointer (some ⟨p, 0, none⟩), .int .i64 0], .pointer (some ⟨p, 0, none⟩), .int .i64 0, .int .i64 0, .bool false, .bool false, .pointer (some ⟨p, 0, none⟩), .bool false, .bool false, .bool false, .slice ad nA cA, .int .i64 ((nA : Nat) : Int), .bool false, .bool false, .bool false, .pointer (some ⟨g1, 4, none⟩), .int .i64 ((room : Nat) : Int), .slice ad nA cA, .int .i64 ((nA : Nat) : Int), .bool false, .bool false, .slice ad nA cA, .int .i64 ((nA : Nat) : Int), .int .i64 ((k : Nat) : Int), (uf1 7), (uf1 8), (uf1 9), (uf1 10), (uf1 11), (uf1 12), (uf1 13), (uf1 14), (uf1 15), (uf1 16), (uf1 17), (uf1 18), (uf1 19), (uf1 20), (uf1 21), (uf1 22), (uf1 23), (uf1 24), (uf1 25), (uf1 26), (uf1 27), (uf1 28), (uf1 29), (uf1 30), (uf1 31), (uf1 32), (uf1 33), (uf1 34), (uf1 35), (uf1 36), (uf1 37), (uf1 38), (uf1 39), (uf1 40), (uf1 41), (uf1 42), (uf1 43), (uf1 44), (uf1 45), (uf1 46), (uf1 47), (uf1 48), (uf1 49), (uf1 50), (uf1 51), (uf1 52), (uf1 53), (uf1 54), (uf1 55), (uf1 56), (uf1 57), (uf1 58), (uf1 59), (uf1 60), (uf1 61), (uf1 62), (uf1 63), (uf1 64), (uf1 65), (uf1 66), (uf1 67), (uf1 68), (uf1 69), (uf1 70), (uf1 71), (uf1 72), (uf1 73), (uf1 74), (uf1 75), (uf1 76), (uf1 77), (uf1 78), (uf1 79), (uf1 80), (uf1 81), (uf1 82), (uf1 83), (uf1 84), (uf1 85), (uf1 86), (uf1 87), (uf1 88), (uf1 89), (uf1 90)], defers := [] } ∧ Hs [] w0 w' [.blk p #[.int .i64 rL, .int .i64 rE, .int .i64 pL, .int .i64 pE, .int .i64 ((room : Nat) : Int), .int .i64 hv, .slice (some ⟨gr, 0, none⟩) ranks ranks, .pointer (some ⟨t, 0, none⟩)] 187, .row (.slice (some ⟨gr, 0, none⟩) ranks ranks) 86 2 ranks (List.flatMap bukL rs), .blk t #[sv, .int .i64 ((room : Nat) : Int), .func (.func 103) #[] #[]] 228, .row (sv) 230 3 (List.length xs) (List.flatMap pairLB xs), .blk g2 #[.int .i64 b.1, .int .i64 b.2] 86, .blk g1 #[.int .i64 rL, .int .i64 rE, .int .i64 pL, .int .i64 pE, .int .i64 ((room : Nat) : Int), .int .i64 hv] 80] ∧ (k ≤ nA) ∧ (TOk ranks room rE pE rs xs) ∧ (PgOk xs page b has k) ∧ (RB pE b)) (fun gh => match gh with | (k, sv, rs, xs, b, has) => nA - k) (0, .slice none 0 0, (List.replicate ranks (0, 0)), ([] : List PairB), (0, 0), false) ⟨(nthV [.bool false, undef, undef, undef, undef, undef, undef, undef, undef, undef, undef, undef, undef, undef, undef, undef, undef, undef, undef, undef, undef, undef, undef, undef, undef, undef, undef, undef, undef, undef, undef, undef, undef, undef, undef, undef, undef, undef, undef, undef, undef, undef, undef, undef, undef, undef, undef, undef, undef, undef, undef, undef, undef, undef, undef, undef, undef, undef, undef, undef, undef, undef, undef, undef, undef, undef, undef, undef, undef, undef, undef, undef, undef, undef, undef, undef, undef, undef, undef, undef, undef, undef, undef, undef, undef, undef, undef, undef, undef, undef, undef]), (by kernel_rfl), H, (Nat.zero_le _), (TOk.new hP), (PgOk.new page), (RB.zero hP.p.2.2.1)⟩ ?_
  clear H
  rintro ⟨k, sv, rs, xs, b, has⟩ _ v5 ⟨uf1, rfl, H, r1, r2, r3, r4⟩
  have hk := r2
  have hpg := r3
  have hbo := r4
  refine x_seq ?_
  refine x_region ?_
  refine x_val (.bool (decide (((k : Nat) : Int) < ((nA : Nat) : Int)))) (by kernel_rfl) rfl (by kernel_rfl) ?_
  refine x_nil ?_
  refine x_then ?_
  refine x_seq ?_
  cases h1 : decide (((k : Nat) : Int) < ((nA : Nat) : Int))
  · skip
    have h1p := of_decide_eq_false h1
    refine x_f (by kernel_rfl) ?_
    refine x_exit ?_
    refine x_then_exit ?_
    refine x_then_exit ?_
    refine x_blk_exit ?_
    refine x_then ?_
    refine x_seq ?_
    refine x_region ?_
    refine x_val (.bool true) (by kernel_rfl) rfl (by kernel_rfl) ?_
    refine x_nil ?_
    refine x_then ?_
    refine x_retc ?_
    refine x_ret (.bool true) (by kernel_rfl) (by kernel_rfl) ?_
    exact ⟨rfl, H.below⟩
  · skip
    have h1p := of_decide_eq_true h1
    refine x_t (by kernel_rfl) ?_
    refine x_skipc ?_
    refine x_then ?_
    refine x_seq ?_
    refine x_block ?_
    refine x_seq ?_
    refine x_region ?_
    obtain ⟨ga, oa, had, hcell⟩ := hA (by omega)
    refine x_ixO (t := 81) had k nA cA 88 4 (oa + k * 4) (by omega) (by omega) (by kernel_rfl) (by kernel_rfl) (by kernel_rfl) rfl (by kernel_rfl) ?_
    refine x_loadcn (t := 88) ga (oa + k * 4) [.int .i64 ((l.getD k (0, 0, 0, 0)).1), .int .i64 ((l.getD k (0, 0, 0, 0)).2.1), .int .i64 ((l.getD k (0, 0, 0, 0)).2.2.1), .int .i64 ((l.getD k (0, 0, 0, 0)).2.2.2)] (hcell _ H.below k (by omega)) (by kernel_rfl) rfl (by kernel_rfl) (by kernel_rfl) ?_
    refine x_box H #[.int .i64 0, .int .i64 0, .int .i64 0, .int .i64 0] 88 (by kernel_rfl) rfl (by kernel_rfl) ?_
    clear H
    intro v6 g3 H
    refine x_store (t := 88) (v := .agg #[.int .i64 ((l.getD k (0, 0, 0, 0)).1), .int .i64 ((l.getD k (0, 0, 0, 0)).2.1), .int .i64 ((l.getD k (0, 0, 0, 0)).2.2.1), .int .i64 ((l.getD k (0, 0, 0, 0)).2.2.2)]) H 0 g3 0 #[.int .i64 0, .int .i64 0, .int .i64 0, .int .i64 0] #[.int .i64 ((l.getD k (0, 0, 0, 0)).1), .int .i64 ((l.getD k (0, 0, 0, 0)).2.1), .int .i64 ((l.getD k (0, 0, 0, 0)).2.2.1), .int .i64 ((l.getD k (0, 0, 0, 0)).2.2.2)] 88 [.int .i64 ((l.getD k (0, 0, 0, 0)).1), .int .i64 ((l.getD k (0, 0, 0, 0)).2.1), .int .i64 ((l.getD k (0, 0, 0, 0)).2.2.1), .int .i64 ((l.getD k (0, 0, 0, 0)).2.2.2)] [.blk g3 #[.int .i64 ((l.getD k (0, 0, 0, 0)).1), .int .i64 ((l.getD k (0, 0, 0, 0)).2.1), .int .i64 ((l.getD k (0, 0, 0, 0)).2.2.1), .int .i64 ((l.getD k (0, 0, 0, 0)).2.2.2)] 88, .blk p #[.int .i64 rL, .int .i64 rE, .int .i64 pL, .int .i64 pE, .int .i64 ((room : Nat) : Int), .int .i64 hv, .slice (some ⟨gr, 0, none⟩) ranks ranks, .pointer (some ⟨t, 0, none⟩)] 187, .row (.slice (some ⟨gr, 0, none⟩) ranks ranks) 86 2 ranks (List.flatMap bukL rs), .blk t #[sv, .int .i64 ((room : Nat) : Int), .func (.func 103) #[] #[]] 228, .row (sv) 230 3 (List.length xs) (List.flatMap pairLB xs), .blk g2 #[.int .i64 b.1, .int .i64 b.2] 86, .blk g1 #[.int .i64 rL, .int .i64 rE, .int .i64 pL, .int .i64 pE, .int .i64 ((room : Nat) : Int), .int .i64 hv] 80] (by kernel_rfl) rfl (by kernel_rfl) (by kernel_rfl) (by kernel_rfl) (by kernel_rfl) (by kernel_rfl) (by kernel_rfl) (by kernel_rfl) (by kernel_rfl) ?_
    clear H
    intro v7 H
    refine x_nil ?_
    refine x_then ?_
    refine x_seq ?_
    refine x_seq ?_
    refine x_region ?_
    refine x_val (.pointer (some ⟨g3, 0, none⟩)) (by kernel_rfl) rfl (by kernel_rfl) ?_
    refine x_load1 H 0 g3 0 #[.int .i64 ((l.getD k (0, 0, 0, 0)).1), .int .i64 ((l.getD k (0, 0, 0, 0)).2.1), .int .i64 ((l.getD k (0, 0, 0, 0)).2.2.1), .int .i64 ((l.getD k (0, 0, 0, 0)).2.2.2)] 88 (.int .i64 ((l.getD k (0, 0, 0, 0)).1)) (by kernel_rfl) (by kernel_rfl) (by kernel_rfl) rfl (by kernel_rfl) ?_
    refine x_nil ?_
    refine x_then ?_
    refine x_block ?_
    refine x_seq ?_
    refine x_region ?_
    refine x_val (.bool (decide (((l.getD k (0, 0, 0, 0)).1) = 1))) (by kernel_rfl) rfl (by kernel_rfl) ?_
    refine x_val (.bool (decide (((l.getD k (0, 0, 0, 0)).1) = 1))) (by kernel_rfl) rfl (by kernel_rfl) ?_
    refine x_nil ?_
    refine x_then ?_
    cases h2 : decide (((l.getD k (0, 0, 0, 0)).1) = 1)
    · skip
      have h2p := of_decide_eq_false h2
      refine x_f (by kernel_rfl) ?_
      refine x_seq ?_
      refine x_region ?_
      refine x_val (.bool (decide (((l.getD k (0, 0, 0, 0)).1) = 2))) (by kernel_rfl) rfl (by kernel_rfl) ?_
      refine x_val (.bool (decide (((l.getD k (0, 0, 0, 0)).1) = 2))) (by kernel_rfl) rfl (by kernel_rfl) ?_
      refine x_nil ?_
      refine x_then ?_
      cases h3 : decide (((l.getD k (0, 0, 0, 0)).1) = 2)
      · skip
        have h3p := of_decide_eq_false h3
        refine x_f (by kernel_rfl) ?_
        refine x_seq ?_
        refine x_region ?_
        refine x_val (.bool (decide (((l.getD k (0, 0, 0, 0)).1) = 4))) (by kernel_rfl) rfl (by kernel_rfl) ?_
        refine x_val (.bool (decide (((l.getD k (0, 0, 0, 0)).1) = 4))) (by kernel_rfl) rfl (by kernel_rfl) ?_
        refine x_nil ?_
        refine x_then ?_
        cases h4 : decide (((l.getD k (0, 0, 0, 0)).1) = 4)
        · skip
          have h4p := of_decide_eq_false h4
          refine x_f (by kernel_rfl) ?_
          refine x_skipc ?_
          refine x_blk ?_
          refine x_then ?_
          refine x_seq ?_
          refine x_region ?_
          refine x_val (.pointer (some ⟨p, 0, none⟩)) (by kernel_rfl) rfl (by kernel_rfl) ?_
          refine x_val (.int .i64 page) (by kernel_rfl) rfl (by kernel_rfl) ?_
          have hpg1 : PgOk xs page b has (k + 1) := hpg.next
          have hq1 := hpg1.get
          refine x_callB (.tuple #[.agg #[.int .i64 b.1, .int .i64 b.2], .bool has]) H (by kernel_rfl) rfl (by kernel_rfl) (by have h := Page_any page (Nat.le_trans hk.m (Nat.le_trans hP.m.1 (by decide))) _ (H.roOf [1, 3, 4] [.blk p #[.int .i64 rL, .int .i64 rE, .int .i64 pL, .int .i64 pE, .int .i64 ((room : Nat) : Int), .int .i64 hv, .slice (some ⟨gr, 0, none⟩) ranks ranks, .pointer (some ⟨t, 0, none⟩)] 187, .blk t #[sv, .int .i64 ((room : Nat) : Int), .func (.func 103) #[] #[]] 228, .row (sv) 230 3 (List.length xs) (List.flatMap pairLB xs)] (by kernel_rfl)); rw [hq1.1, hq1.2] at h; exact h) ?_
          clear H
          intro v8 H
          refine x_val (.tuple #[.agg #[.int .i64 b.1, .int .i64 b.2], .bool has]) (by kernel_rfl) rfl (by kernel_rfl) ?_
          refine x_val (.agg #[.int .i64 b.1, .int .i64 b.2]) (by kernel_rfl) rfl (by kernel_rfl) ?_
          refine x_val (.bool has) (by kernel_rfl) rfl (by kernel_rfl) ?_
          refine x_box H #[.int .i64 0, .int .i64 0] 86 (by kernel_rfl) rfl (by kernel_rfl) ?_
          clear H
          intro v9 g4 H
          refine x_store (t := 86) (v := .agg #[.int .i64 b.1, .int .i64 b.2]) H 0 g4 0 #[.int .i64 0, .int .i64 0] #[.int .i64 b.1, .int .i64 b.2] 86 [.int .i64 b.1, .int .i64 b.2] [.blk g4 #[.int .i64 b.1, .int .i64 b.2] 86, .blk g3 #[.int .i64 ((l.getD k (0, 0, 0, 0)).1), .int .i64 ((l.getD k (0, 0, 0, 0)).2.1), .int .i64 ((l.getD k (0, 0, 0, 0)).2.2.1), .int .i64 ((l.getD k (0, 0, 0, 0)).2.2.2)] 88, .blk p #[.int .i64 rL, .int .i64 rE, .int .i64 pL, .int .i64 pE, .int .i64 ((room : Nat) : Int), .int .i64 hv, .slice (some ⟨gr, 0, none⟩) ranks ranks, .pointer (some ⟨t, 0, none⟩)] 187, .row (.slice (some ⟨gr, 0, none⟩) ranks ranks) 86 2 ranks (List.flatMap bukL rs), .blk t #[sv, .int .i64 ((room : Nat) : Int), .func (.func 103) #[] #[]] 228, .row (sv) 230 3 (List.length xs) (List.flatMap pairLB xs), .blk g2 #[.int .i64 b.1, .int .i64 b.2] 86, .blk g1 #[.int .i64 rL, .int .i64 rE, .int .i64 pL, .int .i64 pE, .int .i64 ((room : Nat) : Int), .int .i64 hv] 80] (by kernel_rfl) rfl (by kernel_rfl) (by kernel_rfl) (by kernel_rfl) (by kernel_rfl) (by kernel_rfl) (by kernel_rfl) (by kernel_rfl) (by kernel_rfl) ?_
          clear H
          intro v10 H
          refine x_val (.bool has) (by kernel_rfl) rfl (by kernel_rfl) ?_
          refine x_nil ?_
          refine x_then ?_
          refine x_seq ?_
          refine x_region ?_
          refine x_loadn (t := 86) H 0 g4 0 #[.int .i64 b.1, .int .i64 b.2] 86 [.int .i64 b.1, .int .i64 b.2] (by kernel_rfl) (by kernel_rfl) (by kernel_rfl) rfl (by kernel_rfl) (by kernel_rfl) ?_
          refine x_loadn (t := 86) H 6 g2 0 #[.int .i64 b.1, .int .i64 b.2] 86 [.int .i64 b.1, .int .i64 b.2] (by kernel_rfl) (by kernel_rfl) (by kernel_rfl) rfl (by kernel_rfl) (by kernel_rfl) ?_
          have h5 : (decide ((b.1 : Int) = b.1) && (decide ((b.2 : Int) = b.2) && true)) = true := by simp
          refine x_val (.bool false) (by kernel_rfl) rfl ((run_neS (t := 86) (x := .tmp 124) (y := .tmp 125) (xs := #[.int .i64 b.1, .int .i64 b.2]) (ys := #[.int .i64 b.1, .int .i64 b.2]) (B := decide ((b.1 : Int) = b.1) && (decide ((b.2 : Int) = b.2) && true)) (by kernel_rfl) (by kernel_rfl) (by kernel_rfl)).trans (by rw [h5]; rfl)) ?_
          refine x_val (.bool false) (by kernel_rfl) rfl (by kernel_rfl) ?_
          refine x_val (.bool has) (by kernel_rfl) rfl (by kernel_rfl) ?_
          refine x_val (.bool has) (by kernel_rfl) rfl (by kernel_rfl) ?_
          refine x_eq (.bool false) (show Value.bool (has != has) = Value.bool false by simp) (by kernel_rfl) rfl (by kernel_rfl) ?_
          refine x_val (.bool false) (by kernel_rfl) rfl (by kernel_rfl) ?_
          refine x_nil ?_
          refine x_frame' { tmps := #[.agg #[.int .i64 rL, .int .i64 rE, .int .i64 pL, .int .i64 pE, .int .i64 ((room : Nat) : Int), .int .i64 hv], .int .i64 ((ranks : Nat) : Int), .slice ad nA cA, .int .i64 page, .pointer (some ⟨g1, 0, none⟩), undef, undef, undef, (uf1 0), .pointer (some ⟨p, 0, none⟩), .int .i64 0, .pointer (some ⟨g2, 0, none⟩), .bool has, undef, .pointer (some ⟨g3, 0, none⟩), (uf1 2), (uf1 3), (uf1 4), .pointer (some ⟨g4, 0, none⟩), .bool has, .bool true, .bool false, .tuple #[.pointer (some ⟨p, 0, none⟩), .int .i64 0], .agg #[.int .i64 rL, .int .i64 rE, .int .i64 pL, .int .i64 pE, .int .i64 ((room : Nat) : Int), .int .i64 hv], .int .i64 ((ranks : Nat) : Int), .tuple #[.pointer (some ⟨p, 0, none⟩), .int .i64 0], .pointer (some ⟨p, 0, none⟩), .int .i64 0, .int .i64 0, .bool false, .bool false, .pointer (some ⟨p, 0, none⟩), .bool false, .bool false, .bool false, .slice ad nA cA, .int .i64 ((nA : Nat) : Int), .bool false, .bool false, .bool false, .pointer (some ⟨g1, 4, none⟩), .int .i64 ((room : Nat) : Int), .slice ad nA cA, .int .i64 ((nA : Nat) : Int), .bool false, .bool false, .slice ad nA cA, .int .i64 ((nA : Nat) : Int), .int .i64 ((k : Nat) : Int), .bool true, .pointer (some ⟨ga, oa + k * 4, none⟩), .agg #[.int .i64 ((l.getD k (0, 0, 0, 0)).1), .int .i64 ((l.getD k (0, 0, 0, 0)).2.1), .int .i64 ((l.getD k (0, 0, 0, 0)).2.2.1), .int .i64 ((l.getD k (0, 0, 0, 0)).2.2.2)], .pointer (some ⟨g3, 0, none⟩), .int .i64 ((l.getD k (0, 0, 0, 0)).1), .bool false, .bool false, (uf1 14), (uf1 15), (uf1 16), (uf1 17), (uf1 18), (uf1 19), (uf1 20), (uf1 21), (uf1 22), (uf1 23), (uf1 24), (uf1 25), (uf1 26), (uf1 27), (uf1 28), (uf1 29), (uf1 30), (uf1 31), (uf1 32), (uf1 33), (uf1 34), (uf1 35), (uf1 36), (uf1 37), (uf1 38), (uf1 39), (uf1 40), (uf1 41), (uf1 42), (uf1 43), (uf1 44), (uf1 45), (uf1 46), (uf1 47), (uf1 48), (uf1 49), (uf1 50), (uf1 51), (uf1 52), (uf1 53), (uf1 54), (uf1 55), .bool false, .bool false, (uf1 58), (uf1 59), (uf1 60), (uf1 61), (uf1 62), (uf1 63), (uf1 64), .bool false, .bool false, (uf1 67), (uf1 68), (uf1 69), (uf1 70), (uf1 71), (uf1 72), (uf1 73), (uf1 74), (uf1 75), .tuple #[.agg #[.int .i64 b.1, .int .i64 b.2], .bool has], .pointer (some ⟨p, 0, none⟩), .int .i64 page, .tuple #[.agg #[.int .i64 b.1, .int .i64 b.2], .bool has], .agg #[.int .i64 b.1, .int .i64 b.2], .bool has, .agg #[.int .i64 b.1, .int .i64 b.2], .agg #[.int .i64 b.1, .int .i64 b.2], .bool false, .bool false, .bool has, .bool has, .bool false, .bool false, (uf1 90)], defers := [] } (by kernel_rfl) ?_
          refine x_then ?_
          refine x_f (by kernel_rfl) ?_
          refine x_skipc ?_
          refine x_blk ?_
          refine x_then ?_
          refine x_region ?_
          refine x_ar (((k : Nat) : Int) + 1) ⟨by omega, by omega⟩ (by kernel_rfl) rfl (by kernel_rfl) ?_
          refine x_val (.int .i64 (((k : Nat) : Int) + 1)) (by kernel_rfl) rfl (by kernel_rfl) ?_
          refine x_nil ?_
          refine x_then ?_
          replace H := H.pick [2, 3, 4, 5, 6, 7] [.blk p #[.int .i64 rL, .int .i64 rE, .int .i64 pL, .int .i64 pE, .int .i64 ((room : Nat) : Int), .int .i64 hv, .slice (some ⟨gr, 0, none⟩) ranks ranks, .pointer (some ⟨t, 0, none⟩)] 187, .row (.slice (some ⟨gr, 0, none⟩) ranks ranks) 86 2 ranks (List.flatMap bukL rs), .blk t #[sv, .int .i64 ((room : Nat) : Int), .func (.func 103) #[] #[]] 228, .row (sv) 230 3 (List.length xs) (List.flatMap pairLB xs), .blk g2 #[.int .i64 b.1, .int .i64 b.2] 86, .blk g1 #[.int .i64 rL, .int .i64 rE, .int .i64 pL, .int .i64 pE, .int .i64 ((room : Nat) : Int), .int .i64 hv] 80] (by decide) (by kernel_rfl)
          have hpg1_ok := hpg1.ok hP.p.2.2.1 (by first | exact hk1.c | exact hk.c)
          exact ⟨(k + 1, sv, rs, xs, b, has), (by dsimp only; omega), (nthV [(uf1 0), .pointer (some ⟨g3, 0, none⟩), (uf1 2), (uf1 3), (uf1 4), .pointer (some ⟨g4, 0, none⟩), .bool has, .bool true, .pointer (some ⟨ga, oa + k * 4, none⟩), .agg #[.int .i64 ((l.getD k (0, 0, 0, 0)).1), .int .i64 ((l.getD k (0, 0, 0, 0)).2.1), .int .i64 ((l.getD k (0, 0, 0, 0)).2.2.1), .int .i64 ((l.getD k (0, 0, 0, 0)).2.2.2)], .pointer (some ⟨g3, 0, none⟩), .int .i64 ((l.getD k (0, 0, 0, 0)).1), .bool false, .bool false, (uf1 14), (uf1 15), (uf1 16), (uf1 17), (uf1 18), (uf1 19), (uf1 20), (uf1 21), (uf1 22), (uf1 23), (uf1 24), (uf1 25), (uf1 26), (uf1 27), (uf1 28), (uf1 29), (uf1 30), (uf1 31), (uf1 32), (uf1 33), (uf1 34), (uf1 35), (uf1 36), (uf1 37), (uf1 38), (uf1 39), (uf1 40), (uf1 41), (uf1 42), (uf1 43), (uf1 44), (uf1 45), (uf1 46), (uf1 47), (uf1 48), (uf1 49), (uf1 50), (uf1 51), (uf1 52), (uf1 53), (uf1 54), (uf1 55), .bool false, .bool false, (uf1 58), (uf1 59), (uf1 60), (uf1 61), (uf1 62), (uf1 63), (uf1 64), .bool false, .bool false, (uf1 67), (uf1 68), (uf1 69), (uf1 70), (uf1 71), (uf1 72), (uf1 73), (uf1 74), (uf1 75), .tuple #[.agg #[.int .i64 b.1, .int .i64 b.2], .bool has], .pointer (some ⟨p, 0, none⟩), .int .i64 page, .tuple #[.agg #[.int .i64 b.1, .int .i64 b.2], .bool has], .agg #[.int .i64 b.1, .int .i64 b.2], .bool has, .agg #[.int .i64 b.1, .int .i64 b.2], .agg #[.int .i64 b.1, .int .i64 b.2], .bool false, .bool false, .bool has, .bool has, .bool false, .bool false, .int .i64 (((k : Nat) : Int) + 1)]), (by kernel_rfl), H, (by omega), hk, hpg1, (hpg1_ok)⟩
        · skip
          have h4p := of_decide_eq_true h4
          refine x_t (by kernel_rfl) ?_
          refine x_seq ?_
          refine x_region ?_
          refine x_val (.pointer (some ⟨p, 0, none⟩)) (by kernel_rfl) rfl (by kernel_rfl) ?_
          refine x_val (.pointer (some ⟨g3, 2, none⟩)) (by kernel_rfl) rfl (by kernel_rfl) ?_
          refine x_load1 H 0 g3 2 #[.int .i64 ((l.getD k (0, 0, 0, 0)).1), .int .i64 ((l.getD k (0, 0, 0, 0)).2.1), .int .i64 ((l.getD k (0, 0, 0, 0)).2.2.1), .int .i64 ((l.getD k (0, 0, 0, 0)).2.2.2)] 88 (.int .i64 ((l.getD k (0, 0, 0, 0)).2.2.1)) (by kernel_rfl) (by kernel_rfl) (by kernel_rfl) rfl (by kernel_rfl) ?_
          have hk1 := hk.drop ((l.getD k (0, 0, 0, 0)).2.2.1)
          refine x_call (by kernel_rfl) rfl (by kernel_rfl) (Hs.useE (A := [.blk p #[.int .i64 rL, .int .i64 rE, .int .i64 pL, .int .i64 pE, .int .i64 ((room : Nat) : Int), .int .i64 hv, .slice (some ⟨gr, 0, none⟩) ranks ranks, .pointer (some ⟨t, 0, none⟩)] 187, .row (.slice (some ⟨gr, 0, none⟩) ranks ranks) 86 2 ranks (List.flatMap bukL rs), .blk t #[sv, .int .i64 ((room : Nat) : Int), .func (.func 103) #[] #[]] 228, .row (sv) 230 3 (List.length xs) (List.flatMap pairLB xs)]) (R := [.blk g3 #[.int .i64 ((l.getD k (0, 0, 0, 0)).1), .int .i64 ((l.getD k (0, 0, 0, 0)).2.1), .int .i64 ((l.getD k (0, 0, 0, 0)).2.2.1), .int .i64 ((l.getD k (0, 0, 0, 0)).2.2.2)] 88, .blk g2 #[.int .i64 b.1, .int .i64 b.2] 86, .blk g1 #[.int .i64 rL, .int .i64 rE, .int .i64 pL, .int .i64 pE, .int .i64 ((room : Nat) : Int), .int .i64 hv] 80]) (fun svn => [.blk p #[.int .i64 rL, .int .i64 rE, .int .i64 pL, .int .i64 pE, .int .i64 ((room : Nat) : Int), .int .i64 hv, .slice (some ⟨gr, 0, none⟩) ranks ranks, .pointer (some ⟨t, 0, none⟩)] 187, .row (.slice (some ⟨gr, 0, none⟩) ranks ranks) 86 2 ranks (List.flatMap bukL rs), .blk t #[svn, .int .i64 ((room : Nat) : Int), .func (.func 103) #[] #[]] 228, .row (svn) 230 3 (List.length (dropB xs ((l.getD k (0, 0, 0, 0)).2.2.1))) (List.flatMap pairLB (dropB xs ((l.getD k (0, 0, 0, 0)).2.2.1)))]) (fun _ => .tuple #[]) (H.pick [1, 2, 3, 4, 0, 5, 6] _ (by decide) (by kernel_rfl)) (fun h => DropPage_any ((l.getD k (0, 0, 0, 0)).2.2.1) hk.n hk.m hP.m _ h)) ?_
          rintro _ v11 ⟨svn, rfl, H'⟩
          refine ⟨_, rfl, ?_⟩
          clear H
          have H : Hs [] w0 _ [.blk p #[.int .i64 rL, .int .i64 rE, .int .i64 pL, .int .i64 pE, .int .i64 ((room : Nat) : Int), .int .i64 hv, .slice (some ⟨gr, 0, none⟩) ranks ranks, .pointer (some ⟨t, 0, none⟩)] 187, .row (.slice (some ⟨gr, 0, none⟩) ranks ranks) 86 2 ranks (List.flatMap bukL rs), .blk t #[svn, .int .i64 ((room : Nat) : Int), .func (.func 103) #[] #[]] 228, .row (svn) 230 3 (List.length (dropB xs ((l.getD k (0, 0, 0, 0)).2.2.1))) (List.flatMap pairLB (dropB xs ((l.getD k (0, 0, 0, 0)).2.2.1))), .blk g3 #[.int .i64 ((l.getD k (0, 0, 0, 0)).1), .int .i64 ((l.getD k (0, 0, 0, 0)).2.1), .int .i64 ((l.getD k (0, 0, 0, 0)).2.2.1), .int .i64 ((l.getD k (0, 0, 0, 0)).2.2.2)] 88, .blk g2 #[.int .i64 b.1, .int .i64 b.2] 86, .blk g1 #[.int .i64 rL, .int .i64 rE, .int .i64 pL, .int .i64 pE, .int .i64 ((room : Nat) : Int), .int .i64 hv] 80] := H'
          clear H'
          refine x_nil ?_
          refine x_then ?_
          refine x_seq ?_
          refine x_region ?_
          refine x_val (.pointer (some ⟨g3, 2, none⟩)) (by kernel_rfl) rfl (by kernel_rfl) ?_
          refine x_load1 H 4 g3 2 #[.int .i64 ((l.getD k (0, 0, 0, 0)).1), .int .i64 ((l.getD k (0, 0, 0, 0)).2.1), .int .i64 ((l.getD k (0, 0, 0, 0)).2.2.1), .int .i64 ((l.getD k (0, 0, 0, 0)).2.2.2)] 88 (.int .i64 ((l.getD k (0, 0, 0, 0)).2.2.1)) (by kernel_rfl) (by kernel_rfl) (by kernel_rfl) rfl (by kernel_rfl) ?_
          refine x_val (.int .i64 page) (by kernel_rfl) rfl (by kernel_rfl) ?_
          refine x_val (.bool (decide (((l.getD k (0, 0, 0, 0)).2.2.1) = page))) (by kernel_rfl) rfl (by kernel_rfl) ?_
          refine x_nil ?_
          refine x_then ?_
          cases h6 : decide (((l.getD k (0, 0, 0, 0)).2.2.1) = page)
          · skip
            have h6p := of_decide_eq_false h6
            refine x_f (by kernel_rfl) ?_
            refine x_skipc ?_
            refine x_blk ?_
            refine x_then ?_
            refine x_seq ?_
            refine x_region ?_
            refine x_val (.pointer (some ⟨p, 0, none⟩)) (by kernel_rfl) rfl (by kernel_rfl) ?_
            refine x_val (.int .i64 page) (by kernel_rfl) rfl (by kernel_rfl) ?_
            have hpg1 : PgOk (dropB xs ((l.getD k (0, 0, 0, 0)).2.2.1)) page b has (k + 1) := (by have q := hpg.dropped (p := ((l.getD k (0, 0, 0, 0)).2.2.1)); rw [if_neg h6p, if_neg h6p] at q; exact q)
            have hq1 := hpg1.get
            refine x_callB (.tuple #[.agg #[.int .i64 b.1, .int .i64 b.2], .bool has]) H (by kernel_rfl) rfl (by kernel_rfl) (by have h := Page_any page (Nat.le_trans hk1.m (Nat.le_trans hP.m.1 (by decide))) _ (H.roOf [0, 2, 3] [.blk p #[.int .i64 rL, .int .i64 rE, .int .i64 pL, .int .i64 pE, .int .i64 ((room : Nat) : Int), .int .i64 hv, .slice (some ⟨gr, 0, none⟩) ranks ranks, .pointer (some ⟨t, 0, none⟩)] 187, .blk t #[svn, .int .i64 ((room : Nat) : Int), .func (.func 103) #[] #[]] 228, .row (svn) 230 3 (List.length (dropB xs ((l.getD k (0, 0, 0, 0)).2.2.1))) (List.flatMap pairLB (dropB xs ((l.getD k (0, 0, 0, 0)).2.2.1)))] (by kernel_rfl)); rw [hq1.1, hq1.2] at h; exact h) ?_
            clear H
            intro v12 H
            refine x_val (.tuple #[.agg #[.int .i64 b.1, .int .i64 b.2], .bool has]) (by kernel_rfl) rfl (by kernel_rfl) ?_
            refine x_val (.agg #[.int .i64 b.1, .int .i64 b.2]) (by kernel_rfl) rfl (by kernel_rfl) ?_
            refine x_val (.bool has) (by kernel_rfl) rfl (by kernel_rfl) ?_
            refine x_box H #[.int .i64 0, .int .i64 0] 86 (by kernel_rfl) rfl (by kernel_rfl) ?_
            clear H
            intro v13 g5 H
            refine x_store (t := 86) (v := .agg #[.int .i64 b.1, .int .i64 b.2]) H 0 g5 0 #[.int .i64 0, .int .i64 0] #[.int .i64 b.1, .int .i64 b.2] 86 [.int .i64 b.1, .int .i64 b.2] [.blk g5 #[.int .i64 b.1, .int .i64 b.2] 86, .blk p #[.int .i64 rL, .int .i64 rE, .int .i64 pL, .int .i64 pE, .int .i64 ((room : Nat) : Int), .int .i64 hv, .slice (some ⟨gr, 0, none⟩) ranks ranks, .pointer (some ⟨t, 0, none⟩)] 187, .row (.slice (some ⟨gr, 0, none⟩) ranks ranks) 86 2 ranks (List.flatMap bukL rs), .blk t #[svn, .int .i64 ((room : Nat) : Int), .func (.func 103) #[] #[]] 228, .row (svn) 230 3 (List.length (dropB xs ((l.getD k (0, 0, 0, 0)).2.2.1))) (List.flatMap pairLB (dropB xs ((l.getD k (0, 0, 0, 0)).2.2.1))), .blk g3 #[.int .i64 ((l.getD k (0, 0, 0, 0)).1), .int .i64 ((l.getD k (0, 0, 0, 0)).2.1), .int .i64 ((l.getD k (0, 0, 0, 0)).2.2.1), .int .i64 ((l.getD k (0, 0, 0, 0)).2.2.2)] 88, .blk g2 #[.int .i64 b.1, .int .i64 b.2] 86, .blk g1 #[.int .i64 rL, .int .i64 rE, .int .i64 pL, .int .i64 pE, .int .i64 ((room : Nat) : Int), .int .i64 hv] 80] (by kernel_rfl) rfl (by kernel_rfl) (by kernel_rfl) (by kernel_rfl) (by kernel_rfl) (by kernel_rfl) (by kernel_rfl) (by kernel_rfl) (by kernel_rfl) ?_
            clear H
            intro v14 H
            refine x_val (.bool has) (by kernel_rfl) rfl (by kernel_rfl) ?_
            refine x_nil ?_
            refine x_frame' { tmps := #[.agg #[.int .i64 rL, .int .i64 rE, .int .i64 pL, .int .i64 pE, .int .i64 ((room : Nat) : Int), .int .i64 hv], .int .i64 ((ranks : Nat) : Int), .slice ad nA cA, .int .i64 page, .pointer (some ⟨g1, 0, none⟩), undef, undef, undef, (uf1 0), .pointer (some ⟨p, 0, none⟩), .int .i64 0, .pointer (some ⟨g2, 0, none⟩), .bool has, undef, .pointer (some ⟨g3, 0, none⟩), (uf1 2), (uf1 3), (uf1 4), .pointer (some ⟨g5, 0, none⟩), .bool has, .bool true, .bool false, .tuple #[.pointer (some ⟨p, 0, none⟩), .int .i64 0], .agg #[.int .i64 rL, .int .i64 rE, .int .i64 pL, .int .i64 pE, .int .i64 ((room : Nat) : Int), .int .i64 hv], .int .i64 ((ranks : Nat) : Int), .tuple #[.pointer (some ⟨p, 0, none⟩), .int .i64 0], .pointer (some ⟨p, 0, none⟩), .int .i64 0, .int .i64 0, .bool false, .bool false, .pointer (some ⟨p, 0, none⟩), .bool false, .bool false, .bool false, .slice ad nA cA, .int .i64 ((nA : Nat) : Int), .bool false, .bool false, .bool false, .pointer (some ⟨g1, 4, none⟩), .int .i64 ((room : Nat) : Int), .slice ad nA cA, .int .i64 ((nA : Nat) : Int), .bool false, .bool false, .slice ad nA cA, .int .i64 ((nA : Nat) : Int), .int .i64 ((k : Nat) : Int), .bool true, .pointer (some ⟨ga, oa + k * 4, none⟩), .agg #[.int .i64 ((l.getD k (0, 0, 0, 0)).1), .int .i64 ((l.getD k (0, 0, 0, 0)).2.1), .int .i64 ((l.getD k (0, 0, 0, 0)).2.2.1), .int .i64 ((l.getD k (0, 0, 0, 0)).2.2.2)], .pointer (some ⟨g3, 0, none⟩), .int .i64 ((l.getD k (0, 0, 0, 0)).1), .bool false, .bool false, (uf1 14), (uf1 15), (uf1 16), (uf1 17), (uf1 18), (uf1 19), (uf1 20), (uf1 21), (uf1 22), (uf1 23), (uf1 24), (uf1 25), (uf1 26), (uf1 27), (uf1 28), (uf1 29), (uf1 30), (uf1 31), (uf1 32), (uf1 33), (uf1 34), (uf1 35), (uf1 36), (uf1 37), (uf1 38), (uf1 39), (uf1 40), (uf1 41), (uf1 42), (uf1 43), (uf1 44), (uf1 45), (uf1 46), (uf1 47), (uf1 48), (uf1 49), (uf1 50), (uf1 51), (uf1 52), (uf1 53), (uf1 54), (uf1 55), .bool false, .bool false, (uf1 58), (uf1 59), (uf1 60), (uf1 61), (uf1 62), (uf1 63), (uf1 64), .bool true, .bool true, .pointer (some ⟨p, 0, none⟩), .pointer (some ⟨g3, 2, none⟩), .int .i64 ((l.getD k (0, 0, 0, 0)).2.2.1), .tuple #[], .pointer (some ⟨g3, 2, none⟩), .int .i64 ((l.getD k (0, 0, 0, 0)).2.2.1), .int .i64 page, .bool false, (uf1 75), .tuple #[.agg #[.int .i64 b.1, .int .i64 b.2], .bool has], .pointer (some ⟨p, 0, none⟩), .int .i64 page, .tuple #[.agg #[.int .i64 b.1, .int .i64 b.2], .bool has], .agg #[.int .i64 b.1, .int .i64 b.2], .bool has, (uf1 82), (uf1 83), (uf1 84), (uf1 85), (uf1 86), (uf1 87), (uf1 88), (uf1 89), (uf1 90)], defers := [] } (by kernel_rfl) ?_
            refine x_then ?_
            refine x_seq ?_
            refine x_region ?_
            refine x_loadn (t := 86) H 0 g5 0 #[.int .i64 b.1, .int .i64 b.2] 86 [.int .i64 b.1, .int .i64 b.2] (by kernel_rfl) (by kernel_rfl) (by kernel_rfl) rfl (by kernel_rfl) (by kernel_rfl) ?_
            refine x_loadn (t := 86) H 6 g2 0 #[.int .i64 b.1, .int .i64 b.2] 86 [.int .i64 b.1, .int .i64 b.2] (by kernel_rfl) (by kernel_rfl) (by kernel_rfl) rfl (by kernel_rfl) (by kernel_rfl) ?_
            have h7 : (decide ((b.1 : Int) = b.1) && (decide ((b.2 : Int) = b.2) && true)) = true := by simp
            refine x_val (.bool false) (by kernel_rfl) rfl ((run_neS (t := 86) (x := .tmp 124) (y := .tmp 125) (xs := #[.int .i64 b.1, .int .i64 b.2]) (ys := #[.int .i64 b.1, .int .i64 b.2]) (B := decide ((b.1 : Int) = b.1) && (decide ((b.2 : Int) = b.2) && true)) (by kernel_rfl) (by kernel_rfl) (by kernel_rfl)).trans (by rw [h7]; rfl)) ?_
            refine x_val (.bool false) (by kernel_rfl) rfl (by kernel_rfl) ?_
            refine x_val (.bool has) (by kernel_rfl) rfl (by kernel_rfl) ?_
            refine x_val (.bool has) (by kernel_rfl) rfl (by kernel_rfl) ?_
            refine x_eq (.bool false) (show Value.bool (has != has) = Value.bool false by simp) (by kernel_rfl) rfl (by kernel_rfl) ?_
            refine x_val (.bool false) (by kernel_rfl) rfl (by kernel_rfl) ?_
            refine x_nil ?_
            refine x_then ?_
            refine x_f (by kernel_rfl) ?_
            refine x_skipc ?_
            refine x_blk ?_
            refine x_then ?_
            refine x_region ?_
            refine x_ar (((k : Nat) : Int) + 1) ⟨by omega, by omega⟩ (by kernel_rfl) rfl (by kernel_rfl) ?_
            refine x_val (.int .i64 (((k : Nat) : Int) + 1)) (by kernel_rfl) rfl (by kernel_rfl) ?_
            refine x_nil ?_
            refine x_then ?_
            replace H := H.pick [1, 2, 3, 4, 6, 7] [.blk p #[.int .i64 rL, .int .i64 rE, .int .i64 pL, .int .i64 pE, .int .i64 ((room : Nat) : Int), .int .i64 hv, .slice (some ⟨gr, 0, none⟩) ranks ranks, .pointer (some ⟨t, 0, none⟩)] 187, .row (.slice (some ⟨gr, 0, none⟩) ranks ranks) 86 2 ranks (List.flatMap bukL rs), .blk t #[svn, .int .i64 ((room : Nat) : Int), .func (.func 103) #[] #[]] 228, .row (svn) 230 3 (List.length (dropB xs ((l.getD k (0, 0, 0, 0)).2.2.1))) (List.flatMap pairLB (dropB xs ((l.getD k (0, 0, 0, 0)).2.2.1))), .blk g2 #[.int .i64 b.1, .int .i64 b.2] 86, .blk g1 #[.int .i64 rL, .int .i64 rE, .int .i64 pL, .int .i64 pE, .int .i64 ((room : Nat) : Int), .int .i64 hv] 80] (by decide) (by kernel_rfl)
            have hpg1_ok := hpg1.ok hP.p.2.2.1 (by first | exact hk1.c | exact hk.c)
            exact ⟨(k + 1, svn, rs, (dropB xs ((l.getD k (0, 0, 0, 0)).2.2.1)), b, has), (by dsimp only; omega), (nthV [(uf1 0), .pointer (some ⟨g3, 0, none⟩), (uf1 2), (uf1 3), (uf1 4), .pointer (some ⟨g5, 0, none⟩), .bool has, .bool true, .pointer (some ⟨ga, oa + k * 4, none⟩), .agg #[.int .i64 ((l.getD k (0, 0, 0, 0)).1), .int .i64 ((l.getD k (0, 0, 0, 0)).2.1), .int .i64 ((l.getD k (0, 0, 0, 0)).2.2.1), .int .i64 ((l.getD k (0, 0, 0, 0)).2.2.2)], .pointer (some ⟨g3, 0, none⟩), .int .i64 ((l.getD k (0, 0, 0, 0)).1), .bool false, .bool false, (uf1 14), (uf1 15), (uf1 16), (uf1 17), (uf1 18), (uf1 19), (uf1 20), (uf1 21), (uf1 22), (uf1 23), (uf1 24), (uf1 25), (uf1 26), (uf1 27), (uf1 28), (uf1 29), (uf1 30), (uf1 31), (uf1 32), (uf1 33), (uf1 34), (uf1 35), (uf1 36), (uf1 37), (uf1 38), (uf1 39), (uf1 40), (uf1 41), (uf1 42), (uf1 43), (uf1 44), (uf1 45), (uf1 46), (uf1 47), (uf1 48), (uf1 49), (uf1 50), (uf1 51), (uf1 52), (uf1 53), (uf1 54), (uf1 55), .bool false, .bool false, (uf1 58), (uf1 59), (uf1 60), (uf1 61), (uf1 62), (uf1 63), (uf1 64), .bool true, .bool true, .pointer (some ⟨p, 0, none⟩), .pointer (some ⟨g3, 2, none⟩), .int .i64 ((l.getD k (0, 0, 0, 0)).2.2.1), .tuple #[], .pointer (some ⟨g3, 2, none⟩), .int .i64 ((l.getD k (0, 0, 0, 0)).2.2.1), .int .i64 page, .bool false, (uf1 75), .tuple #[.agg #[.int .i64 b.1, .int .i64 b.2], .bool has], .pointer (some ⟨p, 0, none⟩), .int .i64 page, .tuple #[.agg #[.int .i64 b.1, .int .i64 b.2], .bool has], .agg #[.int .i64 b.1, .int .i64 b.2], .bool has, .agg #[.int .i64 b.1, .int .i64 b.2], .agg #[.int .i64 b.1, .int .i64 b.2], .bool false, .bool false, .bool has, .bool has, .bool false, .bool false, .int .i64 (((k : Nat) : Int) + 1)]), (by kernel_rfl), H, (by omega), hk1, hpg1, (hpg1_ok)⟩
          · skip
            have h6p := of_decide_eq_true h6
            refine x_t (by kernel_rfl) ?_
            refine x_region ?_
            refine x_val (.agg #[.int .i64 0, .int .i64 0]) (by kernel_rfl) rfl (by kernel_rfl) ?_
            refine x_store (t := 86) (v := .agg #[.int .i64 0, .int .i64 0]) H 5 g2 0 #[.int .i64 b.1, .int .i64 b.2] #[.int .i64 0, .int .i64 0] 86 [.int .i64 0, .int .i64 0] [.blk p #[.int .i64 rL, .int .i64 rE, .int .i64 pL, .int .i64 pE, .int .i64 ((room : Nat) : Int), .int .i64 hv, .slice (some ⟨gr, 0, none⟩) ranks ranks, .pointer (some ⟨t, 0, none⟩)] 187, .row (.slice (some ⟨gr, 0, none⟩) ranks ranks) 86 2 ranks (List.flatMap bukL rs), .blk t #[svn, .int .i64 ((room : Nat) : Int), .func (.func 103) #[] #[]] 228, .row (svn) 230 3 (List.length (dropB xs ((l.getD k (0, 0, 0, 0)).2.2.1))) (List.flatMap pairLB (dropB xs ((l.getD k (0, 0, 0, 0)).2.2.1))), .blk g3 #[.int .i64 ((l.getD k (0, 0, 0, 0)).1), .int .i64 ((l.getD k (0, 0, 0, 0)).2.1), .int .i64 ((l.getD k (0, 0, 0, 0)).2.2.1), .int .i64 ((l.getD k (0, 0, 0, 0)).2.2.2)] 88, .blk g2 #[.int .i64 0, .int .i64 0] 86, .blk g1 #[.int .i64 rL, .int .i64 rE, .int .i64 pL, .int .i64 pE, .int .i64 ((room : Nat) : Int), .int .i64 hv] 80] (by kernel_rfl) rfl (by kernel_rfl) (by kernel_rfl) (by kernel_rfl) (by kernel_rfl) (by kernel_rfl) (by kernel_rfl) (by kernel_rfl) (by kernel_rfl) ?_
            clear H
            intro v15 H
            refine x_val (.bool false) (by kernel_rfl) rfl (by kernel_rfl) ?_
            refine x_nil ?_
            refine x_blk ?_
            refine x_then ?_
            refine x_seq ?_
            refine x_region ?_
            refine x_val (.pointer (some ⟨p, 0, none⟩)) (by kernel_rfl) rfl (by kernel_rfl) ?_
            refine x_val (.int .i64 page) (by kernel_rfl) rfl (by kernel_rfl) ?_
            have hpg1 : PgOk (dropB xs ((l.getD k (0, 0, 0, 0)).2.2.1)) page (0, 0) false (k + 1) := (by have q := hpg.dropped (p := ((l.getD k (0, 0, 0, 0)).2.2.1)); rw [if_pos h6p, if_pos h6p] at q; exact q)
            have hq1 := hpg1.get
            refine x_callB (.tuple #[.agg #[.int .i64 0, .int .i64 0], .bool false]) H (by kernel_rfl) rfl (by kernel_rfl) (by have h := Page_any page (Nat.le_trans hk1.m (Nat.le_trans hP.m.1 (by decide))) _ (H.roOf [0, 2, 3] [.blk p #[.int .i64 rL, .int .i64 rE, .int .i64 pL, .int .i64 pE, .int .i64 ((room : Nat) : Int), .int .i64 hv, .slice (some ⟨gr, 0, none⟩) ranks ranks, .pointer (some ⟨t, 0, none⟩)] 187, .blk t #[svn, .int .i64 ((room : Nat) : Int), .func (.func 103) #[] #[]] 228, .row (svn) 230 3 (List.length (dropB xs ((l.getD k (0, 0, 0, 0)).2.2.1))) (List.flatMap pairLB (dropB xs ((l.getD k (0, 0, 0, 0)).2.2.1)))] (by kernel_rfl)); rw [hq1.1, hq1.2] at h; exact h) ?_
            clear H
            intro v16 H
            refine x_val (.tuple #[.agg #[.int .i64 0, .int .i64 0], .bool false]) (by kernel_rfl) rfl (by kernel_rfl) ?_
            refine x_val (.agg #[.int .i64 0, .int .i64 0]) (by kernel_rfl) rfl (by kernel_rfl) ?_
            refine x_val (.bool false) (by kernel_rfl) rfl (by kernel_rfl) ?_
            refine x_box H #[.int .i64 0, .int .i64 0] 86 (by kernel_rfl) rfl (by kernel_rfl) ?_
            clear H
            intro v17 g6 H
            refine x_store (t := 86) (v := .agg #[.int .i64 0, .int .i64 0]) H 0 g6 0 #[.int .i64 0, .int .i64 0] #[.int .i64 0, .int .i64 0] 86 [.int .i64 0, .int .i64 0] [.blk g6 #[.int .i64 0, .int .i64 0] 86, .blk p #[.int .i64 rL, .int .i64 rE, .int .i64 pL, .int .i64 pE, .int .i64 ((room : Nat) : Int), .int .i64 hv, .slice (some ⟨gr, 0, none⟩) ranks ranks, .pointer (some ⟨t, 0, none⟩)] 187, .row (.slice (some ⟨gr, 0, none⟩) ranks ranks) 86 2 ranks (List.flatMap bukL rs), .blk t #[svn, .int .i64 ((room : Nat) : Int), .func (.func 103) #[] #[]] 228, .row (svn) 230 3 (List.length (dropB xs ((l.getD k (0, 0, 0, 0)).2.2.1))) (List.flatMap pairLB (dropB xs ((l.getD k (0, 0, 0, 0)).2.2.1))), .blk g3 #[.int .i64 ((l.getD k (0, 0, 0, 0)).1), .int .i64 ((l.getD k (0, 0, 0, 0)).2.1), .int .i64 ((l.getD k (0, 0, 0, 0)).2.2.1), .int .i64 ((l.getD k (0, 0, 0, 0)).2.2.2)] 88, .blk g2 #[.int .i64 0, .int .i64 0] 86, .blk g1 #[.int .i64 rL, .int .i64 rE, .int .i64 pL, .int .i64 pE, .int .i64 ((room : Nat) : Int), .int .i64 hv] 80] (by kernel_rfl) rfl (by kernel_rfl) (by kernel_rfl) (by kernel_rfl) (by kernel_rfl) (by kernel_rfl) (by kernel_rfl) (by kernel_rfl) (by kernel_rfl) ?_
            clear H
            intro v18 H
            refine x_val (.bool false) (by kernel_rfl) rfl (by kernel_rfl) ?_
            refine x_nil ?_
            refine x_frame' { tmps := #[.agg #[.int .i64 rL, .int .i64 rE, .int .i64 pL, .int .i64 pE, .int .i64 ((room : Nat) : Int), .int .i64 hv], .int .i64 ((ranks : Nat) : Int), .slice ad nA cA, .int .i64 page, .pointer (some ⟨g1, 0, none⟩), undef, undef, undef, (uf1 0), .pointer (some ⟨p, 0, none⟩), .int .i64 0, .pointer (some ⟨g2, 0, none⟩), .bool false, undef, .pointer (some ⟨g3, 0, none⟩), (uf1 2), (uf1 3), (uf1 4), .pointer (some ⟨g6, 0, none⟩), .bool false, .bool true, .bool false, .tuple #[.pointer (some ⟨p, 0, none⟩), .int .i64 0], .agg #[.int .i64 rL, .int .i64 rE, .int .i64 pL, .int .i64 pE, .int .i64 ((room : Nat) : Int), .int .i64 hv], .int .i64 ((ranks : Nat) : Int), .tuple #[.pointer (some ⟨p, 0, none⟩), .int .i64 0], .pointer (some ⟨p, 0, none⟩), .int .i64 0, .int .i64 0, .bool false, .bool false, .pointer (some ⟨p, 0, none⟩), .bool false, .bool false, .bool false, .slice ad nA cA, .int .i64 ((nA : Nat) : Int), .bool false, .bool false, .bool false, .pointer (some ⟨g1, 4, none⟩), .int .i64 ((room : Nat) : Int), .slice ad nA cA, .int .i64 ((nA : Nat) : Int), .bool false, .bool false, .slice ad nA cA, .int .i64 ((nA : Nat) : Int), .int .i64 ((k : Nat) : Int), .bool true, .pointer (some ⟨ga, oa + k * 4, none⟩), .agg #[.int .i64 ((l.getD k (0, 0, 0, 0)).1), .int .i64 ((l.getD k (0, 0, 0, 0)).2.1), .int .i64 ((l.getD k (0, 0, 0, 0)).2.2.1), .int .i64 ((l.getD k (0, 0, 0, 0)).2.2.2)], .pointer (some ⟨g3, 0, none⟩), .int .i64 ((l.getD k (0, 0, 0, 0)).1), .bool false, .bool false, (uf1 14), (uf1 15), (uf1 16), (uf1 17), (uf1 18), (uf1 19), (uf1 20), (uf1 21), (uf1 22), (uf1 23), (uf1 24), (uf1 25), (uf1 26), (uf1 27), (uf1 28), (uf1 29), (uf1 30), (uf1 31), (uf1 32), (uf1 33), (uf1 34), (uf1 35), (uf1 36), (uf1 37), (uf1 38), (uf1 39), (uf1 40), (uf1 41), (uf1 42), (uf1 43), (uf1 44), (uf1 45), (uf1 46), (uf1 47), (uf1 48), (uf1 49), (uf1 50), (uf1 51), (uf1 52), (uf1 53), (uf1 54), (uf1 55), .bool false, .bool false, (uf1 58), (uf1 59), (uf1 60), (uf1 61), (uf1 62), (uf1 63), (uf1 64), .bool true, .bool true, .pointer (some ⟨p, 0, none⟩), .pointer (some ⟨g3, 2, none⟩), .int .i64 ((l.getD k (0, 0, 0, 0)).2.2.1), .tuple #[], .pointer (some ⟨g3, 2, none⟩), .int .i64 ((l.getD k (0, 0, 0, 0)).2.2.1), .int .i64 page, .bool true, .agg #[.int .i64 0, .int .i64 0], .tuple #[.agg #[.int .i64 0, .int .i64 0], .bool false], .pointer (some ⟨p, 0, none⟩), .int .i64 page, .tuple #[.agg #[.int .i64 0, .int .i64 0], .bool false], .agg #[.int .i64 0, .int .i64 0], .bool false, (uf1 82), (uf1 83), (uf1 84), (uf1 85), (uf1 86), (uf1 87), (uf1 88), (uf1 89), (uf1 90)], defers := [] } (by kernel_rfl) ?_
            refine x_then ?_
            refine x_seq ?_
            refine x_region ?_
            refine x_loadn (t := 86) H 0 g6 0 #[.int .i64 0, .int .i64 0] 86 [.int .i64 0, .int .i64 0] (by kernel_rfl) (by kernel_rfl) (by kernel_rfl) rfl (by kernel_rfl) (by kernel_rfl) ?_
            refine x_loadn (t := 86) H 6 g2 0 #[.int .i64 0, .int .i64 0] 86 [.int .i64 0, .int .i64 0] (by kernel_rfl) (by kernel_rfl) (by kernel_rfl) rfl (by kernel_rfl) (by kernel_rfl) ?_
            refine x_val (.bool false) (by kernel_rfl) rfl (run_neS (t := 86) (x := .tmp 124) (y := .tmp 125) (xs := #[.int .i64 0, .int .i64 0]) (ys := #[.int .i64 0, .int .i64 0]) (B := true) (by kernel_rfl) (by kernel_rfl) (by kernel_rfl)) ?_
            refine x_val (.bool false) (by kernel_rfl) rfl (by kernel_rfl) ?_
            refine x_val (.bool false) (by kernel_rfl) rfl (by kernel_rfl) ?_
            refine x_val (.bool false) (by kernel_rfl) rfl (by kernel_rfl) ?_
            refine x_val (.bool false) (by kernel_rfl) rfl (by kernel_rfl) ?_
            refine x_val (.bool false) (by kernel_rfl) rfl (by kernel_rfl) ?_
            refine x_nil ?_
            refine x_then ?_
            refine x_f (by kernel_rfl) ?_
            refine x_skipc ?_
            refine x_blk ?_
            refine x_then ?_
            refine x_region ?_
            refine x_ar (((k : Nat) : Int) + 1) ⟨by omega, by omega⟩ (by kernel_rfl) rfl (by kernel_rfl) ?_
            refine x_val (.int .i64 (((k : Nat) : Int) + 1)) (by kernel_rfl) rfl (by kernel_rfl) ?_
            refine x_nil ?_
            refine x_then ?_
            replace H := H.pick [1, 2, 3, 4, 6, 7] [.blk p #[.int .i64 rL, .int .i64 rE, .int .i64 pL, .int .i64 pE, .int .i64 ((room : Nat) : Int), .int .i64 hv, .slice (some ⟨gr, 0, none⟩) ranks ranks, .pointer (some ⟨t, 0, none⟩)] 187, .row (.slice (some ⟨gr, 0, none⟩) ranks ranks) 86 2 ranks (List.flatMap bukL rs), .blk t #[svn, .int .i64 ((room : Nat) : Int), .func (.func 103) #[] #[]] 228, .row (svn) 230 3 (List.length (dropB xs ((l.getD k (0, 0, 0, 0)).2.2.1))) (List.flatMap pairLB (dropB xs ((l.getD k (0, 0, 0, 0)).2.2.1))), .blk g2 #[.int .i64 0, .int .i64 0] 86, .blk g1 #[.int .i64 rL, .int .i64 rE, .int .i64 pL, .int .i64 pE, .int .i64 ((room : Nat) : Int), .int .i64 hv] 80] (by decide) (by kernel_rfl)
            have hpg1_ok := hpg1.ok hP.p.2.2.1 (by first | exact hk1.c | exact hk.c)
            exact ⟨(k + 1, svn, rs, (dropB xs ((l.getD k (0, 0, 0, 0)).2.2.1)), (0, 0), false), (by dsimp only; omega), (nthV [(uf1 0), .pointer (some ⟨g3, 0, none⟩), (uf1 2), (uf1 3), (uf1 4), .pointer (some ⟨g6, 0, none⟩), .bool false, .bool true, .pointer (some ⟨ga, oa + k * 4, none⟩), .agg #[.int .i64 ((l.getD k (0, 0, 0, 0)).1), .int .i64 ((l.getD k (0, 0, 0, 0)).2.1), .int .i64 ((l.getD k (0, 0, 0, 0)).2.2.1), .int .i64 ((l.getD k (0, 0, 0, 0)).2.2.2)], .pointer (some ⟨g3, 0, none⟩), .int .i64 ((l.getD k (0, 0, 0, 0)).1), .bool false, .bool false, (uf1 14), (uf1 15), (uf1 16), (uf1 17), (uf1 18), (uf1 19), (uf1 20), (uf1 21), (uf1 22), (uf1 23), (uf1 24), (uf1 25), (uf1 26), (uf1 27), (uf1 28), (uf1 29), (uf1 30), (uf1 31), (uf1 32), (uf1 33), (uf1 34), (uf1 35), (uf1 36), (uf1 37), (uf1 38), (uf1 39), (uf1 40), (uf1 41), (uf1 42), (uf1 43), (uf1 44), (uf1 45), (uf1 46), (uf1 47), (uf1 48), (uf1 49), (uf1 50), (uf1 51), (uf1 52), (uf1 53), (uf1 54), (uf1 55), .bool false, .bool false, (uf1 58), (uf1 59), (uf1 60), (uf1 61), (uf1 62), (uf1 63), (uf1 64), .bool true, .bool true, .pointer (some ⟨p, 0, none⟩), .pointer (some ⟨g3, 2, none⟩), .int .i64 ((l.getD k (0, 0, 0, 0)).2.2.1), .tuple #[], .pointer (some ⟨g3, 2, none⟩), .int .i64 ((l.getD k (0, 0, 0, 0)).2.2.1), .int .i64 page, .bool true, .agg #[.int .i64 0, .int .i64 0], .tuple #[.agg #[.int .i64 0, .int .i64 0], .bool false], .pointer (some ⟨p, 0, none⟩), .int .i64 page, .tuple #[.agg #[.int .i64 0, .int .i64 0], .bool false], .agg #[.int .i64 0, .int .i64 0], .bool false, .agg #[.int .i64 0, .int .i64 0], .agg #[.int .i64 0, .int .i64 0], .bool false, .bool false, .bool false, .bool false, .bool false, .bool false, .int .i64 (((k : Nat) : Int) + 1)]), (by kernel_rfl), H, (by omega), hk1, hpg1, (hpg1_ok)⟩
      · skip
        have h3p := of_decide_eq_true h3
        refine x_t (by kernel_rfl) ?_
        refine x_seq ?_
        refine x_region ?_
        refine x_val (.pointer (some ⟨p, 0, none⟩)) (by kernel_rfl) rfl (by kernel_rfl) ?_
        have hk1 := hk.tick hP
        refine x_call (by kernel_rfl) rfl (by kernel_rfl) (Hs.useE (A := [.blk p #[.int .i64 rL, .int .i64 rE, .int .i64 pL, .int .i64 pE, .int .i64 ((room : Nat) : Int), .int .i64 hv, .slice (some ⟨gr, 0, none⟩) ranks ranks, .pointer (some ⟨t, 0, none⟩)] 187, .row (.slice (some ⟨gr, 0, none⟩) ranks ranks) 86 2 ranks (List.flatMap bukL rs), .blk t #[sv, .int .i64 ((room : Nat) : Int), .func (.func 103) #[] #[]] 228, .row (sv) 230 3 (List.length xs) (List.flatMap pairLB xs)]) (R := [.blk g3 #[.int .i64 ((l.getD k (0, 0, 0, 0)).1), .int .i64 ((l.getD k (0, 0, 0, 0)).2.1), .int .i64 ((l.getD k (0, 0, 0, 0)).2.2.1), .int .i64 ((l.getD k (0, 0, 0, 0)).2.2.2)] 88, .blk g2 #[.int .i64 b.1, .int .i64 b.2] 86, .blk g1 #[.int .i64 rL, .int .i64 rE, .int .i64 pL, .int .i64 pE, .int .i64 ((room : Nat) : Int), .int .i64 hv] 80]) (fun svn => [.blk p #[.int .i64 rL, .int .i64 rE, .int .i64 pL, .int .i64 pE, .int .i64 ((room : Nat) : Int), .int .i64 hv, .slice (some ⟨gr, 0, none⟩) ranks ranks, .pointer (some ⟨t, 0, none⟩)] 187, .row (.slice (some ⟨gr, 0, none⟩) ranks ranks) 86 2 ranks (List.flatMap bukL (List.map (btick rE) rs)), .blk t #[svn, .int .i64 ((room : Nat) : Int), .func (.func 103) #[] #[]] 228, .row (svn) 230 3 (List.length (List.map (tickX pE) xs)) (List.flatMap pairLB (List.map (tickX pE) xs))]) (fun _ => .tuple #[]) (H.pick [1, 2, 3, 4, 0, 5, 6] _ (by decide) (by kernel_rfl)) (fun h => Tick_any hk hP _ h)) ?_
        rintro _ v19 ⟨svn, rfl, H'⟩
        refine ⟨_, rfl, ?_⟩
        clear H
        have H : Hs [] w0 _ [.blk p #[.int .i64 rL, .int .i64 rE, .int .i64 pL, .int .i64 pE, .int .i64 ((room : Nat) : Int), .int .i64 hv, .slice (some ⟨gr, 0, none⟩) ranks ranks, .pointer (some ⟨t, 0, none⟩)] 187, .row (.slice (some ⟨gr, 0, none⟩) ranks ranks) 86 2 ranks (List.flatMap bukL (List.map (btick rE) rs)), .blk t #[svn, .int .i64 ((room : Nat) : Int), .func (.func 103) #[] #[]] 228, .row (svn) 230 3 (List.length (List.map (tickX pE) xs)) (List.flatMap pairLB (List.map (tickX pE) xs)), .blk g3 #[.int .i64 ((l.getD k (0, 0, 0, 0)).1), .int .i64 ((l.getD k (0, 0, 0, 0)).2.1), .int .i64 ((l.getD k (0, 0, 0, 0)).2.2.1), .int .i64 ((l.getD k (0, 0, 0, 0)).2.2.2)] 88, .blk g2 #[.int .i64 b.1, .int .i64 b.2] 86, .blk g1 #[.int .i64 rL, .int .i64 rE, .int .i64 pL, .int .i64 pE, .int .i64 ((room : Nat) : Int), .int .i64 hv] 80] := H'
        clear H'
        refine x_nil ?_
        refine x_then ?_
        refine x_seq ?_
        refine x_region ?_
        refine x_val (.bool has) (by kernel_rfl) rfl (by kernel_rfl) ?_
        refine x_nil ?_
        refine x_then ?_
        cases h8 : has
        · skip
          refine x_f (by kernel_rfl) ?_
          refine x_skipc ?_
          refine x_blk ?_
          refine x_then ?_
          refine x_seq ?_
          refine x_region ?_
          refine x_val (.pointer (some ⟨p, 0, none⟩)) (by kernel_rfl) rfl (by kernel_rfl) ?_
          refine x_val (.int .i64 page) (by kernel_rfl) rfl (by kernel_rfl) ?_
          have hpg1 : PgOk (List.map (tickX pE) xs) page b false (k + 1) := (by have q := hpg.tick pE; rw [h8] at q; exact q)
          have hq1 := hpg1.get
          refine x_callB (.tuple #[.agg #[.int .i64 b.1, .int .i64 b.2], .bool false]) H (by kernel_rfl) rfl (by kernel_rfl) (by have h := Page_any page (Nat.le_trans hk1.m (Nat.le_trans hP.m.1 (by decide))) _ (H.roOf [0, 2, 3] [.blk p #[.int .i64 rL, .int .i64 rE, .int .i64 pL, .int .i64 pE, .int .i64 ((room : Nat) : Int), .int .i64 hv, .slice (some ⟨gr, 0, none⟩) ranks ranks, .pointer (some ⟨t, 0, none⟩)] 187, .blk t #[svn, .int .i64 ((room : Nat) : Int), .func (.func 103) #[] #[]] 228, .row (svn) 230 3 (List.length (List.map (tickX pE) xs)) (List.flatMap pairLB (List.map (tickX pE) xs))] (by kernel_rfl)); rw [hq1.1, hq1.2] at h; exact h) ?_
          clear H
          intro v20 H
          refine x_val (.tuple #[.agg #[.int .i64 b.1, .int .i64 b.2], .bool false]) (by kernel_rfl) rfl (by kernel_rfl) ?_
          refine x_val (.agg #[.int .i64 b.1, .int .i64 b.2]) (by kernel_rfl) rfl (by kernel_rfl) ?_
          refine x_val (.bool false) (by kernel_rfl) rfl (by kernel_rfl) ?_
          refine x_box H #[.int .i64 0, .int .i64 0] 86 (by kernel_rfl) rfl (by kernel_rfl) ?_
          clear H
          intro v21 g7 H
          refine x_store (t := 86) (v := .agg #[.int .i64 b.1, .int .i64 b.2]) H 0 g7 0 #[.int .i64 0, .int .i64 0] #[.int .i64 b.1, .int .i64 b.2] 86 [.int .i64 b.1, .int .i64 b.2] [.blk g7 #[.int .i64 b.1, .int .i64 b.2] 86, .blk p #[.int .i64 rL, .int .i64 rE, .int .i64 pL, .int .i64 pE, .int .i64 ((room : Nat) : Int), .int .i64 hv, .slice (some ⟨gr, 0, none⟩) ranks ranks, .pointer (some ⟨t, 0, none⟩)] 187, .row (.slice (some ⟨gr, 0, none⟩) ranks ranks) 86 2 ranks (List.flatMap bukL (List.map (btick rE) rs)), .blk t #[svn, .int .i64 ((room : Nat) : Int), .func (.func 103) #[] #[]] 228, .row (svn) 230 3 (List.length (List.map (tickX pE) xs)) (List.flatMap pairLB (List.map (tickX pE) xs)), .blk g3 #[.int .i64 ((l.getD k (0, 0, 0, 0)).1), .int .i64 ((l.getD k (0, 0, 0, 0)).2.1), .int .i64 ((l.getD k (0, 0, 0, 0)).2.2.1), .int .i64 ((l.getD k (0, 0, 0, 0)).2.2.2)] 88, .blk g2 #[.int .i64 b.1, .int .i64 b.2] 86, .blk g1 #[.int .i64 rL, .int .i64 rE, .int .i64 pL, .int .i64 pE, .int .i64 ((room : Nat) : Int), .int .i64 hv] 80] (by kernel_rfl) rfl (by kernel_rfl) (by kernel_rfl) (by kernel_rfl) (by kernel_rfl) (by kernel_rfl) (by kernel_rfl) (by kernel_rfl) (by kernel_rfl) ?_
          clear H
          intro v22 H
          refine x_val (.bool false) (by kernel_rfl) rfl (by kernel_rfl) ?_
          refine x_nil ?_
          refine x_then ?_
          refine x_seq ?_
          refine x_region ?_
          refine x_loadn (t := 86) H 0 g7 0 #[.int .i64 b.1, .int .i64 b.2] 86 [.int .i64 b.1, .int .i64 b.2] (by kernel_rfl) (by kernel_rfl) (by kernel_rfl) rfl (by kernel_rfl) (by kernel_rfl) ?_
          refine x_loadn (t := 86) H 6 g2 0 #[.int .i64 b.1, .int .i64 b.2] 86 [.int .i64 b.1, .int .i64 b.2] (by kernel_rfl) (by kernel_rfl) (by kernel_rfl) rfl (by kernel_rfl) (by kernel_rfl) ?_
          have h9 : (decide ((b.1 : Int) = b.1) && (decide ((b.2 : Int) = b.2) && true)) = true := by simp
          refine x_val (.bool false) (by kernel_rfl) rfl ((run_neS (t := 86) (x := .tmp 124) (y := .tmp 125) (xs := #[.int .i64 b.1, .int .i64 b.2]) (ys := #[.int .i64 b.1, .int .i64 b.2]) (B := decide ((b.1 : Int) = b.1) && (decide ((b.2 : Int) = b.2) && true)) (by kernel_rfl) (by kernel_rfl) (by kernel_rfl)).trans (by rw [h9]; rfl)) ?_
          refine x_val (.bool false) (by kernel_rfl) rfl (by kernel_rfl) ?_
          refine x_val (.bool false) (by kernel_rfl) rfl (by kernel_rfl) ?_
          refine x_val (.bool false) (by kernel_rfl) rfl (by kernel_rfl) ?_
          refine x_val (.bool false) (by kernel_rfl) rfl (by kernel_rfl) ?_
          refine x_val (.bool false) (by kernel_rfl) rfl (by kernel_rfl) ?_
          refine x_nil ?_
          refine x_frame' { tmps := #[.agg #[.int .i64 rL, .int .i64 rE, .int .i64 pL, .int .i64 pE, .int .i64 ((room : Nat) : Int), .int .i64 hv], .int .i64 ((ranks : Nat) : Int), .slice ad nA cA, .int .i64 page, .pointer (some ⟨g1, 0, none⟩), undef, undef, undef, (uf1 0), .pointer (some ⟨p, 0, none⟩), .int .i64 0, .pointer (some ⟨g2, 0, none⟩), .bool false, undef, .pointer (some ⟨g3, 0, none⟩), (uf1 2), (uf1 3), (uf1 4), .pointer (some ⟨g7, 0, none⟩), .bool false, .bool true, .bool false, .tuple #[.pointer (some ⟨p, 0, none⟩), .int .i64 0], .agg #[.int .i64 rL, .int .i64 rE, .int .i64 pL, .int .i64 pE, .int .i64 ((room : Nat) : Int), .int .i64 hv], .int .i64 ((ranks : Nat) : Int), .tuple #[.pointer (some ⟨p, 0, none⟩), .int .i64 0], .pointer (some ⟨p, 0, none⟩), .int .i64 0, .int .i64 0, .bool false, .bool false, .pointer (some ⟨p, 0, none⟩), .bool false, .bool false, .bool false, .slice ad nA cA, .int .i64 ((nA : Nat) : Int), .bool false, .bool false, .bool false, .pointer (some ⟨g1, 4, none⟩), .int .i64 ((room : Nat) : Int), .slice ad nA cA, .int .i64 ((nA : Nat) : Int), .bool false, .bool false, .slice ad nA cA, .int .i64 ((nA : Nat) : Int), .int .i64 ((k : Nat) : Int), .bool true, .pointer (some ⟨ga, oa + k * 4, none⟩), .agg #[.int .i64 ((l.getD k (0, 0, 0, 0)).1), .int .i64 ((l.getD k (0, 0, 0, 0)).2.1), .int .i64 ((l.getD k (0, 0, 0, 0)).2.2.1), .int .i64 ((l.getD k (0, 0, 0, 0)).2.2.2)], .pointer (some ⟨g3, 0, none⟩), .int .i64 ((l.getD k (0, 0, 0, 0)).1), .bool false, .bool false, (uf1 14), (uf1 15), (uf1 16), (uf1 17), (uf1 18), (uf1 19), (uf1 20), (uf1 21), (uf1 22), (uf1 23), (uf1 24), (uf1 25), (uf1 26), (uf1 27), (uf1 28), (uf1 29), (uf1 30), (uf1 31), (uf1 32), (uf1 33), (uf1 34), (uf1 35), (uf1 36), (uf1 37), (uf1 38), (uf1 39), (uf1 40), (uf1 41), (uf1 42), (uf1 43), (uf1 44), (uf1 45), (uf1 46), (uf1 47), (uf1 48), (uf1 49), (uf1 50), (uf1 51), (uf1 52), (uf1 53), (uf1 54), (uf1 55), .bool true, .bool true, .pointer (some ⟨p, 0, none⟩), .tuple #[], .bool false, (uf1 61), (uf1 62), (uf1 63), (uf1 64), (uf1 65), (uf1 66), (uf1 67), (uf1 68), (uf1 69), (uf1 70), (uf1 71), (uf1 72), (uf1 73), (uf1 74), (uf1 75), .tuple #[.agg #[.int .i64 b.1, .int .i64 b.2], .bool false], .pointer (some ⟨p, 0, none⟩), .int .i64 page, .tuple #[.agg #[.int .i64 b.1, .int .i64 b.2], .bool false], .agg #[.int .i64 b.1, .int .i64 b.2], .bool false, .agg #[.int .i64 b.1, .int .i64 b.2], .agg #[.int .i64 b.1, .int .i64 b.2], .bool false, .bool false, .bool false, .bool false, .bool false, .bool false, (uf1 90)], defers := [] } (by kernel_rfl) ?_
          refine x_then ?_
          refine x_f (by kernel_rfl) ?_
          refine x_skipc ?_
          refine x_blk ?_
          refine x_then ?_
          refine x_region ?_
          refine x_ar (((k : Nat) : Int) + 1) ⟨by omega, by omega⟩ (by kernel_rfl) rfl (by kernel_rfl) ?_
          refine x_val (.int .i64 (((k : Nat) : Int) + 1)) (by kernel_rfl) rfl (by kernel_rfl) ?_
          refine x_nil ?_
          refine x_then ?_
          replace H := H.pick [1, 2, 3, 4, 6, 7] [.blk p #[.int .i64 rL, .int .i64 rE, .int .i64 pL, .int .i64 pE, .int .i64 ((room : Nat) : Int), .int .i64 hv, .slice (some ⟨gr, 0, none⟩) ranks ranks, .pointer (some ⟨t, 0, none⟩)] 187, .row (.slice (some ⟨gr, 0, none⟩) ranks ranks) 86 2 ranks (List.flatMap bukL (List.map (btick rE) rs)), .blk t #[svn, .int .i64 ((room : Nat) : Int), .func (.func 103) #[] #[]] 228, .row (svn) 230 3 (List.length (List.map (tickX pE) xs)) (List.flatMap pairLB (List.map (tickX pE) xs)), .blk g2 #[.int .i64 b.1, .int .i64 b.2] 86, .blk g1 #[.int .i64 rL, .int .i64 rE, .int .i64 pL, .int .i64 pE, .int .i64 ((room : Nat) : Int), .int .i64 hv] 80] (by decide) (by kernel_rfl)
          have hpg1_ok := hpg1.ok hP.p.2.2.1 (by first | exact hk1.c | exact hk.c)
          exact ⟨(k + 1, svn, (List.map (btick rE) rs), (List.map (tickX pE) xs), b, false), (by dsimp only; omega), (nthV [(uf1 0), .pointer (some ⟨g3, 0, none⟩), (uf1 2), (uf1 3), (uf1 4), .pointer (some ⟨g7, 0, none⟩), .bool false, .bool true, .pointer (some ⟨ga, oa + k * 4, none⟩), .agg #[.int .i64 ((l.getD k (0, 0, 0, 0)).1), .int .i64 ((l.getD k (0, 0, 0, 0)).2.1), .int .i64 ((l.getD k (0, 0, 0, 0)).2.2.1), .int .i64 ((l.getD k (0, 0, 0, 0)).2.2.2)], .pointer (some ⟨g3, 0, none⟩), .int .i64 ((l.getD k (0, 0, 0, 0)).1), .bool false, .bool false, (uf1 14), (uf1 15), (uf1 16), (uf1 17), (uf1 18), (uf1 19), (uf1 20), (uf1 21), (uf1 22), (uf1 23), (uf1 24), (uf1 25), (uf1 26), (uf1 27), (uf1 28), (uf1 29), (uf1 30), (uf1 31), (uf1 32), (uf1 33), (uf1 34), (uf1 35), (uf1 36), (uf1 37), (uf1 38), (uf1 39), (uf1 40), (uf1 41), (uf1 42), (uf1 43), (uf1 44), (uf1 45), (uf1 46), (uf1 47), (uf1 48), (uf1 49), (uf1 50), (uf1 51), (uf1 52), (uf1 53), (uf1 54), (uf1 55), .bool true, .bool true, .pointer (some ⟨p, 0, none⟩), .tuple #[], .bool false, (uf1 61), (uf1 62), (uf1 63), (uf1 64), (uf1 65), (uf1 66), (uf1 67), (uf1 68), (uf1 69), (uf1 70), (uf1 71), (uf1 72), (uf1 73), (uf1 74), (uf1 75), .tuple #[.agg #[.int .i64 b.1, .int .i64 b.2], .bool false], .pointer (some ⟨p, 0, none⟩), .int .i64 page, .tuple #[.agg #[.int .i64 b.1, .int .i64 b.2], .bool false], .agg #[.int .i64 b.1, .int .i64 b.2], .bool false, .agg #[.int .i64 b.1, .int .i64 b.2], .agg #[.int .i64 b.1, .int .i64 b.2], .bool false, .bool false, .bool false, .bool false, .bool false, .bool false, .int .i64 (((k : Nat) : Int) + 1)]), (by kernel_rfl), H, (by omega), hk1, hpg1, (hpg1_ok)⟩
        · skip
          refine x_t (by kernel_rfl) ?_
          refine x_region ?_
          refine x_loadn (t := 86) H 5 g2 0 #[.int .i64 b.1, .int .i64 b.2] 86 [.int .i64 b.1, .int .i64 b.2] (by kernel_rfl) (by kernel_rfl) (by kernel_rfl) rfl (by kernel_rfl) (by kernel_rfl) ?_
          refine x_val (.pointer (some ⟨g1, 2, none⟩)) (by kernel_rfl) rfl (by kernel_rfl) ?_
          refine x_loadn (t := 78) H 6 g1 2 #[.int .i64 rL, .int .i64 rE, .int .i64 pL, .int .i64 pE, .int .i64 ((room : Nat) : Int), .int .i64 hv] 80 [.int .i64 pL, .int .i64 pE] (by kernel_rfl) (by kernel_rfl) (by kernel_rfl) rfl (by kernel_rfl) (by kernel_rfl) ?_
          refine x_callB (.agg #[.int .i64 ((btick pE b).1), .int .i64 ((btick pE b).2)]) H (by kernel_rfl) rfl (by kernel_rfl) (Tick_b pL pE b.1 b.2 hP.p hbo _) ?_
          clear H
          intro v23 H
          refine x_store (t := 86) (v := .agg #[.int .i64 ((btick pE b).1), .int .i64 ((btick pE b).2)]) H 5 g2 0 #[.int .i64 b.1, .int .i64 b.2] #[.int .i64 ((btick pE b).1), .int .i64 ((btick pE b).2)] 86 [.int .i64 ((btick pE b).1), .int .i64 ((btick pE b).2)] [.blk p #[.int .i64 rL, .int .i64 rE, .int .i64 pL, .int .i64 pE, .int .i64 ((room : Nat) : Int), .int .i64 hv, .slice (some ⟨gr, 0, none⟩) ranks ranks, .pointer (some ⟨t, 0, none⟩)] 187, .row (.slice (some ⟨gr, 0, none⟩) ranks ranks) 86 2 ranks (List.flatMap bukL (List.map (btick rE) rs)), .blk t #[svn, .int .i64 ((room : Nat) : Int), .func (.func 103) #[] #[]] 228, .row (svn) 230 3 (List.length (List.map (tickX pE) xs)) (List.flatMap pairLB (List.map (tickX pE) xs)), .blk g3 #[.int .i64 ((l.getD k (0, 0, 0, 0)).1), .int .i64 ((l.getD k (0, 0, 0, 0)).2.1), .int .i64 ((l.getD k (0, 0, 0, 0)).2.2.1), .int .i64 ((l.getD k (0, 0, 0, 0)).2.2.2)] 88, .blk g2 #[.int .i64 ((btick pE b).1), .int .i64 ((btick pE b).2)] 86, .blk g1 #[.int .i64 rL, .int .i64 rE, .int .i64 pL, .int .i64 pE, .int .i64 ((room : Nat) : Int), .int .i64 hv] 80] (by kernel_rfl) rfl (by kernel_rfl) (by kernel_rfl) (by kernel_rfl) (by kernel_rfl) (by kernel_rfl) (by kernel_rfl) (by kernel_rfl) (by kernel_rfl) ?_
          clear H
          intro v24 H
          refine x_nil ?_
          refine x_blk ?_
          refine x_then ?_
          refine x_seq ?_
          refine x_region ?_
          refine x_val (.pointer (some ⟨p, 0, none⟩)) (by kernel_rfl) rfl (by kernel_rfl) ?_
          refine x_val (.int .i64 page) (by kernel_rfl) rfl (by kernel_rfl) ?_
          have hpg1 : PgOk (List.map (tickX pE) xs) page (btick pE b) true (k + 1) := (by have q := hpg.tick pE; rw [h8] at q; exact q)
          have hq1 := hpg1.get
          refine x_callB (.tuple #[.agg #[.int .i64 ((btick pE b).1), .int .i64 ((btick pE b).2)], .bool true]) H (by kernel_rfl) rfl (by kernel_rfl) (by have h := Page_any page (Nat.le_trans hk1.m (Nat.le_trans hP.m.1 (by decide))) _ (H.roOf [0, 2, 3] [.blk p #[.int .i64 rL, .int .i64 rE, .int .i64 pL, .int .i64 pE, .int .i64 ((room : Nat) : Int), .int .i64 hv, .slice (some ⟨gr, 0, none⟩) ranks ranks, .pointer (some ⟨t, 0, none⟩)] 187, .blk t #[svn, .int .i64 ((room : Nat) : Int), .func (.func 103) #[] #[]] 228, .row (svn) 230 3 (List.length (List.map (tickX pE) xs)) (List.flatMap pairLB (List.map (tickX pE) xs))] (by kernel_rfl)); rw [hq1.1, hq1.2] at h; exact h) ?_
          clear H
          intro v25 H
          refine x_val (.tuple #[.agg #[.int .i64 ((btick pE b).1), .int .i64 ((btick pE b).2)], .bool true]) (by kernel_rfl) rfl (by kernel_rfl) ?_
          refine x_val (.agg #[.int .i64 ((btick pE b).1), .int .i64 ((btick pE b).2)]) (by kernel_rfl) rfl (by kernel_rfl) ?_
          refine x_val (.bool true) (by kernel_rfl) rfl (by kernel_rfl) ?_
          refine x_box H #[.int .i64 0, .int .i64 0] 86 (by kernel_rfl) rfl (by kernel_rfl) ?_
          clear H
          intro v26 g8 H
          refine x_store (t := 86) (v := .agg #[.int .i64 ((btick pE b).1), .int .i64 ((btick pE b).2)]) H 0 g8 0 #[.int .i64 0, .int .i64 0] #[.int .i64 ((btick pE b).1), .int .i64 ((btick pE b).2)] 86 [.int .i64 ((btick pE b).1), .int .i64 ((btick pE b).2)] [.blk g8 #[.int .i64 ((btick pE b).1), .int .i64 ((btick pE b).2)] 86, .blk p #[.int .i64 rL, .int .i64 rE, .int .i64 pL, .int .i64 pE, .int .i64 ((room : Nat) : Int), .int .i64 hv, .slice (some ⟨gr, 0, none⟩) ranks ranks, .pointer (some ⟨t, 0, none⟩)] 187, .row (.slice (some ⟨gr, 0, none⟩) ranks ranks) 86 2 ranks (List.flatMap bukL (List.map (btick rE) rs)), .blk t #[svn, .int .i64 ((room : Nat) : Int), .func (.func 103) #[] #[]] 228, .row (svn) 230 3 (List.length (List.map (tickX pE) xs)) (List.flatMap pairLB (List.map (tickX pE) xs)), .blk g3 #[.int .i64 ((l.getD k (0, 0, 0, 0)).1), .int .i64 ((l.getD k (0, 0, 0, 0)).2.1), .int .i64 ((l.getD k (0, 0, 0, 0)).2.2.1), .int .i64 ((l.getD k (0, 0, 0, 0)).2.2.2)] 88, .blk g2 #[.int .i64 ((btick pE b).1), .int .i64 ((btick pE b).2)] 86, .blk g1 #[.int .i64 rL, .int .i64 rE, .int .i64 pL, .int .i64 pE, .int .i64 ((room : Nat) : Int), .int .i64 hv] 80] (by kernel_rfl) rfl (by kernel_rfl) (by kernel_rfl) (by kernel_rfl) (by kernel_rfl) (by kernel_rfl) (by kernel_rfl) (by kernel_rfl) (by kernel_rfl) ?_
          clear H
          intro v27 H
          refine x_val (.bool true) (by kernel_rfl) rfl (by kernel_rfl) ?_
          refine x_nil ?_
          refine x_then ?_
          refine x_seq ?_
          refine x_region ?_
          refine x_loadn (t := 86) H 0 g8 0 #[.int .i64 ((btick pE b).1), .int .i64 ((btick pE b).2)] 86 [.int .i64 ((btick pE b).1), .int .i64 ((btick pE b).2)] (by kernel_rfl) (by kernel_rfl) (by kernel_rfl) rfl (by kernel_rfl) (by kernel_rfl) ?_
          refine x_loadn (t := 86) H 6 g2 0 #[.int .i64 ((btick pE b).1), .int .i64 ((btick pE b).2)] 86 [.int .i64 ((btick pE b).1), .int .i64 ((btick pE b).2)] (by kernel_rfl) (by kernel_rfl) (by kernel_rfl) rfl (by kernel_rfl) (by kernel_rfl) ?_
          have h10 : (decide ((((btick pE b).1) : Int) = ((btick pE b).1)) && (decide ((((btick pE b).2) : Int) = ((btick pE b).2)) && true)) = true := by simp
          refine x_val (.bool false) (by kernel_rfl) rfl ((run_neS (t := 86) (x := .tmp 124) (y := .tmp 125) (xs := #[.int .i64 ((btick pE b).1), .int .i64 ((btick pE b).2)]) (ys := #[.int .i64 ((btick pE b).1), .int .i64 ((btick pE b).2)]) (B := decide ((((btick pE b).1) : Int) = ((btick pE b).1)) && (decide ((((btick pE b).2) : Int) = ((btick pE b).2)) && true)) (by kernel_rfl) (by kernel_rfl) (by kernel_rfl)).trans (by rw [h10]; rfl)) ?_
          refine x_val (.bool false) (by kernel_rfl) rfl (by kernel_rfl) ?_
          refine x_val (.bool true) (by kernel_rfl) rfl (by kernel_rfl) ?_
          refine x_val (.bool true) (by kernel_rfl) rfl (by kernel_rfl) ?_
          refine x_val (.bool false) (by kernel_rfl) rfl (by kernel_rfl) ?_
          refine x_val (.bool false) (by kernel_rfl) rfl (by kernel_rfl) ?_
          refine x_nil ?_
          refine x_frame' { tmps := #[.agg #[.int .i64 rL, .int .i64 rE, .int .i64 pL, .int .i64 pE, .int .i64 ((room : Nat) : Int), .int .i64 hv], .int .i64 ((ranks : Nat) : Int), .slice ad nA cA, .int .i64 page, .pointer (some ⟨g1, 0, none⟩), undef, undef, undef, (uf1 0), .pointer (some ⟨p, 0, none⟩), .int .i64 0, .pointer (some ⟨g2, 0, none⟩), .bool true, undef, .pointer (some ⟨g3, 0, none⟩), (uf1 2), (uf1 3), (uf1 4), .pointer (some ⟨g8, 0, none⟩), .bool true, .bool true, .bool false, .tuple #[.pointer (some ⟨p, 0, none⟩), .int .i64 0], .agg #[.int .i64 rL, .int .i64 rE, .int .i64 pL, .int .i64 pE, .int .i64 ((room : Nat) : Int), .int .i64 hv], .int .i64 ((ranks : Nat) : Int), .tuple #[.pointer (some ⟨p, 0, none⟩), .int .i64 0], .pointer (some ⟨p, 0, none⟩), .int .i64 0, .int .i64 0, .bool false, .bool false, .pointer (some ⟨p, 0, none⟩), .bool false, .bool false, .bool false, .slice ad nA cA, .int .i64 ((nA : Nat) : Int), .bool false, .bool false, .bool false, .pointer (some ⟨g1, 4, none⟩), .int .i64 ((room : Nat) : Int), .slice ad nA cA, .int .i64 ((nA : Nat) : Int), .bool false, .bool false, .slice ad nA cA, .int .i64 ((nA : Nat) : Int), .int .i64 ((k : Nat) : Int), .bool true, .pointer (some ⟨ga, oa + k * 4, none⟩), .agg #[.int .i64 ((l.getD k (0, 0, 0, 0)).1), .int .i64 ((l.getD k (0, 0, 0, 0)).2.1), .int .i64 ((l.getD k (0, 0, 0, 0)).2.2.1), .int .i64 ((l.getD k (0, 0, 0, 0)).2.2.2)], .pointer (some ⟨g3, 0, none⟩), .int .i64 ((l.getD k (0, 0, 0, 0)).1), .bool false, .bool false, (uf1 14), (uf1 15), (uf1 16), (uf1 17), (uf1 18), (uf1 19), (uf1 20), (uf1 21), (uf1 22), (uf1 23), (uf1 24), (uf1 25), (uf1 26), (uf1 27), (uf1 28), (uf1 29), (uf1 30), (uf1 31), (uf1 32), (uf1 33), (uf1 34), (uf1 35), (uf1 36), (uf1 37), (uf1 38), (uf1 39), (uf1 40), (uf1 41), (uf1 42), (uf1 43), (uf1 44), (uf1 45), (uf1 46), (uf1 47), (uf1 48), (uf1 49), (uf1 50), (uf1 51), (uf1 52), (uf1 53), (uf1 54), (uf1 55), .bool true, .bool true, .pointer (some ⟨p, 0, none⟩), .tuple #[], .bool true, .agg #[.int .i64 b.1, .int .i64 b.2], .pointer (some ⟨g1, 2, none⟩), .agg #[.int .i64 pL, .int .i64 pE], .agg #[.int .i64 ((btick pE b).1), .int .i64 ((btick pE b).2)], (uf1 65), (uf1 66), (uf1 67), (uf1 68), (uf1 69), (uf1 70), (uf1 71), (uf1 72), (uf1 73), (uf1 74), (uf1 75), .tuple #[.agg #[.int .i64 ((btick pE b).1), .int .i64 ((btick pE b).2)], .bool true], .pointer (some ⟨p, 0, none⟩), .int .i64 page, .tuple #[.agg #[.int .i64 ((btick pE b).1), .int .i64 ((btick pE b).2)], .bool true], .agg #[.int .i64 ((btick pE b).1), .int .i64 ((btick pE b).2)], .bool true, .agg #[.int .i64 ((btick pE b).1), .int .i64 ((btick pE b).2)], .agg #[.int .i64 ((btick pE b).1), .int .i64 ((btick pE b).2)], .bool false, .bool false, .bool true, .bool true, .bool false, .bool false, (uf1 90)], defers := [] } (by kernel_rfl) ?_
          refine x_then ?_
          refine x_f (by kernel_rfl) ?_
          refine x_skipc ?_
          refine x_blk ?_
          refine x_then ?_
          refine x_region ?_
          refine x_ar (((k : Nat) : Int) + 1) ⟨by omega, by omega⟩ (by kernel_rfl) rfl (by kernel_rfl) ?_
          refine x_val (.int .i64 (((k : Nat) : Int) + 1)) (by kernel_rfl) rfl (by kernel_rfl) ?_
          refine x_nil ?_
          refine x_then ?_
          replace H := H.pick [1, 2, 3, 4, 6, 7] [.blk p #[.int .i64 rL, .int .i64 rE, .int .i64 pL, .int .i64 pE, .int .i64 ((room : Nat) : Int), .int .i64 hv, .slice (some ⟨gr, 0, none⟩) ranks ranks, .pointer (some ⟨t, 0, none⟩)] 187, .row (.slice (some ⟨gr, 0, none⟩) ranks ranks) 86 2 ranks (List.flatMap bukL (List.map (btick rE) rs)), .blk t #[svn, .int .i64 ((room : Nat) : Int), .func (.func 103) #[] #[]] 228, .row (svn) 230 3 (List.length (List.map (tickX pE) xs)) (List.flatMap pairLB (List.map (tickX pE) xs)), .blk g2 #[.int .i64 ((btick pE b).1), .int .i64 ((btick pE b).2)] 86, .blk g1 #[.int .i64 rL, .int .i64 rE, .int .i64 pL, .int .i64 pE, .int .i64 ((room : Nat) : Int), .int .i64 hv] 80] (by decide) (by kernel_rfl)
          have hpg1_ok := hpg1.ok hP.p.2.2.1 (by first | exact hk1.c | exact hk.c)
          exact ⟨(k + 1, svn, (List.map (btick rE) rs), (List.map (tickX pE) xs), (btick pE b), true), (by dsimp only; omega), (nthV [(uf1 0), .pointer (some ⟨g3, 0, none⟩), (uf1 2), (uf1 3), (uf1 4), .pointer (some ⟨g8, 0, none⟩), .bool true, .bool true, .pointer (some ⟨ga, oa + k * 4, none⟩), .agg #[.int .i64 ((l.getD k (0, 0, 0, 0)).1), .int .i64 ((l.getD k (0, 0, 0, 0)).2.1), .int .i64 ((l.getD k (0, 0, 0, 0)).2.2.1), .int .i64 ((l.getD k (0, 0, 0, 0)).2.2.2)], .pointer (some ⟨g3, 0, none⟩), .int .i64 ((l.getD k (0, 0, 0, 0)).1), .bool false, .bool false, (uf1 14), (uf1 15), (uf1 16), (uf1 17), (uf1 18), (uf1 19), (uf1 20), (uf1 21), (uf1 22), (uf1 23), (uf1 24), (uf1 25), (uf1 26), (uf1 27), (uf1 28), (uf1 29), (uf1 30), (uf1 31), (uf1 32), (uf1 33), (uf1 34), (uf1 35), (uf1 36), (uf1 37), (uf1 38), (uf1 39), (uf1 40), (uf1 41), (uf1 42), (uf1 43), (uf1 44), (uf1 45), (uf1 46), (uf1 47), (uf1 48), (uf1 49), (uf1 50), (uf1 51), (uf1 52), (uf1 53), (uf1 54), (uf1 55), .bool true, .bool true, .pointer (some ⟨p, 0, none⟩), .tuple #[], .bool true, .agg #[.int .i64 b.1, .int .i64 b.2], .pointer (some ⟨g1, 2, none⟩), .agg #[.int .i64 pL, .int .i64 pE], .agg #[.int .i64 ((btick pE b).1), .int .i64 ((btick pE b).2)], (uf1 65), (uf1 66), (uf1 67), (uf1 68), (uf1 69), (uf1 70), (uf1 71), (uf1 72), (uf1 73), (uf1 74), (uf1 75), .tuple #[.agg #[.int .i64 ((btick pE b).1), .int .i64 ((btick pE b).2)], .bool true], .pointer (some ⟨p, 0, none⟩), .int .i64 page, .tuple #[.agg #[.int .i64 ((btick pE b).1), .int .i64 ((btick pE b).2)], .bool true], .agg #[.int .i64 ((btick pE b).1), .int .i64 ((btick pE b).2)], .bool true, .agg #[.int .i64 ((btick pE b).1), .int .i64 ((btick pE b).2)], .agg #[.int .i64 ((btick pE b).1), .int .i64 ((btick pE b).2)], .bool false, .bool false, .bool true, .bool true, .bool false, .bool false, .int .i64 (((k : Nat) : Int) + 1)]), (by kernel_rfl), H, (by omega), hk1, hpg1, (hpg1_ok)⟩
    · skip
      have h2p := of_decide_eq_true h2
      refine x_t (by kernel_rfl) ?_
      refine x_seq ?_
      refine x_region ?_
      refine x_val (.pointer (some ⟨p, 0, none⟩)) (by kernel_rfl) rfl (by kernel_rfl) ?_
      refine x_val (.pointer (some ⟨g3, 1, none⟩)) (by kernel_rfl) rfl (by kernel_rfl) ?_
      refine x_load1 H 0 g3 1 #[.int .i64 ((l.getD k (0, 0, 0, 0)).1), .int .i64 ((l.getD k (0, 0, 0, 0)).2.1), .int .i64 ((l.getD k (0, 0, 0, 0)).2.2.1), .int .i64 ((l.getD k (0, 0, 0, 0)).2.2.2)] 88 (.int .i64 ((l.getD k (0, 0, 0, 0)).2.1)) (by kernel_rfl) (by kernel_rfl) (by kernel_rfl) rfl (by kernel_rfl) ?_
      refine x_val (.pointer (some ⟨g3, 2, none⟩)) (by kernel_rfl) rfl (by kernel_rfl) ?_
      refine x_load1 H 0 g3 2 #[.int .i64 ((l.getD k (0, 0, 0, 0)).1), .int .i64 ((l.getD k (0, 0, 0, 0)).2.1), .int .i64 ((l.getD k (0, 0, 0, 0)).2.2.1), .int .i64 ((l.getD k (0, 0, 0, 0)).2.2.2)] 88 (.int .i64 ((l.getD k (0, 0, 0, 0)).2.2.1)) (by kernel_rfl) (by kernel_rfl) (by kernel_rfl) rfl (by kernel_rfl) ?_
      refine x_val (.pointer (some ⟨g3, 3, none⟩)) (by kernel_rfl) rfl (by kernel_rfl) ?_
      refine x_load1 H 0 g3 3 #[.int .i64 ((l.getD k (0, 0, 0, 0)).1), .int .i64 ((l.getD k (0, 0, 0, 0)).2.1), .int .i64 ((l.getD k (0, 0, 0, 0)).2.2.1), .int .i64 ((l.getD k (0, 0, 0, 0)).2.2.2)] 88 (.int .i64 ((l.getD k (0, 0, 0, 0)).2.2.2)) (by kernel_rfl) (by kernel_rfl) (by kernel_rfl) rfl (by kernel_rfl) ?_
      have hk1 := hk.note hP ((l.getD k (0, 0, 0, 0)).2.1) ((l.getD k (0, 0, 0, 0)).2.2.1) ((l.getD k (0, 0, 0, 0)).2.2.2)
      refine x_call (by kernel_rfl) rfl (by kernel_rfl) (Hs.useE (A := [.blk p #[.int .i64 rL, .int .i64 rE, .int .i64 pL, .int .i64 pE, .int .i64 ((room : Nat) : Int), .int .i64 hv, .slice (some ⟨gr, 0, none⟩) ranks ranks, .pointer (some ⟨t, 0, none⟩)] 187, .row (.slice (some ⟨gr, 0, none⟩) ranks ranks) 86 2 ranks (List.flatMap bukL rs), .blk t #[sv, .int .i64 ((room : Nat) : Int), .func (.func 103) #[] #[]] 228, .row (sv) 230 3 (List.length xs) (List.flatMap pairLB xs)]) (R := [.blk g3 #[.int .i64 ((l.getD k (0, 0, 0, 0)).1), .int .i64 ((l.getD k (0, 0, 0, 0)).2.1), .int .i64 ((l.getD k (0, 0, 0, 0)).2.2.1), .int .i64 ((l.getD k (0, 0, 0, 0)).2.2.2)] 88, .blk g2 #[.int .i64 b.1, .int .i64 b.2] 86, .blk g1 #[.int .i64 rL, .int .i64 rE, .int .i64 pL, .int .i64 pE, .int .i64 ((room : Nat) : Int), .int .i64 hv] 80]) (fun svn => [.blk p #[.int .i64 rL, .int .i64 rE, .int .i64 pL, .int .i64 pE, .int .i64 ((room : Nat) : Int), .int .i64 hv, .slice (some ⟨gr, 0, none⟩) ranks ranks, .pointer (some ⟨t, 0, none⟩)] 187, .row (.slice (some ⟨gr, 0, none⟩) ranks ranks) 86 2 ranks (List.flatMap bukL (nRs ranks rs ((l.getD k (0, 0, 0, 0)).2.1) ((l.getD k (0, 0, 0, 0)).2.2.2))), .blk t #[svn, .int .i64 ((room : Nat) : Int), .func (.func 103) #[] #[]] 228, .row (svn) 230 3 (List.length (nXs ranks room xs ((l.getD k (0, 0, 0, 0)).2.1) ((l.getD k (0, 0, 0, 0)).2.2.1) ((l.getD k (0, 0, 0, 0)).2.2.2))) (List.flatMap pairLB (nXs ranks room xs ((l.getD k (0, 0, 0, 0)).2.1) ((l.getD k (0, 0, 0, 0)).2.2.1) ((l.getD k (0, 0, 0, 0)).2.2.2)))]) (fun _ => .tuple #[.agg #[.bool (nC1 rL ranks rs ((l.getD k (0, 0, 0, 0)).2.1) ((l.getD k (0, 0, 0, 0)).2.2.2)), .bool (nC2 pL ranks xs ((l.getD k (0, 0, 0, 0)).2.1) ((l.getD k (0, 0, 0, 0)).2.2.1) ((l.getD k (0, 0, 0, 0)).2.2.2))], .int .i64 (nE ranks ((l.getD k (0, 0, 0, 0)).2.1) ((l.getD k (0, 0, 0, 0)).2.2.2))]) (H.pick [1, 2, 3, 4, 0, 5, 6] _ (by decide) (by kernel_rfl)) (fun h => Note_any ((l.getD k (0, 0, 0, 0)).2.1) ((l.getD k (0, 0, 0, 0)).2.2.1) ((l.getD k (0, 0, 0, 0)).2.2.2) hk hP _ h)) ?_
      rintro _ v28 ⟨svn, rfl, H'⟩
      refine ⟨_, rfl, ?_⟩
      clear H
      have H : Hs [] w0 _ [.blk p #[.int .i64 rL, .int .i64 rE, .int .i64 pL, .int .i64 pE, .int .i64 ((room : Nat) : Int), .int .i64 hv, .slice (some ⟨gr, 0, none⟩) ranks ranks, .pointer (some ⟨t, 0, none⟩)] 187, .row (.slice (some ⟨gr, 0, none⟩) ranks ranks) 86 2 ranks (List.flatMap bukL (nRs ranks rs ((l.getD k (0, 0, 0, 0)).2.1) ((l.getD k (0, 0, 0, 0)).2.2.2))), .blk t #[svn, .int .i64 ((room : Nat) : Int), .func (.func 103) #[] #[]] 228, .row (svn) 230 3 (List.length (nXs ranks room xs ((l.getD k (0, 0, 0, 0)).2.1) ((l.getD k (0, 0, 0, 0)).2.2.1) ((l.getD k (0, 0, 0, 0)).2.2.2))) (List.flatMap pairLB (nXs ranks room xs ((l.getD k (0, 0, 0, 0)).2.1) ((l.getD k (0, 0, 0, 0)).2.2.1) ((l.getD k (0, 0, 0, 0)).2.2.2))), .blk g3 #[.int .i64 ((l.getD k (0, 0, 0, 0)).1), .int .i64 ((l.getD k (0, 0, 0, 0)).2.1), .int .i64 ((l.getD k (0, 0, 0, 0)).2.2.1), .int .i64 ((l.getD k (0, 0, 0, 0)).2.2.2)] 88, .blk g2 #[.int .i64 b.1, .int .i64 b.2] 86, .blk g1 #[.int .i64 rL, .int .i64 rE, .int .i64 pL, .int .i64 pE, .int .i64 ((room : Nat) : Int), .int .i64 hv] 80] := H'
      clear H'
      refine x_val (.tuple #[.agg #[.bool (nC1 rL ranks rs ((l.getD k (0, 0, 0, 0)).2.1) ((l.getD k (0, 0, 0, 0)).2.2.2)), .bool (nC2 pL ranks xs ((l.getD k (0, 0, 0, 0)).2.1) ((l.getD k (0, 0, 0, 0)).2.2.1) ((l.getD k (0, 0, 0, 0)).2.2.2))], .int .i64 (nE ranks ((l.getD k (0, 0, 0, 0)).2.1) ((l.getD k (0, 0, 0, 0)).2.2.2))]) (by kernel_rfl) rfl (by kernel_rfl) ?_
      refine x_val (.agg #[.bool (nC1 rL ranks rs ((l.getD k (0, 0, 0, 0)).2.1) ((l.getD k (0, 0, 0, 0)).2.2.2)), .bool (nC2 pL ranks xs ((l.getD k (0, 0, 0, 0)).2.1) ((l.getD k (0, 0, 0, 0)).2.2.1) ((l.getD k (0, 0, 0, 0)).2.2.2))]) (by kernel_rfl) rfl (by kernel_rfl) ?_
      refine x_val (.int .i64 (nE ranks ((l.getD k (0, 0, 0, 0)).2.1) ((l.getD k (0, 0, 0, 0)).2.2.2))) (by kernel_rfl) rfl (by kernel_rfl) ?_
      refine x_box H #[.bool false, .bool false] 90 (by kernel_rfl) rfl (by kernel_rfl) ?_
      clear H
      intro v29 g9 H
      refine x_store (t := 90) (v := .agg #[.bool (nC1 rL ranks rs ((l.getD k (0, 0, 0, 0)).2.1) ((l.getD k (0, 0, 0, 0)).2.2.2)), .bool (nC2 pL ranks xs ((l.getD k (0, 0, 0, 0)).2.1) ((l.getD k (0, 0, 0, 0)).2.2.1) ((l.getD k (0, 0, 0, 0)).2.2.2))]) H 0 g9 0 #[.bool false, .bool false] #[.bool (nC1 rL ranks rs ((l.getD k (0, 0, 0, 0)).2.1) ((l.getD k (0, 0, 0, 0)).2.2.2)), .bool (nC2 pL ranks xs ((l.getD k (0, 0, 0, 0)).2.1) ((l.getD k (0, 0, 0, 0)).2.2.1) ((l.getD k (0, 0, 0, 0)).2.2.2))] 90 [.bool (nC1 rL ranks rs ((l.getD k (0, 0, 0, 0)).2.1) ((l.getD k (0, 0, 0, 0)).2.2.2)), .bool (nC2 pL ranks xs ((l.getD k (0, 0, 0, 0)).2.1) ((l.getD k (0, 0, 0, 0)).2.2.1) ((l.getD k (0, 0, 0, 0)).2.2.2))] [.blk g9 #[.bool (nC1 rL ranks rs ((l.getD k (0, 0, 0, 0)).2.1) ((l.getD k (0, 0, 0, 0)).2.2.2)), .bool (nC2 pL ranks xs ((l.getD k (0, 0, 0, 0)).2.1) ((l.getD k (0, 0, 0, 0)).2.2.1) ((l.getD k (0, 0, 0, 0)).2.2.2))] 90, .blk p #[.int .i64 rL, .int .i64 rE, .int .i64 pL, .int .i64 pE, .int .i64 ((room : Nat) : Int), .int .i64 hv, .slice (some ⟨gr, 0, none⟩) ranks ranks, .pointer (some ⟨t, 0, none⟩)] 187, .row (.slice (some ⟨gr, 0, none⟩) ranks ranks) 86 2 ranks (List.flatMap bukL (nRs ranks rs ((l.getD k (0, 0, 0, 0)).2.1) ((l.getD k (0, 0, 0, 0)).2.2.2))), .blk t #[svn, .int .i64 ((room : Nat) : Int), .func (.func 103) #[] #[]] 228, .row (svn) 230 3 (List.length (nXs ranks room xs ((l.getD k (0, 0, 0, 0)).2.1) ((l.getD k (0, 0, 0, 0)).2.2.1) ((l.getD k (0, 0, 0, 0)).2.2.2))) (List.flatMap pairLB (nXs ranks room xs ((l.getD k (0, 0, 0, 0)).2.1) ((l.getD k (0, 0, 0, 0)).2.2.1) ((l.getD k (0, 0, 0, 0)).2.2.2))), .blk g3 #[.int .i64 ((l.getD k (0, 0, 0, 0)).1), .int .i64 ((l.getD k (0, 0, 0, 0)).2.1), .int .i64 ((l.getD k (0, 0, 0, 0)).2.2.1), .int .i64 ((l.getD k (0, 0, 0, 0)).2.2.2)] 88, .blk g2 #[.int .i64 b.1, .int .i64 b.2] 86, .blk g1 #[.int .i64 rL, .int .i64 rE, .int .i64 pL, .int .i64 pE, .int .i64 ((room : Nat) : Int), .int .i64 hv] 80] (by kernel_rfl) rfl (by kernel_rfl) (by kernel_rfl) (by kernel_rfl) (by kernel_rfl) (by kernel_rfl) (by kernel_rfl) (by kernel_rfl) (by kernel_rfl) ?_
      clear H
      intro v30 H
      refine x_val (.int .i64 (nE ranks ((l.getD k (0, 0, 0, 0)).2.1) ((l.getD k (0, 0, 0, 0)).2.2.2))) (by kernel_rfl) rfl (by kernel_rfl) ?_
      refine x_nil ?_
      refine x_then ?_
      refine x_seq ?_
      refine x_region ?_
      refine x_val (.bool false) (by kernel_rfl) rfl (by kernel_rfl) ?_
      refine x_nil ?_
      refine x_then ?_
      refine x_seq ?_
      refine x_seq ?_
      refine x_region ?_
      refine x_val (.int .i64 (nE ranks ((l.getD k (0, 0, 0, 0)).2.1) ((l.getD k (0, 0, 0, 0)).2.2.2))) (by kernel_rfl) rfl (by kernel_rfl) ?_
      refine x_val (.bool (decide ((nE ranks ((l.getD k (0, 0, 0, 0)).2.1) ((l.getD k (0, 0, 0, 0)).2.2.2)) = 0))) (by kernel_rfl) rfl (by kernel_rfl) ?_
      refine x_val (.bool (decide ((nE ranks ((l.getD k (0, 0, 0, 0)).2.1) ((l.getD k (0, 0, 0, 0)).2.2.2)) = 0))) (by kernel_rfl) rfl (by kernel_rfl) ?_
      cases h11 : decide ((nE ranks ((l.getD k (0, 0, 0, 0)).2.1) ((l.getD k (0, 0, 0, 0)).2.2.2)) = 0)
      · skip
        have h11p := of_decide_eq_false h11
        refine x_skip (by kernel_rfl) ?_
        refine x_skip (by kernel_rfl) ?_
        refine x_skip (by kernel_rfl) ?_
        refine x_skip (by kernel_rfl) ?_
        refine x_val (.bool false) (by kernel_rfl) rfl (by kernel_rfl) ?_
        refine x_nil ?_
        refine x_frame' { tmps := #[.agg #[.int .i64 rL, .int .i64 rE, .int .i64 pL, .int .i64 pE, .int .i64 ((room : Nat) : Int), .int .i64 hv], .int .i64 ((ranks : Nat) : Int), .slice ad nA cA, .int .i64 page, .pointer (some ⟨g1, 0, none⟩), undef, undef, undef, (uf1 0), .pointer (some ⟨p, 0, none⟩), .int .i64 0, .pointer (some ⟨g2, 0, none⟩), .bool has, undef, .pointer (some ⟨g3, 0, none⟩), .pointer (some ⟨g9, 0, none⟩), .int .i64 (nE ranks ((l.getD k (0, 0, 0, 0)).2.1) ((l.getD k (0, 0, 0, 0)).2.2.2)), .bool false, (uf1 5), (uf1 6), .bool true, .bool false, .tuple #[.pointer (some ⟨p, 0, none⟩), .int .i64 0], .agg #[.int .i64 rL, .int .i64 rE, .int .i64 pL, .int .i64 pE, .int .i64 ((room : Nat) : Int), .int .i64 hv], .int .i64 ((ranks : Nat) : Int), .tuple #[.pointer (some ⟨p, 0, none⟩), .int .i64 0], .pointer (some ⟨p, 0, none⟩), .int .i64 0, .int .i64 0, .bool false, .bool false, .pointer (some ⟨p, 0, none⟩), .bool false, .bool false, .bool false, .slice ad nA cA, .int .i64 ((nA : Nat) : Int), .bool false, .bool false, .bool false, .pointer (some ⟨g1, 4, none⟩), .int .i64 ((room : Nat) : Int), .slice ad nA cA, .int .i64 ((nA : Nat) : Int), .bool false, .bool false, .slice ad nA cA, .int .i64 ((nA : Nat) : Int), .int .i64 ((k : Nat) : Int), .bool true, .pointer (some ⟨ga, oa + k * 4, none⟩), .agg #[.int .i64 ((l.getD k (0, 0, 0, 0)).1), .int .i64 ((l.getD k (0, 0, 0, 0)).2.1), .int .i64 ((l.getD k (0, 0, 0, 0)).2.2.1), .int .i64 ((l.getD k (0, 0, 0, 0)).2.2.2)], .pointer (some ⟨g3, 0, none⟩), .int .i64 ((l.getD k (0, 0, 0, 0)).1), .bool true, .bool true, .tuple #[.agg #[.bool (nC1 rL ranks rs ((l.getD k (0, 0, 0, 0)).2.1) ((l.getD k (0, 0, 0, 0)).2.2.2)), .bool (nC2 pL ranks xs ((l.getD k (0, 0, 0, 0)).2.1) ((l.getD k (0, 0, 0, 0)).2.2.1) ((l.getD k (0, 0, 0, 0)).2.2.2))], .int .i64 (nE ranks ((l.getD k (0, 0, 0, 0)).2.1) ((l.getD k (0, 0, 0, 0)).2.2.2))], .pointer (some ⟨p, 0, none⟩), .pointer (some ⟨g3, 1, none⟩), .int .i64 ((l.getD k (0, 0, 0, 0)).2.1), .pointer (some ⟨g3, 2, none⟩), .int .i64 ((l.getD k (0, 0, 0, 0)).2.2.1), .pointer (some ⟨g3, 3, none⟩), .int .i64 ((l.getD k (0, 0, 0, 0)).2.2.2), .tuple #[.agg #[.bool (nC1 rL ranks rs ((l.getD k (0, 0, 0, 0)).2.1) ((l.getD k (0, 0, 0, 0)).2.2.2)), .bool (nC2 pL ranks xs ((l.getD k (0, 0, 0, 0)).2.1) ((l.getD k (0, 0, 0, 0)).2.2.1) ((l.getD k (0, 0, 0, 0)).2.2.2))], .int .i64 (nE ranks ((l.getD k (0, 0, 0, 0)).2.1) ((l.getD k (0, 0, 0, 0)).2.2.2))], .agg #[.bool (nC1 rL ranks rs ((l.getD k (0, 0, 0, 0)).2.1) ((l.getD k (0, 0, 0, 0)).2.2.2)), .bool (nC2 pL ranks xs ((l.getD k (0, 0, 0, 0)).2.1) ((l.getD k (0, 0, 0, 0)).2.2.1) ((l.getD k (0, 0, 0, 0)).2.2.2))], .int .i64 (nE ranks ((l.getD k (0, 0, 0, 0)).2.1) ((l.getD k (0, 0, 0, 0)).2.2.2)), .int .i64 (nE ranks ((l.getD k (0, 0, 0, 0)).2.1) ((l.getD k (0, 0, 0, 0)).2.2.2)), .bool false, .bool false, undef, undef, undef, undef, .bool false, (uf1 33), (uf1 34), (uf1 35), (uf1 36), (uf1 37), (uf1 38), (uf1 39), (uf1 40), (uf1 41), (uf1 42), (uf1 43), (uf1 44), (uf1 45), (uf1 46), (uf1 47), (uf1 48), (uf1 49), (uf1 50), (uf1 51), (uf1 52), (uf1 53), (uf1 54), (uf1 55), (uf1 56), (uf1 57), (uf1 58), (uf1 59), (uf1 60), (uf1 61), (uf1 62), (uf1 63), (uf1 64), (uf1 65), (uf1 66), (uf1 67), (uf1 68), (uf1 69), (uf1 70), (uf1 71), (uf1 72), (uf1 73), (uf1 74), (uf1 75), (uf1 76), (uf1 77), (uf1 78), (uf1 79), (uf1 80), (uf1 81), (uf1 82), (uf1 83), (uf1 84), (uf1 85), (uf1 86), (uf1 87), (uf1 88), (uf1 89), (uf1 90)], defers := [] } (by kernel_rfl) ?_
        refine x_then ?_
        refine x_f (by kernel_rfl) ?_
        refine x_skipc ?_
        refine x_then ?_
        refine x_seq ?_
        refine x_region ?_
        refine x_val (.int .i64 (nE ranks ((l.getD k (0, 0, 0, 0)).2.1) ((l.getD k (0, 0, 0, 0)).2.2.2))) (by kernel_rfl) rfl (by kernel_rfl) ?_
        refine x_val (.bool (decide ((nE ranks ((l.getD k (0, 0, 0, 0)).2.1) ((l.getD k (0, 0, 0, 0)).2.2.2)) = 0))) (by kernel_rfl) rfl (by kernel_rfl) ?_
        refine x_val (.bool (decide ((nE ranks ((l.getD k (0, 0, 0, 0)).2.1) ((l.getD k (0, 0, 0, 0)).2.2.2)) = 0))) (by kernel_rfl) rfl (by kernel_rfl) ?_
        rw [h11]
        refine x_skip (by kernel_rfl) ?_
        refine x_skip (by kernel_rfl) ?_
        refine x_skip (by kernel_rfl) ?_
        refine x_skip (by kernel_rfl) ?_
        refine x_val (.bool false) (by kernel_rfl) rfl (by kernel_rfl) ?_
        refine x_val (.bool false) (by kernel_rfl) rfl (by kernel_rfl) ?_
        refine x_skip (by kernel_rfl) ?_
        refine x_skip (by kernel_rfl) ?_
        refine x_skip (by kernel_rfl) ?_
        refine x_skip (by kernel_rfl) ?_
        refine x_val (.bool false) (by kernel_rfl) rfl (by kernel_rfl) ?_
        refine x_nil ?_
        refine x_then ?_
        refine x_f (by kernel_rfl) ?_
        refine x_skipc ?_
        refine x_blk ?_
        refine x_then ?_
        refine x_seq ?_
        refine x_region ?_
        refine x_val (.pointer (some ⟨p, 0, none⟩)) (by kernel_rfl) rfl (by kernel_rfl) ?_
        refine x_val (.int .i64 page) (by kernel_rfl) rfl (by kernel_rfl) ?_
        have hpg1 : PgOk (nXs ranks room xs ((l.getD k (0, 0, 0, 0)).2.1) ((l.getD k (0, 0, 0, 0)).2.2.1) ((l.getD k (0, 0, 0, 0)).2.2.2)) page b has (k + 1) := hpg.other (show k < room by omega) (.inl (nE_no h11p))
        have hq1 := hpg1.get
        refine x_callB (.tuple #[.agg #[.int .i64 b.1, .int .i64 b.2], .bool has]) H (by kernel_rfl) rfl (by kernel_rfl) (by have h := Page_any page (Nat.le_trans hk1.m (Nat.le_trans hP.m.1 (by decide))) _ (H.roOf [1, 3, 4] [.blk p #[.int .i64 rL, .int .i64 rE, .int .i64 pL, .int .i64 pE, .int .i64 ((room : Nat) : Int), .int .i64 hv, .slice (some ⟨gr, 0, none⟩) ranks ranks, .pointer (some ⟨t, 0, none⟩)] 187, .blk t #[svn, .int .i64 ((room : Nat) : Int), .func (.func 103) #[] #[]] 228, .row (svn) 230 3 (List.length (nXs ranks room xs ((l.getD k (0, 0, 0, 0)).2.1) ((l.getD k (0, 0, 0, 0)).2.2.1) ((l.getD k (0, 0, 0, 0)).2.2.2))) (List.flatMap pairLB (nXs ranks room xs ((l.getD k (0, 0, 0, 0)).2.1) ((l.getD k (0, 0, 0, 0)).2.2.1) ((l.getD k (0, 0, 0, 0)).2.2.2)))] (by kernel_rfl)); rw [hq1.1, hq1.2] at h; exact h) ?_
        clear H
        intro v31 H
        refine x_val (.tuple #[.agg #[.int .i64 b.1, .int .i64 b.2], .bool has]) (by kernel_rfl) rfl (by kernel_rfl) ?_
        refine x_val (.agg #[.int .i64 b.1, .int .i64 b.2]) (by kernel_rfl) rfl (by kernel_rfl) ?_
        refine x_val (.bool has) (by kernel_rfl) rfl (by kernel_rfl) ?_
        refine x_box H #[.int .i64 0, .int .i64 0] 86 (by kernel_rfl) rfl (by kernel_rfl) ?_
        clear H
        intro v32 g10 H
        refine x_store (t := 86) (v := .agg #[.int .i64 b.1, .int .i64 b.2]) H 0 g10 0 #[.int .i64 0, .int .i64 0] #[.int .i64 b.1, .int .i64 b.2] 86 [.int .i64 b.1, .int .i64 b.2] [.blk g10 #[.int .i64 b.1, .int .i64 b.2] 86, .blk g9 #[.bool (nC1 rL ranks rs ((l.getD k (0, 0, 0, 0)).2.1) ((l.getD k (0, 0, 0, 0)).2.2.2)), .bool (nC2 pL ranks xs ((l.getD k (0, 0, 0, 0)).2.1) ((l.getD k (0, 0, 0, 0)).2.2.1) ((l.getD k (0, 0, 0, 0)).2.2.2))] 90, .blk p #[.int .i64 rL, .int .i64 rE, .int .i64 pL, .int .i64 pE, .int .i64 ((room : Nat) : Int), .int .i64 hv, .slice (some ⟨gr, 0, none⟩) ranks ranks, .pointer (some ⟨t, 0, none⟩)] 187, .row (.slice (some ⟨gr, 0, none⟩) ranks ranks) 86 2 ranks (List.flatMap bukL (nRs ranks rs ((l.getD k (0, 0, 0, 0)).2.1) ((l.getD k (0, 0, 0, 0)).2.2.2))), .blk t #[svn, .int .i64 ((room : Nat) : Int), .func (.func 103) #[] #[]] 228, .row (svn) 230 3 (List.length (nXs ranks room xs ((l.getD k (0, 0, 0, 0)).2.1) ((l.getD k (0, 0, 0, 0)).2.2.1) ((l.getD k (0, 0, 0, 0)).2.2.2))) (List.flatMap pairLB (nXs ranks room xs ((l.getD k (0, 0, 0, 0)).2.1) ((l.getD k (0, 0, 0, 0)).2.2.1) ((l.getD k (0, 0, 0, 0)).2.2.2))), .blk g3 #[.int .i64 ((l.getD k (0, 0, 0, 0)).1), .int .i64 ((l.getD k (0, 0, 0, 0)).2.1), .int .i64 ((l.getD k (0, 0, 0, 0)).2.2.1), .int .i64 ((l.getD k (0, 0, 0, 0)).2.2.2)] 88, .blk g2 #[.int .i64 b.1, .int .i64 b.2] 86, .blk g1 #[.int .i64 rL, .int .i64 rE, .int .i64 pL, .int .i64 pE, .int .i64 ((room : Nat) : Int), .int .i64 hv] 80] (by kernel_rfl) rfl (by kernel_rfl) (by kernel_rfl) (by kernel_rfl) (by kernel_rfl) (by kernel_rfl) (by kernel_rfl) (by kernel_rfl) (by kernel_rfl) ?_
        clear H
        intro v33 H
        refine x_val (.bool has) (by kernel_rfl) rfl (by kernel_rfl) ?_
        refine x_nil ?_
        refine x_then ?_
        refine x_seq ?_
        refine x_region ?_
        refine x_loadn (t := 86) H 0 g10 0 #[.int .i64 b.1, .int .i64 b.2] 86 [.int .i64 b.1, .int .i64 b.2] (by kernel_rfl) (by kernel_rfl) (by kernel_rfl) rfl (by kernel_rfl) (by kernel_rfl) ?_
        refine x_loadn (t := 86) H 7 g2 0 #[.int .i64 b.1, .int .i64 b.2] 86 [.int .i64 b.1, .int .i64 b.2] (by kernel_rfl) (by kernel_rfl) (by kernel_rfl) rfl (by kernel_rfl) (by kernel_rfl) ?_
        have h12 : (decide ((b.1 : Int) = b.1) && (decide ((b.2 : Int) = b.2) && true)) = true := by simp
        refine x_val (.bool false) (by kernel_rfl) rfl ((run_neS (t := 86) (x := .tmp 124) (y := .tmp 125) (xs := #[.int .i64 b.1, .int .i64 b.2]) (ys := #[.int .i64 b.1, .int .i64 b.2]) (B := decide ((b.1 : Int) = b.1) && (decide ((b.2 : Int) = b.2) && true)) (by kernel_rfl) (by kernel_rfl) (by kernel_rfl)).trans (by rw [h12]; rfl)) ?_
        refine x_val (.bool false) (by kernel_rfl) rfl (by kernel_rfl) ?_
        refine x_val (.bool has) (by kernel_rfl) rfl (by kernel_rfl) ?_
        refine x_val (.bool has) (by kernel_rfl) rfl (by kernel_rfl) ?_
        refine x_eq (.bool false) (show Value.bool (has != has) = Value.bool false by simp) (by kernel_rfl) rfl (by kernel_rfl) ?_
        refine x_val (.bool false) (by kernel_rfl) rfl (by kernel_rfl) ?_
        refine x_nil ?_
        refine x_frame' { tmps := #[.agg #[.int .i64 rL, .int .i64 rE, .int .i64 pL, .int .i64 pE, .int .i64 ((room : Nat) : Int), .int .i64 hv], .int .i64 ((ranks : Nat) : Int), .slice ad nA cA, .int .i64 page, .pointer (some ⟨g1, 0, none⟩), undef, undef, undef, (uf1 0), .pointer (some ⟨p, 0, none⟩), .int .i64 0, .pointer (some ⟨g2, 0, none⟩), .bool has, undef, .pointer (some ⟨g3, 0, none⟩), .pointer (some ⟨g9, 0, none⟩), .int .i64 (nE ranks ((l.getD k (0, 0, 0, 0)).2.1) ((l.getD k (0, 0, 0, 0)).2.2.2)), .bool false, .pointer (some ⟨g10, 0, none⟩), .bool has, .bool true, .bool false, .tuple #[.pointer (some ⟨p, 0, none⟩), .int .i64 0], .agg #[.int .i64 rL, .int .i64 rE, .int .i64 pL, .int .i64 pE, .int .i64 ((room : Nat) : Int), .int .i64 hv], .int .i64 ((ranks : Nat) : Int), .tuple #[.pointer (some ⟨p, 0, none⟩), .int .i64 0], .pointer (some ⟨p, 0, none⟩), .int .i64 0, .int .i64 0, .bool false, .bool false, .pointer (some ⟨p, 0, none⟩), .bool false, .bool false, .bool false, .slice ad nA cA, .int .i64 ((nA : Nat) : Int), .bool false, .bool false, .bool false, .pointer (some ⟨g1, 4, none⟩), .int .i64 ((room : Nat) : Int), .slice ad nA cA, .int .i64 ((nA : Nat) : Int), .bool false, .bool false, .slice ad nA cA, .int .i64 ((nA : Nat) : Int), .int .i64 ((k : Nat) : Int), .bool true, .pointer (some ⟨ga, oa + k * 4, none⟩), .agg #[.int .i64 ((l.getD k (0, 0, 0, 0)).1), .int .i64 ((l.getD k (0, 0, 0, 0)).2.1), .int .i64 ((l.getD k (0, 0, 0, 0)).2.2.1), .int .i64 ((l.getD k (0, 0, 0, 0)).2.2.2)], .pointer (some ⟨g3, 0, none⟩), .int .i64 ((l.getD k (0, 0, 0, 0)).1), .bool true, .bool true, .tuple #[.agg #[.bool (nC1 rL ranks rs ((l.getD k (0, 0, 0, 0)).2.1) ((l.getD k (0, 0, 0, 0)).2.2.2)), .bool (nC2 pL ranks xs ((l.getD k (0, 0, 0, 0)).2.1) ((l.getD k (0, 0, 0, 0)).2.2.1) ((l.getD k (0, 0, 0, 0)).2.2.2))], .int .i64 (nE ranks ((l.getD k (0, 0, 0, 0)).2.1) ((l.getD k (0, 0, 0, 0)).2.2.2))], .pointer (some ⟨p, 0, none⟩), .pointer (some ⟨g3, 1, none⟩), .int .i64 ((l.getD k (0, 0, 0, 0)).2.1), .pointer (some ⟨g3, 2, none⟩), .int .i64 ((l.getD k (0, 0, 0, 0)).2.2.1), .pointer (some ⟨g3, 3, none⟩), .int .i64 ((l.getD k (0, 0, 0, 0)).2.2.2), .tuple #[.agg #[.bool (nC1 rL ranks rs ((l.getD k (0, 0, 0, 0)).2.1) ((l.getD k (0, 0, 0, 0)).2.2.2)), .bool (nC2 pL ranks xs ((l.getD k (0, 0, 0, 0)).2.1) ((l.getD k (0, 0, 0, 0)).2.2.1) ((l.getD k (0, 0, 0, 0)).2.2.2))], .int .i64 (nE ranks ((l.getD k (0, 0, 0, 0)).2.1) ((l.getD k (0, 0, 0, 0)).2.2.2))], .agg #[.bool (nC1 rL ranks rs ((l.getD k (0, 0, 0, 0)).2.1) ((l.getD k (0, 0, 0, 0)).2.2.2)), .bool (nC2 pL ranks xs ((l.getD k (0, 0, 0, 0)).2.1) ((l.getD k (0, 0, 0, 0)).2.2.1) ((l.getD k (0, 0, 0, 0)).2.2.2))], .int .i64 (nE ranks ((l.getD k (0, 0, 0, 0)).2.1) ((l.getD k (0, 0, 0, 0)).2.2.2)), .int .i64 (nE ranks ((l.getD k (0, 0, 0, 0)).2.1) ((l.getD k (0, 0, 0, 0)).2.2.2)), .bool false, .bool false, undef, undef, undef, undef, .bool false, (uf1 33), (uf1 34), (uf1 35), (uf1 36), (uf1 37), (uf1 38), (uf1 39), (uf1 40), (uf1 41), .int .i64 (nE ranks ((l.getD k (0, 0, 0, 0)).2.1) ((l.getD k (0, 0, 0, 0)).2.2.2)), .bool false, .bool false, undef, undef, undef, undef, .bool false, .bool false, undef, undef, undef, undef, .bool false, (uf1 56), (uf1 57), (uf1 58), (uf1 59), (uf1 60), (uf1 61), (uf1 62), (uf1 63), (uf1 64), (uf1 65), (uf1 66), (uf1 67), (uf1 68), (uf1 69), (uf1 70), (uf1 71), (uf1 72), (uf1 73), (uf1 74), (uf1 75), .tuple #[.agg #[.int .i64 b.1, .int .i64 b.2], .bool has], .pointer (some ⟨p, 0, none⟩), .int .i64 page, .tuple #[.agg #[.int .i64 b.1, .int .i64 b.2], .bool has], .agg #[.int .i64 b.1, .int .i64 b.2], .bool has, .agg #[.int .i64 b.1, .int .i64 b.2], .agg #[.int .i64 b.1, .int .i64 b.2], .bool false, .bool false, .bool has, .bool has, .bool false, .bool false, (uf1 90)], defers := [] } (by kernel_rfl) ?_
        refine x_then ?_
        refine x_f (by kernel_rfl) ?_
        refine x_skipc ?_
        refine x_blk ?_
        refine x_then ?_
        refine x_region ?_
        refine x_ar (((k : Nat) : Int) + 1) ⟨by omega, by omega⟩ (by kernel_rfl) rfl (by kernel_rfl) ?_
        refine x_val (.int .i64 (((k : Nat) : Int) + 1)) (by kernel_rfl) rfl (by kernel_rfl) ?_
        refine x_nil ?_
        refine x_then ?_
        replace H := H.pick [2, 3, 4, 5, 7, 8] [.blk p #[.int .i64 rL, .int .i64 rE, .int .i64 pL, .int .i64 pE, .int .i64 ((room : Nat) : Int), .int .i64 hv, .slice (some ⟨gr, 0, none⟩) ranks ranks, .pointer (some ⟨t, 0, none⟩)] 187, .row (.slice (some ⟨gr, 0, none⟩) ranks ranks) 86 2 ranks (List.flatMap bukL (nRs ranks rs ((l.getD k (0, 0, 0, 0)).2.1) ((l.getD k (0, 0, 0, 0)).2.2.2))), .blk t #[svn, .int .i64 ((room : Nat) : Int), .func (.func 103) #[] #[]] 228, .row (svn) 230 3 (List.length (nXs ranks room xs ((l.getD k (0, 0, 0, 0)).2.1) ((l.getD k (0, 0, 0, 0)).2.2.1) ((l.getD k (0, 0, 0, 0)).2.2.2))) (List.flatMap pairLB (nXs ranks room xs ((l.getD k (0, 0, 0, 0)).2.1) ((l.getD k (0, 0, 0, 0)).2.2.1) ((l.getD k (0, 0, 0, 0)).2.2.2))), .blk g2 #[.int .i64 b.1, .int .i64 b.2] 86, .blk g1 #[.int .i64 rL, .int .i64 rE, .int .i64 pL, .int .i64 pE, .int .i64 ((room : Nat) : Int), .int .i64 hv] 80] (by decide) (by kernel_rfl)
        have hpg1_ok := hpg1.ok hP.p.2.2.1 (by first | exact hk1.c | exact hk.c)
        exact ⟨(k + 1, svn, (nRs ranks rs ((l.getD k (0, 0, 0, 0)).2.1) ((l.getD k (0, 0, 0, 0)).2.2.2)), (nXs ranks room xs ((l.getD k (0, 0, 0, 0)).2.1) ((l.getD k (0, 0, 0, 0)).2.2.1) ((l.getD k (0, 0, 0, 0)).2.2.2)), b, has), (by dsimp only; omega), (nthV [(uf1 0), .pointer (some ⟨g3, 0, none⟩), .pointer (some ⟨g9, 0, none⟩), .int .i64 (nE ranks ((l.getD k (0, 0, 0, 0)).2.1) ((l.getD k (0, 0, 0, 0)).2.2.2)), .bool false, .pointer (some ⟨g10, 0, none⟩), .bool has, .bool true, .pointer (some ⟨ga, oa + k * 4, none⟩), .agg #[.int .i64 ((l.getD k (0, 0, 0, 0)).1), .int .i64 ((l.getD k (0, 0, 0, 0)).2.1), .int .i64 ((l.getD k (0, 0, 0, 0)).2.2.1), .int .i64 ((l.getD k (0, 0, 0, 0)).2.2.2)], .pointer (some ⟨g3, 0, none⟩), .int .i64 ((l.getD k (0, 0, 0, 0)).1), .bool true, .bool true, .tuple #[.agg #[.bool (nC1 rL ranks rs ((l.getD k (0, 0, 0, 0)).2.1) ((l.getD k (0, 0, 0, 0)).2.2.2)), .bool (nC2 pL ranks xs ((l.getD k (0, 0, 0, 0)).2.1) ((l.getD k (0, 0, 0, 0)).2.2.1) ((l.getD k (0, 0, 0, 0)).2.2.2))], .int .i64 (nE ranks ((l.getD k (0, 0, 0, 0)).2.1) ((l.getD k (0, 0, 0, 0)).2.2.2))], .pointer (some ⟨p, 0, none⟩), .pointer (some ⟨g3, 1, none⟩), .int .i64 ((l.getD k (0, 0, 0, 0)).2.1), .pointer (some ⟨g3, 2, none⟩), .int .i64 ((l.getD k (0, 0, 0, 0)).2.2.1), .pointer (some ⟨g3, 3, none⟩), .int .i64 ((l.getD k (0, 0, 0, 0)).2.2.2), .tuple #[.agg #[.bool (nC1 rL ranks rs ((l.getD k (0, 0, 0, 0)).2.1) ((l.getD k (0, 0, 0, 0)).2.2.2)), .bool (nC2 pL ranks xs ((l.getD k (0, 0, 0, 0)).2.1) ((l.getD k (0, 0, 0, 0)).2.2.1) ((l.getD k (0, 0, 0, 0)).2.2.2))], .int .i64 (nE ranks ((l.getD k (0, 0, 0, 0)).2.1) ((l.getD k (0, 0, 0, 0)).2.2.2))], .agg #[.bool (nC1 rL ranks rs ((l.getD k (0, 0, 0, 0)).2.1) ((l.getD k (0, 0, 0, 0)).2.2.2)), .bool (nC2 pL ranks xs ((l.getD k (0, 0, 0, 0)).2.1) ((l.getD k (0, 0, 0, 0)).2.2.1) ((l.getD k (0, 0, 0, 0)).2.2.2))], .int .i64 (nE ranks ((l.getD k (0, 0, 0, 0)).2.1) ((l.getD k (0, 0, 0, 0)).2.2.2)), .int .i64 (nE ranks ((l.getD k (0, 0, 0, 0)).2.1) ((l.getD k (0, 0, 0, 0)).2.2.2)), .bool false, .bool false, undef, undef, undef, undef, .bool false, (uf1 33), (uf1 34), (uf1 35), (uf1 36), (uf1 37), (uf1 38), (uf1 39), (uf1 40), (uf1 41), .int .i64 (nE ranks ((l.getD k (0, 0, 0, 0)).2.1) ((l.getD k (0, 0, 0, 0)).2.2.2)), .bool false, .bool false, undef, undef, undef, undef, .bool false, .bool false, undef, undef, undef, undef, .bool false, (uf1 56), (uf1 57), (uf1 58), (uf1 59), (uf1 60), (uf1 61), (uf1 62), (uf1 63), (uf1 64), (uf1 65), (uf1 66), (uf1 67), (uf1 68), (uf1 69), (uf1 70), (uf1 71), (uf1 72), (uf1 73), (uf1 74), (uf1 75), .tuple #[.agg #[.int .i64 b.1, .int .i64 b.2], .bool has], .pointer (some ⟨p, 0, none⟩), .int .i64 page, .tuple #[.agg #[.int .i64 b.1, .int .i64 b.2], .bool has], .agg #[.int .i64 b.1, .int .i64 b.2], .bool has, .agg #[.int .i64 b.1, .int .i64 b.2], .agg #[.int .i64 b.1, .int .i64 b.2], .bool false, .bool false, .bool has, .bool has, .bool false, .bool false, .int .i64 (((k : Nat) : Int) + 1)]), (by kernel_rfl), H, (by omega), hk1, hpg1, (hpg1_ok)⟩
      · skip
        have h11p := of_decide_eq_true h11
        refine x_val (.pointer (some ⟨g3, 2, none⟩)) (by kernel_rfl) rfl (by kernel_rfl) ?_
        refine x_load1 H 5 g3 2 #[.int .i64 ((l.getD k (0, 0, 0, 0)).1), .int .i64 ((l.getD k (0, 0, 0, 0)).2.1), .int .i64 ((l.getD k (0, 0, 0, 0)).2.2.1), .int .i64 ((l.getD k (0, 0, 0, 0)).2.2.2)] 88 (.int .i64 ((l.getD k (0, 0, 0, 0)).2.2.1)) (by kernel_rfl) (by kernel_rfl) (by kernel_rfl) rfl (by kernel_rfl) ?_
        refine x_val (.int .i64 page) (by kernel_rfl) rfl (by kernel_rfl) ?_
        refine x_val (.bool (decide (((l.getD k (0, 0, 0, 0)).2.2.1) = page))) (by kernel_rfl) rfl (by kernel_rfl) ?_
        refine x_val (.bool (decide (((l.getD k (0, 0, 0, 0)).2.2.1) = page))) (by kernel_rfl) rfl (by kernel_rfl) ?_
        refine x_nil ?_
        refine x_frame' { tmps := #[.agg #[.int .i64 rL, .int .i64 rE, .int .i64 pL, .int .i64 pE, .int .i64 ((room : Nat) : Int), .int .i64 hv], .int .i64 ((ranks : Nat) : Int), .slice ad nA cA, .int .i64 page, .pointer (some ⟨g1, 0, none⟩), undef, undef, undef, (uf1 0), .pointer (some ⟨p, 0, none⟩), .int .i64 0, .pointer (some ⟨g2, 0, none⟩), .bool has, undef, .pointer (some ⟨g3, 0, none⟩), .pointer (some ⟨g9, 0, none⟩), .int .i64 (nE ranks ((l.getD k (0, 0, 0, 0)).2.1) ((l.getD k (0, 0, 0, 0)).2.2.2)), .bool false, (uf1 5), (uf1 6), .bool true, .bool false, .tuple #[.pointer (some ⟨p, 0, none⟩), .int .i64 0], .agg #[.int .i64 rL, .int .i64 rE, .int .i64 pL, .int .i64 pE, .int .i64 ((room : Nat) : Int), .int .i64 hv], .int .i64 ((ranks : Nat) : Int), .tuple #[.pointer (some ⟨p, 0, none⟩), .int .i64 0], .pointer (some ⟨p, 0, none⟩), .int .i64 0, .int .i64 0, .bool false, .bool false, .pointer (some ⟨p, 0, none⟩), .bool false, .bool false, .bool false, .slice ad nA cA, .int .i64 ((nA : Nat) : Int), .bool false, .bool false, .bool false, .pointer (some ⟨g1, 4, none⟩), .int .i64 ((room : Nat) : Int), .slice ad nA cA, .int .i64 ((nA : Nat) : Int), .bool false, .bool false, .slice ad nA cA, .int .i64 ((nA : Nat) : Int), .int .i64 ((k : Nat) : Int), .bool true, .pointer (some ⟨ga, oa + k * 4, none⟩), .agg #[.int .i64 ((l.getD k (0, 0, 0, 0)).1), .int .i64 ((l.getD k (0, 0, 0, 0)).2.1), .int .i64 ((l.getD k (0, 0, 0, 0)).2.2.1), .int .i64 ((l.getD k (0, 0, 0, 0)).2.2.2)], .pointer (some ⟨g3, 0, none⟩), .int .i64 ((l.getD k (0, 0, 0, 0)).1), .bool true, .bool true, .tuple #[.agg #[.bool (nC1 rL ranks rs ((l.getD k (0, 0, 0, 0)).2.1) ((l.getD k (0, 0, 0, 0)).2.2.2)), .bool (nC2 pL ranks xs ((l.getD k (0, 0, 0, 0)).2.1) ((l.getD k (0, 0, 0, 0)).2.2.1) ((l.getD k (0, 0, 0, 0)).2.2.2))], .int .i64 (nE ranks ((l.getD k (0, 0, 0, 0)).2.1) ((l.getD k (0, 0, 0, 0)).2.2.2))], .pointer (some ⟨p, 0, none⟩), .pointer (some ⟨g3, 1, none⟩), .int .i64 ((l.getD k (0, 0, 0, 0)).2.1), .pointer (some ⟨g3, 2, none⟩), .int .i64 ((l.getD k (0, 0, 0, 0)).2.2.1), .pointer (some ⟨g3, 3, none⟩), .int .i64 ((l.getD k (0, 0, 0, 0)).2.2.2), .tuple #[.agg #[.bool (nC1 rL ranks rs ((l.getD k (0, 0, 0, 0)).2.1) ((l.getD k (0, 0, 0, 0)).2.2.2)), .bool (nC2 pL ranks xs ((l.getD k (0, 0, 0, 0)).2.1) ((l.getD k (0, 0, 0, 0)).2.2.1) ((l.getD k (0, 0, 0, 0)).2.2.2))], .int .i64 (nE ranks ((l.getD k (0, 0, 0, 0)).2.1) ((l.getD k (0, 0, 0, 0)).2.2.2))], .agg #[.bool (nC1 rL ranks rs ((l.getD k (0, 0, 0, 0)).2.1) ((l.getD k (0, 0, 0, 0)).2.2.2)), .bool (nC2 pL ranks xs ((l.getD k (0, 0, 0, 0)).2.1) ((l.getD k (0, 0, 0, 0)).2.2.1) ((l.getD k (0, 0, 0, 0)).2.2.2))], .int .i64 (nE ranks ((l.getD k (0, 0, 0, 0)).2.1) ((l.getD k (0, 0, 0, 0)).2.2.2)), .int .i64 (nE ranks ((l.getD k (0, 0, 0, 0)).2.1) ((l.getD k (0, 0, 0, 0)).2.2.2)), .bool true, .bool true, .pointer (some ⟨g3, 2, none⟩), .int .i64 ((l.getD k (0, 0, 0, 0)).2.2.1), .int .i64 page, .bool (decide (((l.getD k (0, 0, 0, 0)).2.2.1) = page)), .bool (decide (((l.getD k (0, 0, 0, 0)).2.2.1) = page)), (uf1 33), (uf1 34), (uf1 35), (uf1 36), (uf1 37), (uf1 38), (uf1 39), (uf1 40), (uf1 41), (uf1 42), (uf1 43), (uf1 44), (uf1 45), (uf1 46), (uf1 47), (uf1 48), (uf1 49), (uf1 50), (uf1 51), (uf1 52), (uf1 53), (uf1 54), (uf1 55), (uf1 56), (uf1 57), (uf1 58), (uf1 59), (uf1 60), (uf1 61), (uf1 62), (uf1 63), (uf1 64), (uf1 65), (uf1 66), (uf1 67), (uf1 68), (uf1 69), (uf1 70), (uf1 71), (uf1 72), (uf1 73), (uf1 74), (uf1 75), (uf1 76), (uf1 77), (uf1 78), (uf1 79), (uf1 80), (uf1 81), (uf1 82), (uf1 83), (uf1 84), (uf1 85), (uf1 86), (uf1 87), (uf1 88), (uf1 89), (uf1 90)], defers := [] } (by kernel_rfl) ?_
        refine x_then ?_
        cases h13 : decide (((l.getD k (0, 0, 0, 0)).2.2.1) = page)
        · skip
          have h13p := of_decide_eq_false h13
          refine x_f (by kernel_rfl) ?_
          refine x_skipc ?_
          refine x_then ?_
          refine x_seq ?_
          refine x_region ?_
          refine x_val (.int .i64 (nE ranks ((l.getD k (0, 0, 0, 0)).2.1) ((l.getD k (0, 0, 0, 0)).2.2.2))) (by kernel_rfl) rfl (by kernel_rfl) ?_
          refine x_val (.bool (decide ((nE ranks ((l.getD k (0, 0, 0, 0)).2.1) ((l.getD k (0, 0, 0, 0)).2.2.2)) = 0))) (by kernel_rfl) rfl (by kernel_rfl) ?_
          refine x_val (.bool (decide ((nE ranks ((l.getD k (0, 0, 0, 0)).2.1) ((l.getD k (0, 0, 0, 0)).2.2.2)) = 0))) (by kernel_rfl) rfl (by kernel_rfl) ?_
          rw [h11]
          refine x_val (.pointer (some ⟨g3, 2, none⟩)) (by kernel_rfl) rfl (by kernel_rfl) ?_
          refine x_load1 H 5 g3 2 #[.int .i64 ((l.getD k (0, 0, 0, 0)).1), .int .i64 ((l.getD k (0, 0, 0, 0)).2.1), .int .i64 ((l.getD k (0, 0, 0, 0)).2.2.1), .int .i64 ((l.getD k (0, 0, 0, 0)).2.2.2)] 88 (.int .i64 ((l.getD k (0, 0, 0, 0)).2.2.1)) (by kernel_rfl) (by kernel_rfl) (by kernel_rfl) rfl (by kernel_rfl) ?_
          refine x_val (.int .i64 page) (by kernel_rfl) rfl (by kernel_rfl) ?_
          refine x_val (.bool (decide (((l.getD k (0, 0, 0, 0)).2.2.1) = page))) (by kernel_rfl) rfl (by kernel_rfl) ?_
          refine x_val (.bool (decide (((l.getD k (0, 0, 0, 0)).2.2.1) = page))) (by kernel_rfl) rfl (by kernel_rfl) ?_
          refine x_val (.bool (decide (((l.getD k (0, 0, 0, 0)).2.2.1) = page))) (by kernel_rfl) rfl (by kernel_rfl) ?_
          rw [h13]
          refine x_skip (by kernel_rfl) ?_
          refine x_skip (by kernel_rfl) ?_
          refine x_skip (by kernel_rfl) ?_
          refine x_skip (by kernel_rfl) ?_
          refine x_val (.bool false) (by kernel_rfl) rfl (by kernel_rfl) ?_
          refine x_nil ?_
          refine x_then ?_
          refine x_f (by kernel_rfl) ?_
          refine x_skipc ?_
          refine x_blk ?_
          refine x_then ?_
          refine x_seq ?_
          refine x_region ?_
          refine x_val (.pointer (some ⟨p, 0, none⟩)) (by kernel_rfl) rfl (by kernel_rfl) ?_
          refine x_val (.int .i64 page) (by kernel_rfl) rfl (by kernel_rfl) ?_
          have hpg1 : PgOk (nXs ranks room xs ((l.getD k (0, 0, 0, 0)).2.1) ((l.getD k (0, 0, 0, 0)).2.2.1) ((l.getD k (0, 0, 0, 0)).2.2.2)) page b has (k + 1) := hpg.other (show k < room by omega) (.inr h13p)
          have hq1 := hpg1.get
          refine x_callB (.tuple #[.agg #[.int .i64 b.1, .int .i64 b.2], .bool has]) H (by kernel_rfl) rfl (by kernel_rfl) (by have h := Page_any page (Nat.le_trans hk1.m (Nat.le_trans hP.m.1 (by decide))) _ (H.roOf [1, 3, 4] [.blk p #[.int .i64 rL, .int .i64 rE, .int .i64 pL, .int .i64 pE, .int .i64 ((room : Nat) : Int), .int .i64 hv, .slice (some ⟨gr, 0, none⟩) ranks ranks, .pointer (some ⟨t, 0, none⟩)] 187, .blk t #[svn, .int .i64 ((room : Nat) : Int), .func (.func 103) #[] #[]] 228, .row (svn) 230 3 (List.length (nXs ranks room xs ((l.getD k (0, 0, 0, 0)).2.1) ((l.getD k (0, 0, 0, 0)).2.2.1) ((l.getD k (0, 0, 0, 0)).2.2.2))) (List.flatMap pairLB (nXs ranks room xs ((l.getD k (0, 0, 0, 0)).2.1) ((l.getD k (0, 0, 0, 0)).2.2.1) ((l.getD k (0, 0, 0, 0)).2.2.2)))] (by kernel_rfl)); rw [hq1.1, hq1.2] at h; exact h) ?_
          clear H
          intro v34 H
          refine x_val (.tuple #[.agg #[.int .i64 b.1, .int .i64 b.2], .bool has]) (by kernel_rfl) rfl (by kernel_rfl) ?_
          refine x_val (.agg #[.int .i64 b.1, .int .i64 b.2]) (by kernel_rfl) rfl (by kernel_rfl) ?_
          refine x_val (.bool has) (by kernel_rfl) rfl (by kernel_rfl) ?_
          refine x_box H #[.int .i64 0, .int .i64 0] 86 (by kernel_rfl) rfl (by kernel_rfl) ?_
          clear H
          intro v35 g11 H
          refine x_store (t := 86) (v := .agg #[.int .i64 b.1, .int .i64 b.2]) H 0 g11 0 #[.int .i64 0, .int .i64 0] #[.int .i64 b.1, .int .i64 b.2] 86 [.int .i64 b.1, .int .i64 b.2] [.blk g11 #[.int .i64 b.1, .int .i64 b.2] 86, .blk g9 #[.bool (nC1 rL ranks rs ((l.getD k (0, 0, 0, 0)).2.1) ((l.getD k (0, 0, 0, 0)).2.2.2)), .bool (nC2 pL ranks xs ((l.getD k (0, 0, 0, 0)).2.1) ((l.getD k (0, 0, 0, 0)).2.2.1) ((l.getD k (0, 0, 0, 0)).2.2.2))] 90, .blk p #[.int .i64 rL, .int .i64 rE, .int .i64 pL, .int .i64 pE, .int .i64 ((room : Nat) : Int), .int .i64 hv, .slice (some ⟨gr, 0, none⟩) ranks ranks, .pointer (some ⟨t, 0, none⟩)] 187, .row (.slice (some ⟨gr, 0, none⟩) ranks ranks) 86 2 ranks (List.flatMap bukL (nRs ranks rs ((l.getD k (0, 0, 0, 0)).2.1) ((l.getD k (0, 0, 0, 0)).2.2.2))), .blk t #[svn, .int .i64 ((room : Nat) : Int), .func (.func 103) #[] #[]] 228, .row (svn) 230 3 (List.length (nXs ranks room xs ((l.getD k (0, 0, 0, 0)).2.1) ((l.getD k (0, 0, 0, 0)).2.2.1) ((l.getD k (0, 0, 0, 0)).2.2.2))) (List.flatMap pairLB (nXs ranks room xs ((l.getD k (0, 0, 0, 0)).2.1) ((l.getD k (0, 0, 0, 0)).2.2.1) ((l.getD k (0, 0, 0, 0)).2.2.2))), .blk g3 #[.int .i64 ((l.getD k (0, 0, 0, 0)).1), .int .i64 ((l.getD k (0, 0, 0, 0)).2.1), .int .i64 ((l.getD k (0, 0, 0, 0)).2.2.1), .int .i64 ((l.getD k (0, 0, 0, 0)).2.2.2)] 88, .blk g2 #[.int .i64 b.1, .int .i64 b.2] 86, .blk g1 #[.int .i64 rL, .int .i64 rE, .int .i64 pL, .int .i64 pE, .int .i64 ((room : Nat) : Int), .int .i64 hv] 80] (by kernel_rfl) rfl (by kernel_rfl) (by kernel_rfl) (by kernel_rfl) (by kernel_rfl) (by kernel_rfl) (by kernel_rfl) (by kernel_rfl) (by kernel_rfl) ?_
          clear H
          intro v36 H
          refine x_val (.bool has) (by kernel_rfl) rfl (by kernel_rfl) ?_
          refine x_nil ?_
          refine x_then ?_
          refine x_seq ?_
          refine x_region ?_
          refine x_loadn (t := 86) H 0 g11 0 #[.int .i64 b.1, .int .i64 b.2] 86 [.int .i64 b.1, .int .i64 b.2] (by kernel_rfl) (by kernel_rfl) (by kernel_rfl) rfl (by kernel_rfl) (by kernel_rfl) ?_
          refine x_loadn (t := 86) H 7 g2 0 #[.int .i64 b.1, .int .i64 b.2] 86 [.int .i64 b.1, .int .i64 b.2] (by kernel_rfl) (by kernel_rfl) (by kernel_rfl) rfl (by kernel_rfl) (by kernel_rfl) ?_
          have h14 : (decide ((b.1 : Int) = b.1) && (decide ((b.2 : Int) = b.2) && true)) = true := by simp
          refine x_val (.bool false) (by kernel_rfl) rfl ((run_neS (t := 86) (x := .tmp 124) (y := .tmp 125) (xs := #[.int .i64 b.1, .int .i64 b.2]) (ys := #[.int .i64 b.1, .int .i64 b.2]) (B := decide ((b.1 : Int) = b.1) && (decide ((b.2 : Int) = b.2) && true)) (by kernel_rfl) (by kernel_rfl) (by kernel_rfl)).trans (by rw [h14]; rfl)) ?_
          refine x_val (.bool false) (by kernel_rfl) rfl (by kernel_rfl) ?_
          refine x_val (.bool has) (by kernel_rfl) rfl (by kernel_rfl) ?_
          refine x_val (.bool has) (by kernel_rfl) rfl (by kernel_rfl) ?_
          refine x_eq (.bool false) (show Value.bool (has != has) = Value.bool false by simp) (by kernel_rfl) rfl (by kernel_rfl) ?_
          refine x_val (.bool false) (by kernel_rfl) rfl (by kernel_rfl) ?_
          refine x_nil ?_
          refine x_frame' { tmps := #[.agg #[.int .i64 rL, .int .i64 rE, .int .i64 pL, .int .i64 pE, .int .i64 ((room : Nat) : Int), .int .i64 hv], .int .i64 ((ranks : Nat) : Int), .slice ad nA cA, .int .i64 page, .pointer (some ⟨g1, 0, none⟩), undef, undef, undef, (uf1 0), .pointer (some ⟨p, 0, none⟩), .int .i64 0, .pointer (some ⟨g2, 0, none⟩), .bool has, undef, .pointer (some ⟨g3, 0, none⟩), .pointer (some ⟨g9, 0, none⟩), .int .i64 (nE ranks ((l.getD k (0, 0, 0, 0)).2.1) ((l.getD k (0, 0, 0, 0)).2.2.2)), .bool false, .pointer (some ⟨g11, 0, none⟩), .bool has, .bool true, .bool false, .tuple #[.pointer (some ⟨p, 0, none⟩), .int .i64 0], .agg #[.int .i64 rL, .int .i64 rE, .int .i64 pL, .int .i64 pE, .int .i64 ((room : Nat) : Int), .int .i64 hv], .int .i64 ((ranks : Nat) : Int), .tuple #[.pointer (some ⟨p, 0, none⟩), .int .i64 0], .pointer (some ⟨p, 0, none⟩), .int .i64 0, .int .i64 0, .bool false, .bool false, .pointer (some ⟨p, 0, none⟩), .bool false, .bool false, .bool false, .slice ad nA cA, .int .i64 ((nA : Nat) : Int), .bool false, .bool false, .bool false, .pointer (some ⟨g1, 4, none⟩), .int .i64 ((room : Nat) : Int), .slice ad nA cA, .int .i64 ((nA : Nat) : Int), .bool false, .bool false, .slice ad nA cA, .int .i64 ((nA : Nat) : Int), .int .i64 ((k : Nat) : Int), .bool true, .pointer (some ⟨ga, oa + k * 4, none⟩), .agg #[.int .i64 ((l.getD k (0, 0, 0, 0)).1), .int .i64 ((l.getD k (0, 0, 0, 0)).2.1), .int .i64 ((l.getD k (0, 0, 0, 0)).2.2.1), .int .i64 ((l.getD k (0, 0, 0, 0)).2.2.2)], .pointer (some ⟨g3, 0, none⟩), .int .i64 ((l.getD k (0, 0, 0, 0)).1), .bool true, .bool true, .tuple #[.agg #[.bool (nC1 rL ranks rs ((l.getD k (0, 0, 0, 0)).2.1) ((l.getD k (0, 0, 0, 0)).2.2.2)), .bool (nC2 pL ranks xs ((l.getD k (0, 0, 0, 0)).2.1) ((l.getD k (0, 0, 0, 0)).2.2.1) ((l.getD k (0, 0, 0, 0)).2.2.2))], .int .i64 (nE ranks ((l.getD k (0, 0, 0, 0)).2.1) ((l.getD k (0, 0, 0, 0)).2.2.2))], .pointer (some ⟨p, 0, none⟩), .pointer (some ⟨g3, 1, none⟩), .int .i64 ((l.getD k (0, 0, 0, 0)).2.1), .pointer (some ⟨g3, 2, none⟩), .int .i64 ((l.getD k (0, 0, 0, 0)).2.2.1), .pointer (some ⟨g3, 3, none⟩), .int .i64 ((l.getD k (0, 0, 0, 0)).2.2.2), .tuple #[.agg #[.bool (nC1 rL ranks rs ((l.getD k (0, 0, 0, 0)).2.1) ((l.getD k (0, 0, 0, 0)).2.2.2)), .bool (nC2 pL ranks xs ((l.getD k (0, 0, 0, 0)).2.1) ((l.getD k (0, 0, 0, 0)).2.2.1) ((l.getD k (0, 0, 0, 0)).2.2.2))], .int .i64 (nE ranks ((l.getD k (0, 0, 0, 0)).2.1) ((l.getD k (0, 0, 0, 0)).2.2.2))], .agg #[.bool (nC1 rL ranks rs ((l.getD k (0, 0, 0, 0)).2.1) ((l.getD k (0, 0, 0, 0)).2.2.2)), .bool (nC2 pL ranks xs ((l.getD k (0, 0, 0, 0)).2.1) ((l.getD k (0, 0, 0, 0)).2.2.1) ((l.getD k (0, 0, 0, 0)).2.2.2))], .int .i64 (nE ranks ((l.getD k (0, 0, 0, 0)).2.1) ((l.getD k (0, 0, 0, 0)).2.2.2)), .int .i64 (nE ranks ((l.getD k (0, 0, 0, 0)).2.1) ((l.getD k (0, 0, 0, 0)).2.2.2)), .bool true, .bool true, .pointer (some ⟨g3, 2, none⟩), .int .i64 ((l.getD k (0, 0, 0, 0)).2.2.1), .int .i64 page, .bool false, .bool false, (uf1 33), (uf1 34), (uf1 35), (uf1 36), (uf1 37), (uf1 38), (uf1 39), (uf1 40), (uf1 41), .int .i64 (nE ranks ((l.getD k (0, 0, 0, 0)).2.1) ((l.getD k (0, 0, 0, 0)).2.2.2)), .bool true, .bool true, .pointer (some ⟨g3, 2, none⟩), .int .i64 ((l.getD k (0, 0, 0, 0)).2.2.1), .int .i64 page, .bool false, .bool false, .bool false, undef, undef, undef, undef, .bool false, (uf1 56), (uf1 57), (uf1 58), (uf1 59), (uf1 60), (uf1 61), (uf1 62), (uf1 63), (uf1 64), (uf1 65), (uf1 66), (uf1 67), (uf1 68), (uf1 69), (uf1 70), (uf1 71), (uf1 72), (uf1 73), (uf1 74), (uf1 75), .tuple #[.agg #[.int .i64 b.1, .int .i64 b.2], .bool has], .pointer (some ⟨p, 0, none⟩), .int .i64 page, .tuple #[.agg #[.int .i64 b.1, .int .i64 b.2], .bool has], .agg #[.int .i64 b.1, .int .i64 b.2], .bool has, .agg #[.int .i64 b.1, .int .i64 b.2], .agg #[.int .i64 b.1, .int .i64 b.2], .bool false, .bool false, .bool has, .bool has, .bool false, .bool false, (uf1 90)], defers := [] } (by kernel_rfl) ?_
          refine x_then ?_
          refine x_f (by kernel_rfl) ?_
          refine x_skipc ?_
          refine x_blk ?_
          refine x_then ?_
          refine x_region ?_
          refine x_ar (((k : Nat) : Int) + 1) ⟨by omega, by omega⟩ (by kernel_rfl) rfl (by kernel_rfl) ?_
          refine x_val (.int .i64 (((k : Nat) : Int) + 1)) (by kernel_rfl) rfl (by kernel_rfl) ?_
          refine x_nil ?_
          refine x_then ?_
          replace H := H.pick [2, 3, 4, 5, 7, 8] [.blk p #[.int .i64 rL, .int .i64 rE, .int .i64 pL, .int .i64 pE, .int .i64 ((room : Nat) : Int), .int .i64 hv, .slice (some ⟨gr, 0, none⟩) ranks ranks, .pointer (some ⟨t, 0, none⟩)] 187, .row (.slice (some ⟨gr, 0, none⟩) ranks ranks) 86 2 ranks (List.flatMap bukL (nRs ranks rs ((l.getD k (0, 0, 0, 0)).2.1) ((l.getD k (0, 0, 0, 0)).2.2.2))), .blk t #[svn, .int .i64 ((room : Nat) : Int), .func (.func 103) #[] #[]] 228, .row (svn) 230 3 (List.length (nXs ranks room xs ((l.getD k (0, 0, 0, 0)).2.1) ((l.getD k (0, 0, 0, 0)).2.2.1) ((l.getD k (0, 0, 0, 0)).2.2.2))) (List.flatMap pairLB (nXs ranks room xs ((l.getD k (0, 0, 0, 0)).2.1) ((l.getD k (0, 0, 0, 0)).2.2.1) ((l.getD k (0, 0, 0, 0)).2.2.2))), .blk g2 #[.int .i64 b.1, .int .i64 b.2] 86, .blk g1 #[.int .i64 rL, .int .i64 rE, .int .i64 pL, .int .i64 pE, .int .i64 ((room : Nat) : Int), .int .i64 hv] 80] (by decide) (by kernel_rfl)
          have hpg1_ok := hpg1.ok hP.p.2.2.1 (by first | exact hk1.c | exact hk.c)
          exact ⟨(k + 1, svn, (nRs ranks rs ((l.getD k (0, 0, 0, 0)).2.1) ((l.getD k (0, 0, 0, 0)).2.2.2)), (nXs ranks room xs ((l.getD k (0, 0, 0, 0)).2.1) ((l.getD k (0, 0, 0, 0)).2.2.1) ((l.getD k (0, 0, 0, 0)).2.2.2)), b, has), (by dsimp only; omega), (nthV [(uf1 0), .pointer (some ⟨g3, 0, none⟩), .pointer (some ⟨g9, 0, none⟩), .int .i64 (nE ranks ((l.getD k (0, 0, 0, 0)).2.1) ((l.getD k (0, 0, 0, 0)).2.2.2)), .bool false, .pointer (some ⟨g11, 0, none⟩), .bool has, .bool true, .pointer (some ⟨ga, oa + k * 4, none⟩), .agg #[.int .i64 ((l.getD k (0, 0, 0, 0)).1), .int .i64 ((l.getD k (0, 0, 0, 0)).2.1), .int .i64 ((l.getD k (0, 0, 0, 0)).2.2.1), .int .i64 ((l.getD k (0, 0, 0, 0)).2.2.2)], .pointer (some ⟨g3, 0, none⟩), .int .i64 ((l.getD k (0, 0, 0, 0)).1), .bool true, .bool true, .tuple #[.agg #[.bool (nC1 rL ranks rs ((l.getD k (0, 0, 0, 0)).2.1) ((l.getD k (0, 0, 0, 0)).2.2.2)), .bool (nC2 pL ranks xs ((l.getD k (0, 0, 0, 0)).2.1) ((l.getD k (0, 0, 0, 0)).2.2.1) ((l.getD k (0, 0, 0, 0)).2.2.2))], .int .i64 (nE ranks ((l.getD k (0, 0, 0, 0)).2.1) ((l.getD k (0, 0, 0, 0)).2.2.2))], .pointer (some ⟨p, 0, none⟩), .pointer (some ⟨g3, 1, none⟩), .int .i64 ((l.getD k (0, 0, 0, 0)).2.1), .pointer (some ⟨g3, 2, none⟩), .int .i64 ((l.getD k (0, 0, 0, 0)).2.2.1), .pointer (some ⟨g3, 3, none⟩), .int .i64 ((l.getD k (0, 0, 0, 0)).2.2.2), .tuple #[.agg #[.bool (nC1 rL ranks rs ((l.getD k (0, 0, 0, 0)).2.1) ((l.getD k (0, 0, 0, 0)).2.2.2)), .bool (nC2 pL ranks xs ((l.getD k (0, 0, 0, 0)).2.1) ((l.getD k (0, 0, 0, 0)).2.2.1) ((l.getD k (0, 0, 0, 0)).2.2.2))], .int .i64 (nE ranks ((l.getD k (0, 0, 0, 0)).2.1) ((l.getD k (0, 0, 0, 0)).2.2.2))], .agg #[.bool (nC1 rL ranks rs ((l.getD k (0, 0, 0, 0)).2.1) ((l.getD k (0, 0, 0, 0)).2.2.2)), .bool (nC2 pL ranks xs ((l.getD k (0, 0, 0, 0)).2.1) ((l.getD k (0, 0, 0, 0)).2.2.1) ((l.getD k (0, 0, 0, 0)).2.2.2))], .int .i64 (nE ranks ((l.getD k (0, 0, 0, 0)).2.1) ((l.getD k (0, 0, 0, 0)).2.2.2)), .int .i64 (nE ranks ((l.getD k (0, 0, 0, 0)).2.1) ((l.getD k (0, 0, 0, 0)).2.2.2)), .bool true, .bool true, .pointer (some ⟨g3, 2, none⟩), .int .i64 ((l.getD k (0, 0, 0, 0)).2.2.1), .int .i64 page, .bool false, .bool false, (uf1 33), (uf1 34), (uf1 35), (uf1 36), (uf1 37), (uf1 38), (uf1 39), (uf1 40), (uf1 41), .int .i64 (nE ranks ((l.getD k (0, 0, 0, 0)).2.1) ((l.getD k (0, 0, 0, 0)).2.2.2)), .bool true, .bool true, .pointer (some ⟨g3, 2, none⟩), .int .i64 ((l.getD k (0, 0, 0, 0)).2.2.1), .int .i64 page, .bool false, .bool false, .bool false, undef, undef, undef, undef, .bool false, (uf1 56), (uf1 57), (uf1 58), (uf1 59), (uf1 60), (uf1 61), (uf1 62), (uf1 63), (uf1 64), (uf1 65), (uf1 66), (uf1 67), (uf1 68), (uf1 69), (uf1 70), (uf1 71), (uf1 72), (uf1 73), (uf1 74), (uf1 75), .tuple #[.agg #[.int .i64 b.1, .int .i64 b.2], .bool has], .pointer (some ⟨p, 0, none⟩), .int .i64 page, .tuple #[.agg #[.int .i64 b.1, .int .i64 b.2], .bool has], .agg #[.int .i64 b.1, .int .i64 b.2], .bool has, .agg #[.int .i64 b.1, .int .i64 b.2], .agg #[.int .i64 b.1, .int .i64 b.2], .bool false, .bool false, .bool has, .bool has, .bool false, .bool false, .int .i64 (((k : Nat) : Int) + 1)]), (by kernel_rfl), H, (by omega), hk1, hpg1, (hpg1_ok)⟩
        · skip
          have h13p := of_decide_eq_true h13
          refine x_t (by kernel_rfl) ?_
          refine x_seq ?_
          refine x_region ?_
          refine x_loadn (t := 86) H 6 g2 0 #[.int .i64 b.1, .int .i64 b.2] 86 [.int .i64 b.1, .int .i64 b.2] (by kernel_rfl) (by kernel_rfl) (by kernel_rfl) rfl (by kernel_rfl) (by kernel_rfl) ?_
          refine x_val (.pointer (some ⟨g1, 2, none⟩)) (by kernel_rfl) rfl (by kernel_rfl) ?_
          refine x_loadn (t := 78) H 7 g1 2 #[.int .i64 rL, .int .i64 rE, .int .i64 pL, .int .i64 pE, .int .i64 ((room : Nat) : Int), .int .i64 hv] 80 [.int .i64 pL, .int .i64 pE] (by kernel_rfl) (by kernel_rfl) (by kernel_rfl) rfl (by kernel_rfl) (by kernel_rfl) ?_
          refine x_val (.pointer (some ⟨g3, 3, none⟩)) (by kernel_rfl) rfl (by kernel_rfl) ?_
          refine x_load1 H 5 g3 3 #[.int .i64 ((l.getD k (0, 0, 0, 0)).1), .int .i64 ((l.getD k (0, 0, 0, 0)).2.1), .int .i64 ((l.getD k (0, 0, 0, 0)).2.2.1), .int .i64 ((l.getD k (0, 0, 0, 0)).2.2.2)] 88 (.int .i64 ((l.getD k (0, 0, 0, 0)).2.2.2)) (by kernel_rfl) (by kernel_rfl) (by kernel_rfl) rfl (by kernel_rfl) ?_
          refine x_callB (.tuple #[.agg #[.int .i64 ((bfill b ((l.getD k (0, 0, 0, 0)).2.2.2)).1), .int .i64 ((bfill b ((l.getD k (0, 0, 0, 0)).2.2.2)).2)], .bool (bcross pL b ((l.getD k (0, 0, 0, 0)).2.2.2))]) H (by kernel_rfl) rfl (by kernel_rfl) (Fill_ok pL pE b.1 b.2 ((l.getD k (0, 0, 0, 0)).2.2.2) hP.p hbo (nOk_n (nE_yes h11p)) _) ?_
          clear H
          intro v37 H
          refine x_val (.tuple #[.agg #[.int .i64 ((bfill b ((l.getD k (0, 0, 0, 0)).2.2.2)).1), .int .i64 ((bfill b ((l.getD k (0, 0, 0, 0)).2.2.2)).2)], .bool (bcross pL b ((l.getD k (0, 0, 0, 0)).2.2.2))]) (by kernel_rfl) rfl (by kernel_rfl) ?_
          refine x_val (.agg #[.int .i64 ((bfill b ((l.getD k (0, 0, 0, 0)).2.2.2)).1), .int .i64 ((bfill b ((l.getD k (0, 0, 0, 0)).2.2.2)).2)]) (by kernel_rfl) rfl (by kernel_rfl) ?_
          refine x_val (.bool (bcross pL b ((l.getD k (0, 0, 0, 0)).2.2.2))) (by kernel_rfl) rfl (by kernel_rfl) ?_
          refine x_store (t := 86) (v := .agg #[.int .i64 ((bfill b ((l.getD k (0, 0, 0, 0)).2.2.2)).1), .int .i64 ((bfill b ((l.getD k (0, 0, 0, 0)).2.2.2)).2)]) H 6 g2 0 #[.int .i64 b.1, .int .i64 b.2] #[.int .i64 ((bfill b ((l.getD k (0, 0, 0, 0)).2.2.2)).1), .int .i64 ((bfill b ((l.getD k (0, 0, 0, 0)).2.2.2)).2)] 86 [.int .i64 ((bfill b ((l.getD k (0, 0, 0, 0)).2.2.2)).1), .int .i64 ((bfill b ((l.getD k (0, 0, 0, 0)).2.2.2)).2)] [.blk g9 #[.bool (nC1 rL ranks rs ((l.getD k (0, 0, 0, 0)).2.1) ((l.getD k (0, 0, 0, 0)).2.2.2)), .bool (nC2 pL ranks xs ((l.getD k (0, 0, 0, 0)).2.1) ((l.getD k (0, 0, 0, 0)).2.2.1) ((l.getD k (0, 0, 0, 0)).2.2.2))] 90, .blk p #[.int .i64 rL, .int .i64 rE, .int .i64 pL, .int .i64 pE, .int .i64 ((room : Nat) : Int), .int .i64 hv, .slice (some ⟨gr, 0, none⟩) ranks ranks, .pointer (some ⟨t, 0, none⟩)] 187, .row (.slice (some ⟨gr, 0, none⟩) ranks ranks) 86 2 ranks (List.flatMap bukL (nRs ranks rs ((l.getD k (0, 0, 0, 0)).2.1) ((l.getD k (0, 0, 0, 0)).2.2.2))), .blk t #[svn, .int .i64 ((room : Nat) : Int), .func (.func 103) #[] #[]] 228, .row (svn) 230 3 (List.length (nXs ranks room xs ((l.getD k (0, 0, 0, 0)).2.1) ((l.getD k (0, 0, 0, 0)).2.2.1) ((l.getD k (0, 0, 0, 0)).2.2.2))) (List.flatMap pairLB (nXs ranks room xs ((l.getD k (0, 0, 0, 0)).2.1) ((l.getD k (0, 0, 0, 0)).2.2.1) ((l.getD k (0, 0, 0, 0)).2.2.2))), .blk g3 #[.int .i64 ((l.getD k (0, 0, 0, 0)).1), .int .i64 ((l.getD k (0, 0, 0, 0)).2.1), .int .i64 ((l.getD k (0, 0, 0, 0)).2.2.1), .int .i64 ((l.getD k (0, 0, 0, 0)).2.2.2)] 88, .blk g2 #[.int .i64 ((bfill b ((l.getD k (0, 0, 0, 0)).2.2.2)).1), .int .i64 ((bfill b ((l.getD k (0, 0, 0, 0)).2.2.2)).2)] 86, .blk g1 #[.int .i64 rL, .int .i64 rE, .int .i64 pL, .int .i64 pE, .int .i64 ((room : Nat) : Int), .int .i64 hv] 80] (by kernel_rfl) rfl (by kernel_rfl) (by kernel_rfl) (by kernel_rfl) (by kernel_rfl) (by kernel_rfl) (by kernel_rfl) (by kernel_rfl) (by kernel_rfl) ?_
          clear H
          intro v38 H
          refine x_val (.bool (bcross pL b ((l.getD k (0, 0, 0, 0)).2.2.2))) (by kernel_rfl) rfl (by kernel_rfl) ?_
          refine x_nil ?_
          refine x_then ?_
          refine x_region ?_
          refine x_val (.bool true) (by kernel_rfl) rfl (by kernel_rfl) ?_
          refine x_nil ?_
          refine x_then ?_
          refine x_seq ?_
          refine x_region ?_
          refine x_val (.int .i64 (nE ranks ((l.getD k (0, 0, 0, 0)).2.1) ((l.getD k (0, 0, 0, 0)).2.2.2))) (by kernel_rfl) rfl (by kernel_rfl) ?_
          refine x_val (.bool (decide ((nE ranks ((l.getD k (0, 0, 0, 0)).2.1) ((l.getD k (0, 0, 0, 0)).2.2.2)) = 0))) (by kernel_rfl) rfl (by kernel_rfl) ?_
          refine x_val (.bool (decide ((nE ranks ((l.getD k (0, 0, 0, 0)).2.1) ((l.getD k (0, 0, 0, 0)).2.2.2)) = 0))) (by kernel_rfl) rfl (by kernel_rfl) ?_
          rw [h11]
          refine x_val (.pointer (some ⟨g3, 2, none⟩)) (by kernel_rfl) rfl (by kernel_rfl) ?_
          refine x_load1 H 5 g3 2 #[.int .i64 ((l.getD k (0, 0, 0, 0)).1), .int .i64 ((l.getD k (0, 0, 0, 0)).2.1), .int .i64 ((l.getD k (0, 0, 0, 0)).2.2.1), .int .i64 ((l.getD k (0, 0, 0, 0)).2.2.2)] 88 (.int .i64 ((l.getD k (0, 0, 0, 0)).2.2.1)) (by kernel_rfl) (by kernel_rfl) (by kernel_rfl) rfl (by kernel_rfl) ?_
          refine x_val (.int .i64 page) (by kernel_rfl) rfl (by kernel_rfl) ?_
          refine x_val (.bool (decide (((l.getD k (0, 0, 0, 0)).2.2.1) = page))) (by kernel_rfl) rfl (by kernel_rfl) ?_
          refine x_val (.bool (decide (((l.getD k (0, 0, 0, 0)).2.2.1) = page))) (by kernel_rfl) rfl (by kernel_rfl) ?_
          refine x_val (.bool (decide (((l.getD k (0, 0, 0, 0)).2.2.1) = page))) (by kernel_rfl) rfl (by kernel_rfl) ?_
          rw [h13]
          refine x_val (.pointer (some ⟨g9, 1, none⟩)) (by kernel_rfl) rfl (by kernel_rfl) ?_
          refine x_load1 H 0 g9 1 #[.bool (nC1 rL ranks rs ((l.getD k (0, 0, 0, 0)).2.1) ((l.getD k (0, 0, 0, 0)).2.2.2)), .bool (nC2 pL ranks xs ((l.getD k (0, 0, 0, 0)).2.1) ((l.getD k (0, 0, 0, 0)).2.2.1) ((l.getD k (0, 0, 0, 0)).2.2.2))] 90 (.bool (nC2 pL ranks xs ((l.getD k (0, 0, 0, 0)).2.1) ((l.getD k (0, 0, 0, 0)).2.2.1) ((l.getD k (0, 0, 0, 0)).2.2.2))) (by kernel_rfl) (by kernel_rfl) (by kernel_rfl) rfl (by kernel_rfl) ?_
          refine x_val (.bool (bcross pL b ((l.getD k (0, 0, 0, 0)).2.2.2))) (by kernel_rfl) rfl (by kernel_rfl) ?_
          refine x_val (.bool ((nC2 pL ranks xs ((l.getD k (0, 0, 0, 0)).2.1) ((l.getD k (0, 0, 0, 0)).2.2.1) ((l.getD k (0, 0, 0, 0)).2.2.2)) != (bcross pL b ((l.getD k (0, 0, 0, 0)).2.2.2)))) (by kernel_rfl) rfl (by kernel_rfl) ?_
          refine x_val (.bool ((nC2 pL ranks xs ((l.getD k (0, 0, 0, 0)).2.1) ((l.getD k (0, 0, 0, 0)).2.2.1) ((l.getD k (0, 0, 0, 0)).2.2.2)) != (bcross pL b ((l.getD k (0, 0, 0, 0)).2.2.2)))) (by kernel_rfl) rfl (by kernel_rfl) ?_
          refine x_nil ?_
          refine x_then ?_
          cases h15 : (nC2 pL ranks xs ((l.getD k (0, 0, 0, 0)).2.1) ((l.getD k (0, 0, 0, 0)).2.2.1) ((l.getD k (0, 0, 0, 0)).2.2.2)) != (bcross pL b ((l.getD k (0, 0, 0, 0)).2.2.2))
          · skip
            refine x_f (by kernel_rfl) ?_
            refine x_skipc ?_
            refine x_blk ?_
            refine x_then ?_
            refine x_seq ?_
            refine x_region ?_
            refine x_val (.pointer (some ⟨p, 0, none⟩)) (by kernel_rfl) rfl (by kernel_rfl) ?_
            refine x_val (.int .i64 page) (by kernel_rfl) rfl (by kernel_rfl) ?_
            have hpg1 : PgOk (nXs ranks room xs ((l.getD k (0, 0, 0, 0)).2.1) ((l.getD k (0, 0, 0, 0)).2.2.1) ((l.getD k (0, 0, 0, 0)).2.2.2)) page (bfill b ((l.getD k (0, 0, 0, 0)).2.2.2)) true (k + 1) := hpg.hit (show k < room by omega) (nE_yes h11p) h13p
            have hq1 := hpg1.get
            refine x_callB (.tuple #[.agg #[.int .i64 ((bfill b ((l.getD k (0, 0, 0, 0)).2.2.2)).1), .int .i64 ((bfill b ((l.getD k (0, 0, 0, 0)).2.2.2)).2)], .bool true]) H (by kernel_rfl) rfl (by kernel_rfl) (by have h := Page_any page (Nat.le_trans hk1.m (Nat.le_trans hP.m.1 (by decide))) _ (H.roOf [1, 3, 4] [.blk p #[.int .i64 rL, .int .i64 rE, .int .i64 pL, .int .i64 pE, .int .i64 ((room : Nat) : Int), .int .i64 hv, .slice (some ⟨gr, 0, none⟩) ranks ranks, .pointer (some ⟨t, 0, none⟩)] 187, .blk t #[svn, .int .i64 ((room : Nat) : Int), .func (.func 103) #[] #[]] 228, .row (svn) 230 3 (List.length (nXs ranks room xs ((l.getD k (0, 0, 0, 0)).2.1) ((l.getD k (0, 0, 0, 0)).2.2.1) ((l.getD k (0, 0, 0, 0)).2.2.2))) (List.flatMap pairLB (nXs ranks room xs ((l.getD k (0, 0, 0, 0)).2.1) ((l.getD k (0, 0, 0, 0)).2.2.1) ((l.getD k (0, 0, 0, 0)).2.2.2)))] (by kernel_rfl)); rw [hq1.1, hq1.2] at h; exact h) ?_
            clear H
            intro v39 H
            refine x_val (.tuple #[.agg #[.int .i64 ((bfill b ((l.getD k (0, 0, 0, 0)).2.2.2)).1), .int .i64 ((bfill b ((l.getD k (0, 0, 0, 0)).2.2.2)).2)], .bool true]) (by kernel_rfl) rfl (by kernel_rfl) ?_
            refine x_val (.agg #[.int .i64 ((bfill b ((l.getD k (0, 0, 0, 0)).2.2.2)).1), .int .i64 ((bfill b ((l.getD k (0, 0, 0, 0)).2.2.2)).2)]) (by kernel_rfl) rfl (by kernel_rfl) ?_
            refine x_val (.bool true) (by kernel_rfl) rfl (by kernel_rfl) ?_
            refine x_box H #[.int .i64 0, .int .i64 0] 86 (by kernel_rfl) rfl (by kernel_rfl) ?_
            clear H
            intro v40 g12 H
            refine x_store (t := 86) (v := .agg #[.int .i64 ((bfill b ((l.getD k (0, 0, 0, 0)).2.2.2)).1), .int .i64 ((bfill b ((l.getD k (0, 0, 0, 0)).2.2.2)).2)]) H 0 g12 0 #[.int .i64 0, .int .i64 0] #[.int .i64 ((bfill b ((l.getD k (0, 0, 0, 0)).2.2.2)).1), .int .i64 ((bfill b ((l.getD k (0, 0, 0, 0)).2.2.2)).2)] 86 [.int .i64 ((bfill b ((l.getD k (0, 0, 0, 0)).2.2.2)).1), .int .i64 ((bfill b ((l.getD k (0, 0, 0, 0)).2.2.2)).2)] [.blk g12 #[.int .i64 ((bfill b ((l.getD k (0, 0, 0, 0)).2.2.2)).1), .int .i64 ((bfill b ((l.getD k (0, 0, 0, 0)).2.2.2)).2)] 86, .blk g9 #[.bool (nC1 rL ranks rs ((l.getD k (0, 0, 0, 0)).2.1) ((l.getD k (0, 0, 0, 0)).2.2.2)), .bool (nC2 pL ranks xs ((l.getD k (0, 0, 0, 0)).2.1) ((l.getD k (0, 0, 0, 0)).2.2.1) ((l.getD k (0, 0, 0, 0)).2.2.2))] 90, .blk p #[.int .i64 rL, .int .i64 rE, .int .i64 pL, .int .i64 pE, .int .i64 ((room : Nat) : Int), .int .i64 hv, .slice (some ⟨gr, 0, none⟩) ranks ranks, .pointer (some ⟨t, 0, none⟩)] 187, .row (.slice (some ⟨gr, 0, none⟩) ranks ranks) 86 2 ranks (List.flatMap bukL (nRs ranks rs ((l.getD k (0, 0, 0, 0)).2.1) ((l.getD k (0, 0, 0, 0)).2.2.2))), .blk t #[svn, .int .i64 ((room : Nat) : Int), .func (.func 103) #[] #[]] 228, .row (svn) 230 3 (List.length (nXs ranks room xs ((l.getD k (0, 0, 0, 0)).2.1) ((l.getD k (0, 0, 0, 0)).2.2.1) ((l.getD k (0, 0, 0, 0)).2.2.2))) (List.flatMap pairLB (nXs ranks room xs ((l.getD k (0, 0, 0, 0)).2.1) ((l.getD k (0, 0, 0, 0)).2.2.1) ((l.getD k (0, 0, 0, 0)).2.2.2))), .blk g3 #[.int .i64 ((l.getD k (0, 0, 0, 0)).1), .int .i64 ((l.getD k (0, 0, 0, 0)).2.1), .int .i64 ((l.getD k (0, 0, 0, 0)).2.2.1), .int .i64 ((l.getD k (0, 0, 0, 0)).2.2.2)] 88, .blk g2 #[.int .i64 ((bfill b ((l.getD k (0, 0, 0, 0)).2.2.2)).1), .int .i64 ((bfill b ((l.getD k (0, 0, 0, 0)).2.2.2)).2)] 86, .blk g1 #[.int .i64 rL, .int .i64 rE, .int .i64 pL, .int .i64 pE, .int .i64 ((room : Nat) : Int), .int .i64 hv] 80] (by kernel_rfl) rfl (by kernel_rfl) (by kernel_rfl) (by kernel_rfl) (by kernel_rfl) (by kernel_rfl) (by kernel_rfl) (by kernel_rfl) (by kernel_rfl) ?_
            clear H
            intro v41 H
            refine x_val (.bool true) (by kernel_rfl) rfl (by kernel_rfl) ?_
            refine x_nil ?_
            refine x_frame' { tmps := #[.agg #[.int .i64 rL, .int .i64 rE, .int .i64 pL, .int .i64 pE, .int .i64 ((room : Nat) : Int), .int .i64 hv], .int .i64 ((ranks : Nat) : Int), .slice ad nA cA, .int .i64 page, .pointer (some ⟨g1, 0, none⟩), undef, undef, undef, (uf1 0), .pointer (some ⟨p, 0, none⟩), .int .i64 0, .pointer (some ⟨g2, 0, none⟩), .bool true, undef, .pointer (some ⟨g3, 0, none⟩), .pointer (some ⟨g9, 0, none⟩), .int .i64 (nE ranks ((l.getD k (0, 0, 0, 0)).2.1) ((l.getD k (0, 0, 0, 0)).2.2.2)), .bool (bcross pL b ((l.getD k (0, 0, 0, 0)).2.2.2)), .pointer (some ⟨g12, 0, none⟩), .bool true, .bool true, .bool false, .tuple #[.pointer (some ⟨p, 0, none⟩), .int .i64 0], .agg #[.int .i64 rL, .int .i64 rE, .int .i64 pL, .int .i64 pE, .int .i64 ((room : Nat) : Int), .int .i64 hv], .int .i64 ((ranks : Nat) : Int), .tuple #[.pointer (some ⟨p, 0, none⟩), .int .i64 0], .pointer (some ⟨p, 0, none⟩), .int .i64 0, .int .i64 0, .bool false, .bool false, .pointer (some ⟨p, 0, none⟩), .bool false, .bool false, .bool false, .slice ad nA cA, .int .i64 ((nA : Nat) : Int), .bool false, .bool false, .bool false, .pointer (some ⟨g1, 4, none⟩), .int .i64 ((room : Nat) : Int), .slice ad nA cA, .int .i64 ((nA : Nat) : Int), .bool false, .bool false, .slice ad nA cA, .int .i64 ((nA : Nat) : Int), .int .i64 ((k : Nat) : Int), .bool true, .pointer (some ⟨ga, oa + k * 4, none⟩), .agg #[.int .i64 ((l.getD k (0, 0, 0, 0)).1), .int .i64 ((l.getD k (0, 0, 0, 0)).2.1), .int .i64 ((l.getD k (0, 0, 0, 0)).2.2.1), .int .i64 ((l.getD k (0, 0, 0, 0)).2.2.2)], .pointer (some ⟨g3, 0, none⟩), .int .i64 ((l.getD k (0, 0, 0, 0)).1), .bool true, .bool true, .tuple #[.agg #[.bool (nC1 rL ranks rs ((l.getD k (0, 0, 0, 0)).2.1) ((l.getD k (0, 0, 0, 0)).2.2.2)), .bool (nC2 pL ranks xs ((l.getD k (0, 0, 0, 0)).2.1) ((l.getD k (0, 0, 0, 0)).2.2.1) ((l.getD k (0, 0, 0, 0)).2.2.2))], .int .i64 (nE ranks ((l.getD k (0, 0, 0, 0)).2.1) ((l.getD k (0, 0, 0, 0)).2.2.2))], .pointer (some ⟨p, 0, none⟩), .pointer (some ⟨g3, 1, none⟩), .int .i64 ((l.getD k (0, 0, 0, 0)).2.1), .pointer (some ⟨g3, 2, none⟩), .int .i64 ((l.getD k (0, 0, 0, 0)).2.2.1), .pointer (some ⟨g3, 3, none⟩), .int .i64 ((l.getD k (0, 0, 0, 0)).2.2.2), .tuple #[.agg #[.bool (nC1 rL ranks rs ((l.getD k (0, 0, 0, 0)).2.1) ((l.getD k (0, 0, 0, 0)).2.2.2)), .bool (nC2 pL ranks xs ((l.getD k (0, 0, 0, 0)).2.1) ((l.getD k (0, 0, 0, 0)).2.2.1) ((l.getD k (0, 0, 0, 0)).2.2.2))], .int .i64 (nE ranks ((l.getD k (0, 0, 0, 0)).2.1) ((l.getD k (0, 0, 0, 0)).2.2.2))], .agg #[.bool (nC1 rL ranks rs ((l.getD k (0, 0, 0, 0)).2.1) ((l.getD k (0, 0, 0, 0)).2.2.2)), .bool (nC2 pL ranks xs ((l.getD k (0, 0, 0, 0)).2.1) ((l.getD k (0, 0, 0, 0)).2.2.1) ((l.getD k (0, 0, 0, 0)).2.2.2))], .int .i64 (nE ranks ((l.getD k (0, 0, 0, 0)).2.1) ((l.getD k (0, 0, 0, 0)).2.2.2)), .int .i64 (nE ranks ((l.getD k (0, 0, 0, 0)).2.1) ((l.getD k (0, 0, 0, 0)).2.2.2)), .bool true, .bool true, .pointer (some ⟨g3, 2, none⟩), .int .i64 ((l.getD k (0, 0, 0, 0)).2.2.1), .int .i64 page, .bool true, .bool true, .tuple #[.agg #[.int .i64 ((bfill b ((l.getD k (0, 0, 0, 0)).2.2.2)).1), .int .i64 ((bfill b ((l.getD k (0, 0, 0, 0)).2.2.2)).2)], .bool (bcross pL b ((l.getD k (0, 0, 0, 0)).2.2.2))], .agg #[.int .i64 b.1, .int .i64 b.2], .pointer (some ⟨g1, 2, none⟩), .agg #[.int .i64 pL, .int .i64 pE], .pointer (some ⟨g3, 3, none⟩), .int .i64 ((l.getD k (0, 0, 0, 0)).2.2.2), .tuple #[.agg #[.int .i64 ((bfill b ((l.getD k (0, 0, 0, 0)).2.2.2)).1), .int .i64 ((bfill b ((l.getD k (0, 0, 0, 0)).2.2.2)).2)], .bool (bcross pL b ((l.getD k (0, 0, 0, 0)).2.2.2))], .agg #[.int .i64 ((bfill b ((l.getD k (0, 0, 0, 0)).2.2.2)).1), .int .i64 ((bfill b ((l.getD k (0, 0, 0, 0)).2.2.2)).2)], .bool (bcross pL b ((l.getD k (0, 0, 0, 0)).2.2.2)), .int .i64 (nE ranks ((l.getD k (0, 0, 0, 0)).2.1) ((l.getD k (0, 0, 0, 0)).2.2.2)), .bool true, .bool true, .pointer (some ⟨g3, 2, none⟩), .int .i64 ((l.getD k (0, 0, 0, 0)).2.2.1), .int .i64 page, .bool true, .bool true, .bool true, .pointer (some ⟨g9, 1, none⟩), .bool (nC2 pL ranks xs ((l.getD k (0, 0, 0, 0)).2.1) ((l.getD k (0, 0, 0, 0)).2.2.1) ((l.getD k (0, 0, 0, 0)).2.2.2)), .bool (bcross pL b ((l.getD k (0, 0, 0, 0)).2.2.2)), .bool false, .bool false, (uf1 56), (uf1 57), (uf1 58), (uf1 59), (uf1 60), (uf1 61), (uf1 62), (uf1 63), (uf1 64), (uf1 65), (uf1 66), (uf1 67), (uf1 68), (uf1 69), (uf1 70), (uf1 71), (uf1 72), (uf1 73), (uf1 74), (uf1 75), .tuple #[.agg #[.int .i64 ((bfill b ((l.getD k (0, 0, 0, 0)).2.2.2)).1), .int .i64 ((bfill b ((l.getD k (0, 0, 0, 0)).2.2.2)).2)], .bool true], .pointer (some ⟨p, 0, none⟩), .int .i64 page, .tuple #[.agg #[.int .i64 ((bfill b ((l.getD k (0, 0, 0, 0)).2.2.2)).1), .int .i64 ((bfill b ((l.getD k (0, 0, 0, 0)).2.2.2)).2)], .bool true], .agg #[.int .i64 ((bfill b ((l.getD k (0, 0, 0, 0)).2.2.2)).1), .int .i64 ((bfill b ((l.getD k (0, 0, 0, 0)).2.2.2)).2)], .bool true, (uf1 82), (uf1 83), (uf1 84), (uf1 85), (uf1 86), (uf1 87), (uf1 88), (uf1 89), (uf1 90)], defers := [] } (by kernel_rfl) ?_
            refine x_then ?_
            refine x_seq ?_
            refine x_region ?_
            refine x_loadn (t := 86) H 0 g12 0 #[.int .i64 ((bfill b ((l.getD k (0, 0, 0, 0)).2.2.2)).1), .int .i64 ((bfill b ((l.getD k (0, 0, 0, 0)).2.2.2)).2)] 86 [.int .i64 ((bfill b ((l.getD k (0, 0, 0, 0)).2.2.2)).1), .int .i64 ((bfill b ((l.getD k (0, 0, 0, 0)).2.2.2)).2)] (by kernel_rfl) (by kernel_rfl) (by kernel_rfl) rfl (by kernel_rfl) (by kernel_rfl) ?_
            refine x_loadn (t := 86) H 7 g2 0 #[.int .i64 ((bfill b ((l.getD k (0, 0, 0, 0)).2.2.2)).1), .int .i64 ((bfill b ((l.getD k (0, 0, 0, 0)).2.2.2)).2)] 86 [.int .i64 ((bfill b ((l.getD k (0, 0, 0, 0)).2.2.2)).1), .int .i64 ((bfill b ((l.getD k (0, 0, 0, 0)).2.2.2)).2)] (by kernel_rfl) (by kernel_rfl) (by kernel_rfl) rfl (by kernel_rfl) (by kernel_rfl) ?_
            have h16 : (decide ((((bfill b ((l.getD k (0, 0, 0, 0)).2.2.2)).1) : Int) = ((bfill b ((l.getD k (0, 0, 0, 0)).2.2.2)).1)) && (decide ((((bfill b ((l.getD k (0, 0, 0, 0)).2.2.2)).2) : Int) = ((bfill b ((l.getD k (0, 0, 0, 0)).2.2.2)).2)) && true)) = true := by simp
            refine x_val (.bool false) (by kernel_rfl) rfl ((run_neS (t := 86) (x := .tmp 124) (y := .tmp 125) (xs := #[.int .i64 ((bfill b ((l.getD k (0, 0, 0, 0)).2.2.2)).1), .int .i64 ((bfill b ((l.getD k (0, 0, 0, 0)).2.2.2)).2)]) (ys := #[.int .i64 ((bfill b ((l.getD k (0, 0, 0, 0)).2.2.2)).1), .int .i64 ((bfill b ((l.getD k (0, 0, 0, 0)).2.2.2)).2)]) (B := decide ((((bfill b ((l.getD k (0, 0, 0, 0)).2.2.2)).1) : Int) = ((bfill b ((l.getD k (0, 0, 0, 0)).2.2.2)).1)) && (decide ((((bfill b ((l.getD k (0, 0, 0, 0)).2.2.2)).2) : Int) = ((bfill b ((l.getD k (0, 0, 0, 0)).2.2.2)).2)) && true)) (by kernel_rfl) (by kernel_rfl) (by kernel_rfl)).trans (by rw [h16]; rfl)) ?_
            refine x_val (.bool false) (by kernel_rfl) rfl (by kernel_rfl) ?_
            refine x_val (.bool true) (by kernel_rfl) rfl (by kernel_rfl) ?_
            refine x_val (.bool true) (by kernel_rfl) rfl (by kernel_rfl) ?_
            refine x_val (.bool false) (by kernel_rfl) rfl (by kernel_rfl) ?_
            refine x_val (.bool false) (by kernel_rfl) rfl (by kernel_rfl) ?_
            refine x_nil ?_
            refine x_then ?_
            refine x_f (by kernel_rfl) ?_
            refine x_skipc ?_
            refine x_blk ?_
            refine x_then ?_
            refine x_region ?_
            refine x_ar (((k : Nat) : Int) + 1) ⟨by omega, by omega⟩ (by kernel_rfl) rfl (by kernel_rfl) ?_
            refine x_val (.int .i64 (((k : Nat) : Int) + 1)) (by kernel_rfl) rfl (by kernel_rfl) ?_
            refine x_nil ?_
            refine x_then ?_
            replace H := H.pick [2, 3, 4, 5, 7, 8] [.blk p #[.int .i64 rL, .int .i64 rE, .int .i64 pL, .int .i64 pE, .int .i64 ((room : Nat) : Int), .int .i64 hv, .slice (some ⟨gr, 0, none⟩) ranks ranks, .pointer (some ⟨t, 0, none⟩)] 187, .row (.slice (some ⟨gr, 0, none⟩) ranks ranks) 86 2 ranks (List.flatMap bukL (nRs ranks rs ((l.getD k (0, 0, 0, 0)).2.1) ((l.getD k (0, 0, 0, 0)).2.2.2))), .blk t #[svn, .int .i64 ((room : Nat) : Int), .func (.func 103) #[] #[]] 228, .row (svn) 230 3 (List.length (nXs ranks room xs ((l.getD k (0, 0, 0, 0)).2.1) ((l.getD k (0, 0, 0, 0)).2.2.1) ((l.getD k (0, 0, 0, 0)).2.2.2))) (List.flatMap pairLB (nXs ranks room xs ((l.getD k (0, 0, 0, 0)).2.1) ((l.getD k (0, 0, 0, 0)).2.2.1) ((l.getD k (0, 0, 0, 0)).2.2.2))), .blk g2 #[.int .i64 ((bfill b ((l.getD k (0, 0, 0, 0)).2.2.2)).1), .int .i64 ((bfill b ((l.getD k (0, 0, 0, 0)).2.2.2)).2)] 86, .blk g1 #[.int .i64 rL, .int .i64 rE, .int .i64 pL, .int .i64 pE, .int .i64 ((room : Nat) : Int), .int .i64 hv] 80] (by decide) (by kernel_rfl)
            have hpg1_ok := hpg1.ok hP.p.2.2.1 (by first | exact hk1.c | exact hk.c)
            exact ⟨(k + 1, svn, (nRs ranks rs ((l.getD k (0, 0, 0, 0)).2.1) ((l.getD k (0, 0, 0, 0)).2.2.2)), (nXs ranks room xs ((l.getD k (0, 0, 0, 0)).2.1) ((l.getD k (0, 0, 0, 0)).2.2.1) ((l.getD k (0, 0, 0, 0)).2.2.2)), (bfill b ((l.getD k (0, 0, 0, 0)).2.2.2)), true), (by dsimp only; omega), (nthV [(uf1 0), .pointer (some ⟨g3, 0, none⟩), .pointer (some ⟨g9, 0, none⟩), .int .i64 (nE ranks ((l.getD k (0, 0, 0, 0)).2.1) ((l.getD k (0, 0, 0, 0)).2.2.2)), .bool (bcross pL b ((l.getD k (0, 0, 0, 0)).2.2.2)), .pointer (some ⟨g12, 0, none⟩), .bool true, .bool true, .pointer (some ⟨ga, oa + k * 4, none⟩), .agg #[.int .i64 ((l.getD k (0, 0, 0, 0)).1), .int .i64 ((l.getD k (0, 0, 0, 0)).2.1), .int .i64 ((l.getD k (0, 0, 0, 0)).2.2.1), .int .i64 ((l.getD k (0, 0, 0, 0)).2.2.2)], .pointer (some ⟨g3, 0, none⟩), .int .i64 ((l.getD k (0, 0, 0, 0)).1), .bool true, .bool true, .tuple #[.agg #[.bool (nC1 rL ranks rs ((l.getD k (0, 0, 0, 0)).2.1) ((l.getD k (0, 0, 0, 0)).2.2.2)), .bool (nC2 pL ranks xs ((l.getD k (0, 0, 0, 0)).2.1) ((l.getD k (0, 0, 0, 0)).2.2.1) ((l.getD k (0, 0, 0, 0)).2.2.2))], .int .i64 (nE ranks ((l.getD k (0, 0, 0, 0)).2.1) ((l.getD k (0, 0, 0, 0)).2.2.2))], .pointer (some ⟨p, 0, none⟩), .pointer (some ⟨g3, 1, none⟩), .int .i64 ((l.getD k (0, 0, 0, 0)).2.1), .pointer (some ⟨g3, 2, none⟩), .int .i64 ((l.getD k (0, 0, 0, 0)).2.2.1), .pointer (some ⟨g3, 3, none⟩), .int .i64 ((l.getD k (0, 0, 0, 0)).2.2.2), .tuple #[.agg #[.bool (nC1 rL ranks rs ((l.getD k (0, 0, 0, 0)).2.1) ((l.getD k (0, 0, 0, 0)).2.2.2)), .bool (nC2 pL ranks xs ((l.getD k (0, 0, 0, 0)).2.1) ((l.getD k (0, 0, 0, 0)).2.2.1) ((l.getD k (0, 0, 0, 0)).2.2.2))], .int .i64 (nE ranks ((l.getD k (0, 0, 0, 0)).2.1) ((l.getD k (0, 0, 0, 0)).2.2.2))], .agg #[.bool (nC1 rL ranks rs ((l.getD k (0, 0, 0, 0)).2.1) ((l.getD k (0, 0, 0, 0)).2.2.2)), .bool (nC2 pL ranks xs ((l.getD k (0, 0, 0, 0)).2.1) ((l.getD k (0, 0, 0, 0)).2.2.1) ((l.getD k (0, 0, 0, 0)).2.2.2))], .int .i64 (nE ranks ((l.getD k (0, 0, 0, 0)).2.1) ((l.getD k (0, 0, 0, 0)).2.2.2)), .int .i64 (nE ranks ((l.getD k (0, 0, 0, 0)).2.1) ((l.getD k (0, 0, 0, 0)).2.2.2)), .bool true, .bool true, .pointer (some ⟨g3, 2, none⟩), .int .i64 ((l.getD k (0, 0, 0, 0)).2.2.1), .int .i64 page, .bool true, .bool true, .tuple #[.agg #[.int .i64 ((bfill b ((l.getD k (0, 0, 0, 0)).2.2.2)).1), .int .i64 ((bfill b ((l.getD k (0, 0, 0, 0)).2.2.2)).2)], .bool (bcross pL b ((l.getD k (0, 0, 0, 0)).2.2.2))], .agg #[.int .i64 b.1, .int .i64 b.2], .pointer (some ⟨g1, 2, none⟩), .agg #[.int .i64 pL, .int .i64 pE], .pointer (some ⟨g3, 3, none⟩), .int .i64 ((l.getD k (0, 0, 0, 0)).2.2.2), .tuple #[.agg #[.int .i64 ((bfill b ((l.getD k (0, 0, 0, 0)).2.2.2)).1), .int .i64 ((bfill b ((l.getD k (0, 0, 0, 0)).2.2.2)).2)], .bool (bcross pL b ((l.getD k (0, 0, 0, 0)).2.2.2))], .agg #[.int .i64 ((bfill b ((l.getD k (0, 0, 0, 0)).2.2.2)).1), .int .i64 ((bfill b ((l.getD k (0, 0, 0, 0)).2.2.2)).2)], .bool (bcross pL b ((l.getD k (0, 0, 0, 0)).2.2.2)), .int .i64 (nE ranks ((l.getD k (0, 0, 0, 0)).2.1) ((l.getD k (0, 0, 0, 0)).2.2.2)), .bool true, .bool true, .pointer (some ⟨g3, 2, none⟩), .int .i64 ((l.getD k (0, 0, 0, 0)).2.2.1), .int .i64 page, .bool true, .bool true, .bool true, .pointer (some ⟨g9, 1, none⟩), .bool (nC2 pL ranks xs ((l.getD k (0, 0, 0, 0)).2.1) ((l.getD k (0, 0, 0, 0)).2.2.1) ((l.getD k (0, 0, 0, 0)).2.2.2)), .bool (bcross pL b ((l.getD k (0, 0, 0, 0)).2.2.2)), .bool false, .bool false, (uf1 56), (uf1 57), (uf1 58), (uf1 59), (uf1 60), (uf1 61), (uf1 62), (uf1 63), (uf1 64), (uf1 65), (uf1 66), (uf1 67), (uf1 68), (uf1 69), (uf1 70), (uf1 71), (uf1 72), (uf1 73), (uf1 74), (uf1 75), .tuple #[.agg #[.int .i64 ((bfill b ((l.getD k (0, 0, 0, 0)).2.2.2)).1), .int .i64 ((bfill b ((l.getD k (0, 0, 0, 0)).2.2.2)).2)], .bool true], .pointer (some ⟨p, 0, none⟩), .int .i64 page, .tuple #[.agg #[.int .i64 ((bfill b ((l.getD k (0, 0, 0, 0)).2.2.2)).1), .int .i64 ((bfill b ((l.getD k (0, 0, 0, 0)).2.2.2)).2)], .bool true], .agg #[.int .i64 ((bfill b ((l.getD k (0, 0, 0, 0)).2.2.2)).1), .int .i64 ((bfill b ((l.getD k (0, 0, 0, 0)).2.2.2)).2)], .bool true, .agg #[.int .i64 ((bfill b ((l.getD k (0, 0, 0, 0)).2.2.2)).1), .int .i64 ((bfill b ((l.getD k (0, 0, 0, 0)).2.2.2)).2)], .agg #[.int .i64 ((bfill b ((l.getD k (0, 0, 0, 0)).2.2.2)).1), .int .i64 ((bfill b ((l.getD k (0, 0, 0, 0)).2.2.2)).2)], .bool false, .bool false, .bool true, .bool true, .bool false, .bool false, .int .i64 (((k : Nat) : Int) + 1)]), (by kernel_rfl), H, (by omega), hk1, hpg1, (hpg1_ok)⟩
          · skip
            exact absurd h15 (by rw [hpg.c2 (nE_yes h11p) h13p]; simp)

set_option maxRecDepth 100000 in
set_option maxHeartbeats 4000000 in
theorem pages_out (rL rE pL pE hv : Int) (room ranks : Nat) (ad : Option Addr) (nA cA : Nat) (page : Int) (hb : 60 < nA ∨ room < nA) (hR : Rul rL rE pL pE ((room : Nat) : Int) hv) (h1 : 1 ≤ ranks) (h2 : ranks ≤ 8) (w0 : World) :
    Calls Try.prog 7 #[.agg #[.int .i64 rL, .int .i64 rE, .int .i64 pL, .int .i64 pE, .int .i64 ((room : Nat) : Int), .int .i64 hv], .int .i64 ((ranks : Nat) : Int), .slice ad nA cA, .int .i64 page] w0 fun e w' => e = .returned (.bool true) ∧ Below w0.heap.size w0 w' := by
  refine x_enter Try.func7 rfl #[.agg #[.int .i64 rL, .int .i64 rE, .int .i64 pL, .int .i64 pE, .int .i64 ((room : Nat) : Int), .int .i64 hv], .int .i64 ((ranks : Nat) : Int), .slice ad nA cA, .int .i64 page, undef, undef, undef, undef, undef, undef, undef, undef, undef, undef, undef, undef, undef, undef, undef, undef, undef, undef, undef, undef, undef, undef, undef, undef, undef, undef, undef, undef, undef, undef, undef, undef, undef, undef, undef, undef, undef, undef, undef, undef, undef, undef, undef, undef, undef, undef, undef, undef, undef, undef, undef, undef, undef, undef, undef, undef, undef, undef, undef, undef, undef, undef, undef, undef, undef, undef, undef, undef, undef, undef, undef, undef, undef, undef, undef, undef, undef, undef, undef, undef, undef, undef, undef, undef, undef, undef, undef, undef, undef, undef, undef, undef, undef, undef, undef, undef, undef, undef, undef, undef, undef, undef, undef, undef, undef, undef, undef, undef, undef, undef, undef, undef, undef, undef, undef, undef, undef, undef, undef, undef, undef, undef, undef, undef, undef, undef, undef, undef, undef] (by kernel_rfl) ?_
  have H := Hs.nil w0
  refine x_seq ?_
  refine x_region ?_
  refine x_box H #[.int .i64 rL, .int .i64 rE, .int .i64 pL, .int .i64 pE, .int .i64 ((room : Nat) : Int), .int .i64 hv] 80 (by kernel_rfl) rfl (by kernel_rfl) ?_
  clear H
  intro v1 g1 H
  refine x_val (.bool false) (by kernel_rfl) rfl (by kernel_rfl) ?_
  refine x_nil ?_
  refine x_then ?_
  refine x_seq ?_
  refine x_seq ?_
  refine x_region ?_
  refine x_callB (.bool true) H (by kernel_rfl) rfl (by kernel_rfl) (anchor18 _) ?_
  clear H
  intro v2 H
  refine x_val (.bool false) (by kernel_rfl) rfl (by kernel_rfl) ?_
  refine x_nil ?_
  refine x_then ?_
  refine x_f (by kernel_rfl) ?_
  refine x_skipc ?_
  refine x_then ?_
  refine x_seq ?_
  refine x_region ?_
  refine x_loadn (t := 80) H 0 g1 0 #[.int .i64 rL, .int .i64 rE, .int .i64 pL, .int .i64 pE, .int .i64 ((room : Nat) : Int), .int .i64 hv] 80 [.int .i64 rL, .int .i64 rE, .int .i64 pL, .int .i64 pE, .int .i64 ((room : Nat) : Int), .int .i64 hv] (by kernel_rfl) (by kernel_rfl) (by kernel_rfl) rfl (by kernel_rfl) (by kernel_rfl) ?_
  refine x_val (.int .i64 ((ranks : Nat) : Int)) (by kernel_rfl) rfl (by kernel_rfl) ?_
  refine x_call (by kernel_rfl) rfl (by kernel_rfl) (TkNew_yes rL rE pL pE hv room ranks hR h1 h2 _) ?_
  rintro _ v3 ⟨p, gr, t, rfl, hN'⟩
  refine ⟨_, rfl, ?_⟩
  replace H := H.more hN'
  clear hN'
  replace H : Hs [] w0 _ [.blk p #[.int .i64 rL, .int .i64 rE, .int .i64 pL, .int .i64 pE, .int .i64 ((room : Nat) : Int), .int .i64 hv, .slice (some ⟨gr, 0, none⟩) ranks ranks, .pointer (some ⟨t, 0, none⟩)] 187, .row (.slice (some ⟨gr, 0, none⟩) ranks ranks) 86 2 ranks (List.flatMap bukL (List.replicate ranks (0, 0))), .blk t #[.slice none 0 0, .int .i64 ((room : Nat) : Int), .func (.func 103) #[] #[]] 228, .row (.slice none 0 0) 230 3 (List.length ([] : List PairB)) (List.flatMap pairLB ([] : List PairB)), .blk g1 #[.int .i64 rL, .int .i64 rE, .int .i64 pL, .int .i64 pE, .int .i64 ((room : Nat) : Int), .int .i64 hv] 80] := H
  have hP : TP ranks room rL rE pL pE := ⟨hR.1, hR.2.1, ⟨by have := hR.2.2.1; omega, h2⟩, ⟨by have := hR.2.2.1; omega, h1⟩⟩
  refine x_val (.tuple #[.pointer (some ⟨p, 0, none⟩), .int .i64 0]) (by kernel_rfl) rfl (by kernel_rfl) ?_
  refine x_val (.pointer (some ⟨p, 0, none⟩)) (by kernel_rfl) rfl (by kernel_rfl) ?_
  refine x_val (.int .i64 0) (by kernel_rfl) rfl (by kernel_rfl) ?_
  refine x_val (.pointer (some ⟨p, 0, none⟩)) (by kernel_rfl) rfl (by kernel_rfl) ?_
  refine x_val (.int .i64 0) (by kernel_rfl) rfl (by kernel_rfl) ?_
  refine x_nil ?_
  refine x_then ?_
  refine x_seq ?_
  refine x_seq ?_
  refine x_region ?_
  refine x_val (.int .i64 0) (by kernel_rfl) rfl (by kernel_rfl) ?_
  refine x_val (.bool false) (by kernel_rfl) rfl (by kernel_rfl) ?_
  refine x_val (.bool false) (by kernel_rfl) rfl (by kernel_rfl) ?_
  refine x_val (.pointer (some ⟨p, 0, none⟩)) (by kernel_rfl) rfl (by kernel_rfl) ?_
  refine x_val (.bool false) (by kernel_rfl) rfl (by kernel_rfl) ?_
  refine x_val (.bool false) (by kernel_rfl) rfl (by kernel_rfl) ?_
  refine x_val (.bool false) (by kernel_rfl) rfl (by kernel_rfl) ?_
  refine x_val (.slice ad nA cA) (by kernel_rfl) rfl (by kernel_rfl) ?_
  refine x_val (.int .i64 ((nA : Nat) : Int)) (by kernel_rfl) rfl (by kernel_rfl) ?_
  refine x_val (.bool (decide (60 < ((nA : Nat) : Int)))) (by kernel_rfl) rfl (by kernel_rfl) ?_
  refine x_val (.bool (decide (60 < ((nA : Nat) : Int)))) (by kernel_rfl) rfl (by kernel_rfl) ?_
  refine x_val (.bool (decide (60 < ((nA : Nat) : Int)))) (by kernel_rfl) rfl (by kernel_rfl) ?_
  cases h1 : decide (60 < ((nA : Nat) : Int))
  · skip
    have h1p := of_decide_eq_false h1
    refine x_val (.pointer (some ⟨g1, 4, none⟩)) (by kernel_rfl) rfl (by kernel_rfl) ?_
    refine x_load1 H 4 g1 4 #[.int .i64 rL, .int .i64 rE, .int .i64 pL, .int .i64 pE, .int .i64 ((room : Nat) : Int), .int .i64 hv] 80 (.int .i64 ((room : Nat) : Int)) (by kernel_rfl) (by kernel_rfl) (by kernel_rfl) rfl (by kernel_rfl) ?_
    refine x_val (.slice ad nA cA) (by kernel_rfl) rfl (by kernel_rfl) ?_
    refine x_val (.int .i64 ((nA : Nat) : Int)) (by kernel_rfl) rfl (by kernel_rfl) ?_
    refine x_val (.bool (decide (((room : Nat) : Int) < ((nA : Nat) : Int)))) (by kernel_rfl) rfl (by kernel_rfl) ?_
    refine x_val (.bool (decide (((room : Nat) : Int) < ((nA : Nat) : Int)))) (by kernel_rfl) rfl (by kernel_rfl) ?_
    refine x_nil ?_
    refine x_frame' { tmps := #[.agg #[.int .i64 rL, .int .i64 rE, .int .i64 pL, .int .i64 pE, .int .i64 ((room : Nat) : Int), .int .i64 hv], .int .i64 ((ranks : Nat) : Int), .slice ad nA cA, .int .i64 page, .pointer (some ⟨g1, 0, none⟩), undef, undef, undef, .bool false, .pointer (some ⟨p, 0, none⟩), .int .i64 0, undef, undef, undef, undef, undef, undef, undef, undef, undef, .bool true, .bool false, .tuple #[.pointer (some ⟨p, 0, none⟩), .int .i64 0], .agg #[.int .i64 rL, .int .i64 rE, .int .i64 pL, .int .i64 pE, .int .i64 ((room : Nat) : Int), .int .i64 hv], .int .i64 ((ranks : Nat) : Int), .tuple #[.pointer (some ⟨p, 0, none⟩), .int .i64 0], .pointer (some ⟨p, 0, none⟩), .int .i64 0, .int .i64 0, .bool false, .bool false, .pointer (some ⟨p, 0, none⟩), .bool false, .bool false, .bool false, .slice ad nA cA, .int .i64 ((nA : Nat) : Int), .bool false, .bool false, .bool false, .pointer (some ⟨g1, 4, none⟩), .int .i64 ((room : Nat) : Int), .slice ad nA cA, .int .i64 ((nA : Nat) : Int), .bool (decide (((room : Nat) : Int) < ((nA : Nat) : Int))), .bool (decide (((room : Nat) : Int) < ((nA : Nat) : Int))), undef, undef, undef, undef, undef, undef, undef, undef, undef, undef, undef, undef, undef, undef, undef, undef, undef, undef, undef, undef, undef, undef, undef, undef, undef, undef, undef, undef, undef, undef, undef, undef, undef, undef, undef, undef, undef, undef, undef, undef, undef, undef, undef, undef, undef, undef, undef, undef, undef, undef, undef, undef, undef, undef, undef, undef, undef, undef, undef, undef, undef, undef, undef, undef, undef, undef, undef, undef, undef, undef, undef, undef, undef, undef, undef, undef, undef, undef, undef, undef, undef, undef, undef, undef, undef, undef, undef], defers := [] } (by kernel_rfl) ?_
    refine x_then ?_
    cases h2 : decide (((room : Nat) : Int) < ((nA : Nat) : Int))
    · skip
      have h2p := of_decide_eq_false h2
      exfalso; omega
    · skip
      have h2p := of_decide_eq_true h2
      refine x_t (by kernel_rfl) ?_
      refine x_seq ?_
      refine x_region ?_
      refine x_val (.bool true) (by kernel_rfl) rfl (by kernel_rfl) ?_
      refine x_nil ?_
      refine x_then ?_
      refine x_retc ?_
      refine x_then_ret ?_
      refine x_ret (.bool true) (by kernel_rfl) (by kernel_rfl) ?_
      exact ⟨rfl, H.below⟩
  · skip
    have h1p := of_decide_eq_true h1
    refine x_skip (by kernel_rfl) ?_
    refine x_skip (by kernel_rfl) ?_
    refine x_skip (by kernel_rfl) ?_
    refine x_skip (by kernel_rfl) ?_
    refine x_skip (by kernel_rfl) ?_
    refine x_val (.bool true) (by kernel_rfl) rfl (by kernel_rfl) ?_
    refine x_nil ?_
    refine x_frame' { tmps := #[.agg #[.int .i64 rL, .int .i64 rE, .int .i64 pL, .int .i64 pE, .int .i64 ((room : Nat) : Int), .int .i64 hv], .int .i64 ((ranks : Nat) : Int), .slice ad nA cA, .int .i64 page, .pointer (some ⟨g1, 0, none⟩), undef, undef, undef, .bool false, .pointer (some ⟨p, 0, none⟩), .int .i64 0, undef, undef, undef, undef, undef, undef, undef, undef, undef, .bool true, .bool false, .tuple #[.pointer (some ⟨p, 0, none⟩), .int .i64 0], .agg #[.int .i64 rL, .int .i64 rE, .int .i64 pL, .int .i64 pE, .int .i64 ((room : Nat) : Int), .int .i64 hv], .int .i64 ((ranks : Nat) : Int), .tuple #[.pointer (some ⟨p, 0, none⟩), .int .i64 0], .pointer (some ⟨p, 0, none⟩), .int .i64 0, .int .i64 0, .bool false, .bool false, .pointer (some ⟨p, 0, none⟩), .bool false, .bool false, .bool false, .slice ad nA cA, .int .i64 ((nA : Nat) : Int), .bool true, .bool true, .bool true, undef, undef, undef, undef, undef, .bool true, undef, undef, undef, undef, undef, undef, undef, undef, undef, undef, undef, undef, undef, undef, undef, undef, undef, undef, undef, undef, undef, undef, undef, undef, undef, undef, undef, undef, undef, undef, undef, undef, undef, undef, undef, undef, undef, undef, undef, undef, undef, undef, undef, undef, undef, undef, undef, undef, undef, undef, undef, undef, undef, undef, undef, undef, undef, undef, undef, undef, undef, undef, undef, undef, undef, undef, undef, undef, undef, undef, undef, undef, undef, undef, undef, undef, undef, undef, undef, undef, undef, undef, undef, undef, undef, undef, undef], defers := [] } (by kernel_rfl) ?_
    refine x_then ?_
    refine x_t (by kernel_rfl) ?_
    refine x_seq ?_
    refine x_region ?_
    refine x_val (.bool true) (by kernel_rfl) rfl (by kernel_rfl) ?_
    refine x_nil ?_
    refine x_then ?_
    refine x_retc ?_
    refine x_then_ret ?_
    refine x_ret (.bool true) (by kernel_rfl) (by kernel_rfl) ?_
    exact ⟨rfl, H.below⟩

end Go.Proofs.Ytgpalgbdacoagaa
