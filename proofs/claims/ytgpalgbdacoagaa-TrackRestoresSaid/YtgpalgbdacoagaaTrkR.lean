/- A tracker restored from a state; its state. -/
import Derived.Test.YtgpalgbdacoagaaTrkL
import Derived.Test.YtgpalgbdacoagaaRat
import Derived.Test.YtgpalgbdacoagaaPxG
namespace Go.Proofs.Ytgpalgbdacoagaa
open Go Go.RowKit
set_option linter.unusedVariables false
set_option linter.unusedSimpArgs false

theorem rr_b {L E : Int} (h : RR L E) : 1 ≤ E ∧ E ≤ 65536 := ⟨h.2.2.1, h.2.2.2⟩
/-- All of these buckets may be. -/
def AllB (E : Int) (l : List Buk) (n : Nat) : Prop := ∀ i, i < n → RB E (l.getD i (0, 0))

theorem BRightE (u v L E : Int) (hr : RR L E) (w0 : World) : Calls Try.prog 107 #[.agg #[.int .i64 u, .int .i64 v], .agg #[.int .i64 L, .int .i64 E]] w0 fun e w' => e = .returned (.bool (decide (RB E (u, v)))) ∧ Below w0.heap.size w0 w' := by
  have h := BRight u v L E (rr_b hr) w0
  rw [show decide (RR L E ∧ RB E (u, v)) = decide (RB E (u, v)) from decide_eq_decide.2 ⟨And.right, fun z => ⟨hr, z⟩⟩] at h
  exact h

set_option maxRecDepth 100000 in
set_option maxHeartbeats 4000000 in
theorem all1 {q : Nat} {L E : Int} (u v : Int) (hr : RR L E) (w0 : World) (hR : Ro w0 [.blk q #[.int .i64 L, .int .i64 E] 78]) :
    Calls Try.prog 166 #[.agg #[.int .i64 u, .int .i64 v], .pointer (some ⟨q, 0, none⟩)] w0 fun e w' => e = .returned (.bool (!(decide (RB E (u, v))))) ∧ Below w0.heap.size w0 w' := by
  refine x_enter Try.func166 rfl #[.agg #[.int .i64 u, .int .i64 v], .pointer (some ⟨q, 0, none⟩), undef, undef, undef, undef, undef, undef] (by kernel_rfl) ?_
  have H := Hs.nil w0
  have R0 := hR
  refine x_seq ?_
  refine x_region ?_
  refine x_box H #[.int .i64 u, .int .i64 v] 86 (by kernel_rfl) rfl (by kernel_rfl) ?_
  clear H
  intro v1 g1 H
  refine x_val (.bool false) (by kernel_rfl) rfl (by kernel_rfl) ?_
  refine x_nil ?_
  refine x_then ?_
  refine x_seq ?_
  refine x_region ?_
  refine x_loadn (t := 86) H 0 g1 0 _ _ [.int .i64 u, .int .i64 v] rfl (by kernel_rfl) (by kernel_rfl) rfl (by kernel_rfl) (by kernel_rfl) ?_
  refine x_loadcn (t := 78) q 0 [.int .i64 L, .int .i64 E] ((H.ro R0).cells 0 rfl 0 (by kernel_rfl)) (by kernel_rfl) rfl (by kernel_rfl) (by kernel_rfl) ?_
  refine x_callB (.bool (decide (RB E (u, v)))) H (by kernel_rfl) rfl (by kernel_rfl) (BRightE u v L E hr _) ?_
  clear H
  intro v2 H
  refine x_val (.bool (!(decide (RB E (u, v))))) (by kernel_rfl) rfl (by kernel_rfl) ?_
  refine x_val (.bool (!(decide (RB E (u, v))))) (by kernel_rfl) rfl (by kernel_rfl) ?_
  refine x_nil ?_
  refine x_then ?_
  refine x_retc ?_
  refine x_ret (.bool (!(decide (RB E (u, v))))) (by kernel_rfl) (by kernel_rfl) ?_
  exact ⟨rfl, H.below⟩

set_option maxRecDepth 100000 in
set_option maxHeartbeats 4000000 in
theorem IxC {q : Nat} {L E : Int} (ad : Option Addr) (n c : Nat) (l : List Buk) (hr : RR L E) (hn : n ≤ 4096) (w0 : World) (hA : RAt bukL 2 (0, 0) w0 ad n l) (hR : Ro w0 [.blk q #[.int .i64 L, .int .i64 E] 78]) :
    Calls Try.prog 179 #[.slice ad n c, .func (.func 166) #[] #[.pointer (some ⟨q, 0, none⟩)]] w0 fun e w' => ∃ z : Int, e = .returned (.int .i64 z) ∧ (z < 0 ↔ AllB E l n) ∧ Below w0.heap.size w0 w' := by
  refine x_enter Try.func179 rfl #[.slice ad n c, .func (.func 166) #[] #[.pointer (some ⟨q, 0, none⟩)], undef, undef, undef, undef, undef, undef, undef, undef, undef, undef, undef, undef, undef, undef, undef, undef, undef] (by kernel_rfl) ?_
  have H := Hs.nil w0
  have R0 := hR
  unfold AllB
  refine x_seq ?_
  refine x_region ?_
  refine x_val (.int .i64 0) (by kernel_rfl) rfl (by kernel_rfl) ?_
  refine x_nil ?_
  refine x_then ?_
  refine x_seq ?_
  refine x_seq ?_
  refine x_region ?_
  refine x_val (.slice ad n c) (by kernel_rfl) rfl (by kernel_rfl) ?_
  refine x_val (.int .i64 ((n : Nat) : Int)) (by kernel_rfl) rfl (by kernel_rfl) ?_
  refine x_val (.int .i64 0) (by kernel_rfl) rfl (by kernel_rfl) ?_
  refine x_nil ?_
  refine x_then ?_
  refine x_block ?_
  refine x_loop (G := Nat) (fun (k : Nat) a w' => ∃ uf1 : Nat → Value, a = { tmps := #[.slice ad n c, .func (.func 166) #[] #[.pointer (some ⟨q, 0, none⟩)], undef, undef, (uf1 0), (uf1 1), .slice ad n c, .int .i64 ((n : Nat) : Int), .int .i64 ((k : Nat) : Int), (uf1 2), (uf1 3), (uf1 4), (uf1 5), (uf1 6), (uf1 7), (uf1 8), (uf1 9), (uf1 10), (uf1 11)], defers := [] } ∧ Hs [] w0 w' [] ∧ (k ≤ n) ∧ (∀ i, i < k → RB E (l.getD i (0, 0)))) (fun (k : Nat) => n - k) 0 ⟨(nthV [.int .i64 0, undef, undef, undef, undef, undef, undef, undef, undef, undef, undef, undef]), (by kernel_rfl), H, (Nat.zero_le _), (fun i hi => absurd hi (Nat.not_lt_zero _))⟩ ?_
  clear H
  rintro k _ v1 ⟨uf1, rfl, H, r1, r2⟩
  refine x_seq ?_
  refine x_region ?_
  refine x_val (.bool (decide (((k : Nat) : Int) < ((n : Nat) : Int)))) (by kernel_rfl) rfl (by kernel_rfl) ?_
  refine x_nil ?_
  refine x_then ?_
  refine x_seq ?_
  cases h1 : decide (((k : Nat) : Int) < ((n : Nat) : Int))
  · skip
    have h1p := of_decide_eq_false h1
    refine x_f (by kernel_rfl) ?_
    refine x_exit ?_
    refine x_then_exit ?_
    refine x_then_exit ?_
    refine x_blk_exit ?_
    refine x_then ?_
    refine x_seq ?_
    refine x_region ?_
    refine x_val (.int .i64 (-1)) (by kernel_rfl) rfl (by kernel_rfl) ?_
    refine x_nil ?_
    refine x_then ?_
    refine x_retc ?_
    refine x_ret (.int .i64 (-1)) (by kernel_rfl) (by kernel_rfl) ?_
    exact ⟨-1, rfl, by constructor <;> intro _; exact fun i hi => r2 i (by omega); decide, H.below⟩
  · skip
    have h1p := of_decide_eq_true h1
    refine x_t (by kernel_rfl) ?_
    refine x_skipc ?_
    refine x_then ?_
    refine x_seq ?_
    refine x_block ?_
    refine x_seq ?_
    refine x_region ?_
    refine x_val (.int .i64 ((k : Nat) : Int)) (by kernel_rfl) rfl (by kernel_rfl) ?_
    refine x_val (.int .i64 ((k : Nat) : Int)) (by kernel_rfl) rfl (by kernel_rfl) ?_
    refine x_nil ?_
    refine x_then ?_
    refine x_seq ?_
    refine x_region ?_
    refine x_val (.func (.func 166) #[] #[.pointer (some ⟨q, 0, none⟩)]) (by kernel_rfl) rfl (by kernel_rfl) ?_
    refine x_val (.slice ad n c) (by kernel_rfl) rfl (by kernel_rfl) ?_
    refine x_val (.int .i64 ((k : Nat) : Int)) (by kernel_rfl) rfl (by kernel_rfl) ?_
    obtain ⟨ga, oa, had, hcell⟩ := hA (by omega)
    refine x_ixO (t := 145) had k n c 86 2 (oa + k * 2) (by omega) (by omega) (by kernel_rfl) (by kernel_rfl) (by kernel_rfl) rfl (by kernel_rfl) ?_
    refine x_loadcn (t := 86) ga (oa + k * 2) [.int .i64 ((l.getD k (0, 0)).1), .int .i64 ((l.getD k (0, 0)).2)] (hcell _ H.below k (by omega)) (by kernel_rfl) rfl (by kernel_rfl) (by kernel_rfl) ?_
    refine x_callB (.bool (!(decide (RB E (l.getD k (0, 0)))))) H (by kernel_rfl) rfl (by kernel_rfl) (all1 (l.getD k (0, 0)).1 (l.getD k (0, 0)).2 hr _ (H.ro R0)) ?_
    clear H
    intro v2 H
    refine x_nil ?_
    refine x_then ?_
    cases h2 : decide (RB E (l.getD k (0, 0)))
    · skip
      have h2p := of_decide_eq_false h2
      refine x_t (by kernel_rfl) ?_
      refine x_seq ?_
      refine x_region ?_
      refine x_val (.int .i64 ((k : Nat) : Int)) (by kernel_rfl) rfl (by kernel_rfl) ?_
      refine x_val (.int .i64 ((k : Nat) : Int)) (by kernel_rfl) rfl (by kernel_rfl) ?_
      refine x_nil ?_
      refine x_then ?_
      refine x_retc ?_
      refine x_blk_ret ?_
      refine x_then_ret ?_
      refine x_then_ret ?_
      refine x_blk_ret ?_
      refine x_then_ret ?_
      refine x_ret (.int .i64 ((k : Nat) : Int)) (by kernel_rfl) (by kernel_rfl) ?_
      refine ⟨_, rfl, ?_, H.below⟩
      constructor
      · intro z; exfalso; omega
      · intro z; exfalso; have z2 := z k (by omega); have z3 := h2; simp only [Bool.not_eq_true', decide_eq_false_iff_not] at z3; exact z3 z2
    · skip
      have h2p := of_decide_eq_true h2
      refine x_f (by kernel_rfl) ?_
      refine x_skipc ?_
      refine x_blk ?_
      refine x_then ?_
      refine x_region ?_
      refine x_ar (((k : Nat) : Int) + 1) ⟨by omega, by omega⟩ (by kernel_rfl) rfl (by kernel_rfl) ?_
      refine x_val (.int .i64 (((k : Nat) : Int) + 1)) (by kernel_rfl) rfl (by kernel_rfl) ?_
      refine x_nil ?_
      refine x_then ?_
      exact ⟨(k + 1), (by omega), (nthV [(uf1 0), .int .i64 ((k : Nat) : Int), .bool true, .int .i64 ((k : Nat) : Int), .func (.func 166) #[] #[.pointer (some ⟨q, 0, none⟩)], .slice ad n c, .int .i64 ((k : Nat) : Int), .pointer (some ⟨ga, oa + k * 2, none⟩), .agg #[.int .i64 ((l.getD k (0, 0)).1), .int .i64 ((l.getD k (0, 0)).2)], .bool false, (uf1 10), .int .i64 (((k : Nat) : Int) + 1)]), (by kernel_rfl), H, (by omega), (fun i hi => by by_cases e : i = k; (subst e; have z := h2; simp only [Bool.not_eq_false', decide_eq_true_eq] at z; exact z); exact r2 i (by omega))⟩

set_option maxRecDepth 100000 in
set_option maxHeartbeats 4000000 in
theorem CtC {q : Nat} {L E : Int} (ad : Option Addr) (n c : Nat) (l : List Buk) (hr : RR L E) (hn : n ≤ 4096) (w0 : World) (hA : RAt bukL 2 (0, 0) w0 ad n l) (hR : Ro w0 [.blk q #[.int .i64 L, .int .i64 E] 78]) :
    Calls Try.prog 165 #[.slice ad n c, .func (.func 166) #[] #[.pointer (some ⟨q, 0, none⟩)]] w0 fun e w' => ∃ z : Bool, e = .returned (.bool z) ∧ (z = false ↔ AllB E l n) ∧ Below w0.heap.size w0 w' := by
  refine x_enter Try.func165 rfl #[.slice ad n c, .func (.func 166) #[] #[.pointer (some ⟨q, 0, none⟩)], undef, undef, undef, undef, undef, undef, undef] (by kernel_rfl) ?_
  have H := Hs.nil w0
  have R0 := hR
  refine x_seq ?_
  refine x_region ?_
  refine x_val (.bool false) (by kernel_rfl) rfl (by kernel_rfl) ?_
  refine x_nil ?_
  refine x_then ?_
  refine x_seq ?_
  refine x_region ?_
  refine x_val (.slice ad n c) (by kernel_rfl) rfl (by kernel_rfl) ?_
  refine x_val (.func (.func 166) #[] #[.pointer (some ⟨q, 0, none⟩)]) (by kernel_rfl) rfl (by kernel_rfl) ?_
  refine x_call (by kernel_rfl) rfl (by kernel_rfl) (IxC ad n c l hr hn _ (hA.at H.below) (H.ro R0)) ?_
  rintro _ v1 ⟨z, rfl, hz, hB⟩
  refine ⟨_, rfl, ?_⟩
  replace H := H.via hB
  clear hB
  refine x_val (.bool (decide (0 ≤ z))) (by kernel_rfl) rfl (by kernel_rfl) ?_
  refine x_val (.bool (decide (0 ≤ z))) (by kernel_rfl) rfl (by kernel_rfl) ?_
  refine x_nil ?_
  refine x_then ?_
  refine x_retc ?_
  refine x_ret (.bool (decide (0 ≤ z))) (by kernel_rfl) (by kernel_rfl) ?_
  refine ⟨_, rfl, ?_, H.below⟩
  rw [← hz]
  simp

set_option maxRecDepth 100000 in
set_option maxHeartbeats 4000000 in
theorem all_any (L E : Int) (ad : Option Addr) (n c : Nat) (l : List Buk) (hr : RR L E) (hn : n ≤ 4096) (w0 : World) (hA : RAt bukL 2 (0, 0) w0 ad n l) :
    Calls Try.prog 136 #[.slice ad n c, .agg #[.int .i64 L, .int .i64 E]] w0 fun e w' => ∃ z : Bool, e = .returned (.bool z) ∧ (z = true ↔ AllB E l n) ∧ Below w0.heap.size w0 w' := by
  refine x_enter Try.func136 rfl #[.slice ad n c, .agg #[.int .i64 L, .int .i64 E], undef, undef, undef, undef, undef, undef, undef] (by kernel_rfl) ?_
  have H := Hs.nil w0
  refine x_seq ?_
  refine x_region ?_
  refine x_box H #[.int .i64 L, .int .i64 E] 78 (by kernel_rfl) rfl (by kernel_rfl) ?_
  clear H
  intro v1 g1 H
  refine x_val (.bool false) (by kernel_rfl) rfl (by kernel_rfl) ?_
  refine x_nil ?_
  refine x_then ?_
  refine x_seq ?_
  refine x_region ?_
  refine x_val (.slice ad n c) (by kernel_rfl) rfl (by kernel_rfl) ?_
  refine x_val (.func (.func 166) #[] #[.pointer (some ⟨g1, 0, none⟩)]) (by kernel_rfl) rfl (by kernel_rfl) ?_
  refine x_call (by kernel_rfl) rfl (by kernel_rfl) (CtC ad n c l hr hn _ (hA.at H.below) (H.roOf [0] [.blk g1 #[.int .i64 L, .int .i64 E] 78] (by kernel_rfl))) ?_
  rintro _ v2 ⟨z, rfl, hz, hB⟩
  refine ⟨_, rfl, ?_⟩
  replace H := H.via hB
  clear hB
  refine x_val (.bool (!z)) (by kernel_rfl) rfl (by kernel_rfl) ?_
  refine x_val (.bool (!z)) (by kernel_rfl) rfl (by kernel_rfl) ?_
  refine x_nil ?_
  refine x_then ?_
  refine x_retc ?_
  refine x_ret (.bool (!z)) (by kernel_rfl) (by kernel_rfl) ?_
  refine ⟨_, rfl, ?_, H.below⟩
  rw [← hz]
  simp

/-- The pages of a state, with their buckets: the first so many. -/
def zipT (lP : List Int) (lB : List Buk) : Nat → List PairB
  | 0 => []
  | k + 1 => zipT lP lB k ++ [(lP.getD k 0, lB.getD k (0, 0))]
theorem zipT_len (lP : List Int) (lB : List Buk) : ∀ k, (zipT lP lB k).length = k
  | 0 => rfl
  | k + 1 => by rw [zipT, List.length_append, zipT_len lP lB k]; rfl
theorem zipT_mem (lP : List Int) (lB : List Buk) (p : Int) : ∀ k, p ∈ (zipT lP lB k).map Prod.fst ↔ ∃ j, j < k ∧ lP.getD j 0 = p
  | 0 => by simp [zipT]
  | k + 1 => by
    rw [zipT, List.map_append, List.mem_append, zipT_mem lP lB p k]
    simp only [List.map_cons, List.map_nil, List.mem_singleton]
    constructor
    · rintro (⟨j, h1, h2⟩ | h)
      · exact ⟨j, by omega, h2⟩
      · exact ⟨k, by omega, h.symm⟩
    · rintro ⟨j, h1, h2⟩
      by_cases e : j = k
      · subst e; exact .inr h2.symm
      · exact .inl ⟨j, by omega, h2⟩
theorem zipT_has {lP : List Int} {lB : List Buk} {p : Int} {k : Nat} : fkB (zipT lP lB k) p < (zipT lP lB k).length ↔ ∃ j, j < k ∧ lP.getD j 0 = p := by
  rw [← mem_fk, zipT_mem]
theorem zipT_put {lP : List Int} {lB : List Buk} {k room : Nat} (hk : k < room) (h : ¬ fkB (zipT lP lB k) (lP.getD k 0) < (zipT lP lB k).length) : (putB room (zipT lP lB k) (lP.getD k 0) (lB.getD k (0, 0))) = (zipT lP lB (k + 1), 0, false) := by
  unfold putB
  rw [if_neg h, if_pos (by rw [zipT_len]; exact hk)]; rfl
/-- A state may be. -/
structure FitT (room : Nat) (rE pE : Int) (lR : List Buk) (lP : List Int) (lB : List Buk) (nR nP nB : Nat) : Prop where
  r : 1 ≤ nR ∧ nR ≤ 8
  n : nP = nB
  m : nP ≤ room
  a : AllB rE lR nR
  b : AllB pE lB nB
  u : ∀ j, j < nP → ∀ i, i < j → lP.getD i 0 ≠ lP.getD j 0

set_option maxRecDepth 100000 in
set_option maxHeartbeats 4000000 in
theorem TRes_rules (rL rE pL pE hv room : Int) (aR aP aB : Option Addr) (nR nP nB cR cP cB : Nat) (hb : ¬ Rul rL rE pL pE room hv) (w0 : World) :
    Calls Try.prog 77 #[.agg #[.int .i64 rL, .int .i64 rE, .int .i64 pL, .int .i64 pE, .int .i64 room, .int .i64 hv], .agg #[.slice aR nR cR, .slice aP nP cP, .slice aB nB cB]] w0 fun e w' => e = .returned (.tuple #[.pointer none, .int .i64 22]) ∧ Below w0.heap.size w0 w' := by
  refine x_enter Try.func77 rfl #[.agg #[.int .i64 rL, .int .i64 rE, .int .i64 pL, .int .i64 pE, .int .i64 room, .int .i64 hv], .agg #[.slice aR nR cR, .slice aP nP cP, .slice aB nB cB], undef, undef, undef, undef, undef, undef, undef, undef, undef, undef, undef, undef, undef, undef, undef, undef, undef, undef, undef, undef, undef, undef, undef, undef, undef, undef, undef, undef, undef, undef, undef, undef, undef, undef, undef, undef, undef, undef, undef, undef, undef, undef, undef, undef, undef, undef, undef, undef, undef, undef, undef, undef, undef, undef, undef, undef, undef, undef, undef, undef, undef, undef, undef, undef, undef, undef, undef, undef, undef, undef, undef, undef, undef, undef, undef, undef, undef, undef, undef, undef, undef, undef, undef, undef, undef, undef, undef, undef, undef, undef, undef, undef] (by kernel_rfl) ?_
  have H := Hs.nil w0
  refine x_seq ?_
  refine x_region ?_
  refine x_box H #[.int .i64 rL, .int .i64 rE, .int .i64 pL, .int .i64 pE, .int .i64 room, .int .i64 hv] 80 (by kernel_rfl) rfl (by kernel_rfl) ?_
  clear H
  intro v1 g1 H
  refine x_box H #[.slice aR nR cR, .slice aP nP cP, .slice aB nB cB] 147 (by kernel_rfl) rfl (by kernel_rfl) ?_
  clear H
  intro v2 g2 H
  refine x_val (.pointer none) (by kernel_rfl) rfl (by kernel_rfl) ?_
  refine x_val (.int .i64 0) (by kernel_rfl) rfl (by kernel_rfl) ?_
  refine x_nil ?_
  refine x_then ?_
  refine x_seq ?_
  refine x_region ?_
  refine x_loadn (t := 80) H 1 g1 0 _ _ [.int .i64 rL, .int .i64 rE, .int .i64 pL, .int .i64 pE, .int .i64 room, .int .i64 hv] rfl (by kernel_rfl) (by kernel_rfl) rfl (by kernel_rfl) (by kernel_rfl) ?_
  refine x_val (.pointer (some ⟨g2, 0, none⟩)) (by kernel_rfl) rfl (by kernel_rfl) ?_
  refine x_load1 H 0 g2 0 _ _ (.slice aR nR cR) rfl (by kernel_rfl) (by kernel_rfl) rfl (by kernel_rfl) ?_
  refine x_val (.int .i64 ((nR : Nat) : Int)) (by kernel_rfl) rfl (by kernel_rfl) ?_
  refine x_callB (.tuple #[.pointer none, .int .i64 22]) H (by kernel_rfl) rfl (by kernel_rfl) (TkNew_bad rL rE pL pE room hv ((nR : Nat) : Int) hb _) ?_
  clear H
  intro v3 H
  refine x_val (.tuple #[.pointer none, .int .i64 22]) (by kernel_rfl) rfl (by kernel_rfl) ?_
  refine x_val (.pointer none) (by kernel_rfl) rfl (by kernel_rfl) ?_
  refine x_val (.int .i64 22) (by kernel_rfl) rfl (by kernel_rfl) ?_
  refine x_val (.pointer none) (by kernel_rfl) rfl (by kernel_rfl) ?_
  refine x_val (.int .i64 22) (by kernel_rfl) rfl (by kernel_rfl) ?_
  refine x_nil ?_
  refine x_then ?_
  refine x_seq ?_
  refine x_seq ?_
  refine x_region ?_
  refine x_val (.int .i64 22) (by kernel_rfl) rfl (by kernel_rfl) ?_
  refine x_val (.bool false) (by kernel_rfl) rfl (by kernel_rfl) ?_
  refine x_nil ?_
  refine x_then ?_
  refine x_f (by kernel_rfl) ?_
  refine x_skipc ?_
  refine x_then ?_
  refine x_seq ?_
  refine x_seq ?_
  refine x_region ?_
  refine x_val (.int .i64 22) (by kernel_rfl) rfl (by kernel_rfl) ?_
  refine x_val (.bool true) (by kernel_rfl) rfl (by kernel_rfl) ?_
  refine x_nil ?_
  refine x_then ?_
  refine x_t (by kernel_rfl) ?_
  refine x_seq ?_
  refine x_region ?_
  refine x_val (.int .i64 22) (by kernel_rfl) rfl (by kernel_rfl) ?_
  refine x_val (.pointer none) (by kernel_rfl) rfl (by kernel_rfl) ?_
  refine x_val (.int .i64 22) (by kernel_rfl) rfl (by kernel_rfl) ?_
  refine x_nil ?_
  refine x_then ?_
  refine x_retc ?_
  refine x_then_ret ?_
  refine x_ret (.tuple #[.pointer none, .int .i64 22]) (by kernel_rfl) (by kernel_rfl) ?_
  exact ⟨rfl, H.below⟩

set_option maxRecDepth 100000 in
set_option maxHeartbeats 4000000 in
theorem TRes_rng (rL rE pL pE hv room : Int) (aR aP aB : Option Addr) (nR nP nB cR cP cB : Nat) (hb : Rul rL rE pL pE room hv) (hk : nR < 1 ∨ 8 < nR) (w0 : World) :
    Calls Try.prog 77 #[.agg #[.int .i64 rL, .int .i64 rE, .int .i64 pL, .int .i64 pE, .int .i64 room, .int .i64 hv], .agg #[.slice aR nR cR, .slice aP nP cP, .slice aB nB cB]] w0 fun e w' => e = .returned (.tuple #[.pointer none, .int .i64 10]) ∧ Below w0.heap.size w0 w' := by
  refine x_enter Try.func77 rfl #[.agg #[.int .i64 rL, .int .i64 rE, .int .i64 pL, .int .i64 pE, .int .i64 room, .int .i64 hv], .agg #[.slice aR nR cR, .slice aP nP cP, .slice aB nB cB], undef, undef, undef, undef, undef, undef, undef, undef, undef, undef, undef, undef, undef, undef, undef, undef, undef, undef, undef, undef, undef, undef, undef, undef, undef, undef, undef, undef, undef, undef, undef, undef, undef, undef, undef, undef, undef, undef, undef, undef, undef, undef, undef, undef, undef, undef, undef, undef, undef, undef, undef, undef, undef, undef, undef, undef, undef, undef, undef, undef, undef, undef, undef, undef, undef, undef, undef, undef, undef, undef, undef, undef, undef, undef, undef, undef, undef, undef, undef, undef, undef, undef, undef, undef, undef, undef, undef, undef, undef, undef, undef, undef] (by kernel_rfl) ?_
  have H := Hs.nil w0
  refine x_seq ?_
  refine x_region ?_
  refine x_box H #[.int .i64 rL, .int .i64 rE, .int .i64 pL, .int .i64 pE, .int .i64 room, .int .i64 hv] 80 (by kernel_rfl) rfl (by kernel_rfl) ?_
  clear H
  intro v1 g1 H
  refine x_box H #[.slice aR nR cR, .slice aP nP cP, .slice aB nB cB] 147 (by kernel_rfl) rfl (by kernel_rfl) ?_
  clear H
  intro v2 g2 H
  refine x_val (.pointer none) (by kernel_rfl) rfl (by kernel_rfl) ?_
  refine x_val (.int .i64 0) (by kernel_rfl) rfl (by kernel_rfl) ?_
  refine x_nil ?_
  refine x_then ?_
  refine x_seq ?_
  refine x_region ?_
  refine x_loadn (t := 80) H 1 g1 0 _ _ [.int .i64 rL, .int .i64 rE, .int .i64 pL, .int .i64 pE, .int .i64 room, .int .i64 hv] rfl (by kernel_rfl) (by kernel_rfl) rfl (by kernel_rfl) (by kernel_rfl) ?_
  refine x_val (.pointer (some ⟨g2, 0, none⟩)) (by kernel_rfl) rfl (by kernel_rfl) ?_
  refine x_load1 H 0 g2 0 _ _ (.slice aR nR cR) rfl (by kernel_rfl) (by kernel_rfl) rfl (by kernel_rfl) ?_
  refine x_val (.int .i64 ((nR : Nat) : Int)) (by kernel_rfl) rfl (by kernel_rfl) ?_
  refine x_callB (.tuple #[.pointer none, .int .i64 12]) H (by kernel_rfl) rfl (by kernel_rfl) (TkNew_rng rL rE pL pE room hv ((nR : Nat) : Int) hb (by omega) _) ?_
  clear H
  intro v3 H
  refine x_val (.tuple #[.pointer none, .int .i64 12]) (by kernel_rfl) rfl (by kernel_rfl) ?_
  refine x_val (.pointer none) (by kernel_rfl) rfl (by kernel_rfl) ?_
  refine x_val (.int .i64 12) (by kernel_rfl) rfl (by kernel_rfl) ?_
  refine x_val (.pointer none) (by kernel_rfl) rfl (by kernel_rfl) ?_
  refine x_val (.int .i64 12) (by kernel_rfl) rfl (by kernel_rfl) ?_
  refine x_nil ?_
  refine x_then ?_
  refine x_seq ?_
  refine x_seq ?_
  refine x_region ?_
  refine x_val (.int .i64 12) (by kernel_rfl) rfl (by kernel_rfl) ?_
  refine x_val (.bool true) (by kernel_rfl) rfl (by kernel_rfl) ?_
  refine x_nil ?_
  refine x_then ?_
  refine x_t (by kernel_rfl) ?_
  refine x_seq ?_
  refine x_region ?_
  refine x_val (.pointer none) (by kernel_rfl) rfl (by kernel_rfl) ?_
  refine x_val (.int .i64 10) (by kernel_rfl) rfl (by kernel_rfl) ?_
  refine x_nil ?_
  refine x_then ?_
  refine x_retc ?_
  refine x_then_ret ?_
  refine x_ret (.tuple #[.pointer none, .int .i64 10]) (by kernel_rfl) (by kernel_rfl) ?_
  exact ⟨rfl, H.below⟩

set_option maxRecDepth 100000 in
set_option maxHeartbeats 4000000 in
theorem TRes_yes (rL rE pL pE hv : Int) (room : Nat) (aR aP aB : Option Addr) (nR nP nB cR cP cB : Nat) (lR : List Buk) (lP : List Int) (lB : List Buk) (hlR : lR.length = nR) (hb : Rul rL rE pL pE ((room : Nat) : Int) hv) (hn1 : 1 ≤ nR) (hn2 : nR ≤ 8) (hnP : nP ≤ 4096) (hnB : nB ≤ 4096) (hf : FitT room rE pE lR lP lB nR nP nB) (w0 : World) (hAR : RAt bukL 2 (0, 0) w0 aR nR lR) (hAP : RAt intL 1 0 w0 aP nP lP) (hAB : RAt bukL 2 (0, 0) w0 aB nB lB) :
    Calls Try.prog 77 #[.agg #[.int .i64 rL, .int .i64 rE, .int .i64 pL, .int .i64 pE, .int .i64 ((room : Nat) : Int), .int .i64 hv], .agg #[.slice aR nR cR, .slice aP nP cP, .slice aB nB cB]] w0 fun e w' => ∃ p gr t sv, e = .returned (.tuple #[.pointer (some ⟨p, 0, none⟩), .int .i64 0]) ∧ Hs [] w0 w' [.blk p #[.int .i64 rL, .int .i64 rE, .int .i64 pL, .int .i64 pE, .int .i64 ((room : Nat) : Int), .int .i64 hv, .slice (some ⟨gr, 0, none⟩) nR nR, .pointer (some ⟨t, 0, none⟩)] 187, .row (.slice (some ⟨gr, 0, none⟩) nR nR) 86 2 nR (List.flatMap bukL lR), .blk t #[sv, .int .i64 ((room : Nat) : Int), .func (.func 103) #[] #[]] 228, .row (sv) 230 3 (List.length (zipT lP lB nP)) (List.flatMap pairLB (zipT lP lB nP))] := by
  refine x_enter Try.func77 rfl #[.agg #[.int .i64 rL, .int .i64 rE, .int .i64 pL, .int .i64 pE, .int .i64 ((room : Nat) : Int), .int .i64 hv], .agg #[.slice aR nR cR, .slice aP nP cP, .slice aB nB cB], undef, undef, undef, undef, undef, undef, undef, undef, undef, undef, undef, undef, undef, undef, undef, undef, undef, undef, undef, undef, undef, undef, undef, undef, undef, undef, undef, undef, undef, undef, undef, undef, undef, undef, undef, undef, undef, undef, undef, undef, undef, undef, undef, undef, undef, undef, undef, undef, undef, undef, undef, undef, undef, undef, undef, undef, undef, undef, undef, undef, undef, undef, undef, undef, undef, undef, undef, undef, undef, undef, undef, undef, undef, undef, undef, undef, undef, undef, undef, undef, undef, undef, undef, undef, undef, undef, undef, undef, undef, undef, undef, undef] (by kernel_rfl) ?_
  have H := Hs.nil w0
  refine x_seq ?_
  refine x_region ?_
  refine x_box H #[.int .i64 rL, .int .i64 rE, .int .i64 pL, .int .i64 pE, .int .i64 ((room : Nat) : Int), .int .i64 hv] 80 (by kernel_rfl) rfl (by kernel_rfl) ?_
  clear H
  intro v1 g1 H
  refine x_box H #[.slice aR nR cR, .slice aP nP cP, .slice aB nB cB] 147 (by kernel_rfl) rfl (by kernel_rfl) ?_
  clear H
  intro v2 g2 H
  refine x_val (.pointer none) (by kernel_rfl) rfl (by kernel_rfl) ?_
  refine x_val (.int .i64 0) (by kernel_rfl) rfl (by kernel_rfl) ?_
  refine x_nil ?_
  refine x_then ?_
  refine x_seq ?_
  refine x_region ?_
  refine x_loadn (t := 80) H 1 g1 0 _ _ [.int .i64 rL, .int .i64 rE, .int .i64 pL, .int .i64 pE, .int .i64 ((room : Nat) : Int), .int .i64 hv] rfl (by kernel_rfl) (by kernel_rfl) rfl (by kernel_rfl) (by kernel_rfl) ?_
  refine x_val (.pointer (some ⟨g2, 0, none⟩)) (by kernel_rfl) rfl (by kernel_rfl) ?_
  refine x_load1 H 0 g2 0 _ _ (.slice aR nR cR) rfl (by kernel_rfl) (by kernel_rfl) rfl (by kernel_rfl) ?_
  refine x_val (.int .i64 ((nR : Nat) : Int)) (by kernel_rfl) rfl (by kernel_rfl) ?_
  refine x_call (by kernel_rfl) rfl (by kernel_rfl) (TkNew_yes rL rE pL pE hv room nR hb hn1 hn2 _) ?_
  rintro _ v3 ⟨p, gr, t, rfl, hN'⟩
  refine ⟨_, rfl, ?_⟩
  replace H := H.more hN'
  clear hN'
  replace H : Hs [] w0 _ [.blk p #[.int .i64 rL, .int .i64 rE, .int .i64 pL, .int .i64 pE, .int .i64 ((room : Nat) : Int), .int .i64 hv, .slice (some ⟨gr, 0, none⟩) nR nR, .pointer (some ⟨t, 0, none⟩)] 187, .row (.slice (some ⟨gr, 0, none⟩) nR nR) 86 2 nR (List.flatMap bukL (List.replicate nR (0, 0))), .blk t #[.slice none 0 0, .int .i64 ((room : Nat) : Int), .func (.func 103) #[] #[]] 228, .row (.slice none 0 0) 230 3 (List.length ([] : List PairB)) (List.flatMap pairLB ([] : List PairB)), .blk g2 #[.slice aR nR cR, .slice aP nP cP, .slice aB nB cB] 147, .blk g1 #[.int .i64 rL, .int .i64 rE, .int .i64 pL, .int .i64 pE, .int .i64 ((room : Nat) : Int), .int .i64 hv] 80] := H
  have hb' := hb
  obtain ⟨hb1, hb2, hb3, hb4⟩ := hb'
  refine x_val (.tuple #[.pointer (some ⟨p, 0, none⟩), .int .i64 0]) (by kernel_rfl) rfl (by kernel_rfl) ?_
  refine x_val (.pointer (some ⟨p, 0, none⟩)) (by kernel_rfl) rfl (by kernel_rfl) ?_
  refine x_val (.int .i64 0) (by kernel_rfl) rfl (by kernel_rfl) ?_
  refine x_val (.pointer (some ⟨p, 0, none⟩)) (by kernel_rfl) rfl (by kernel_rfl) ?_
  refine x_val (.int .i64 0) (by kernel_rfl) rfl (by kernel_rfl) ?_
  refine x_nil ?_
  refine x_then ?_
  refine x_seq ?_
  refine x_seq ?_
  refine x_region ?_
  refine x_val (.int .i64 0) (by kernel_rfl) rfl (by kernel_rfl) ?_
  refine x_val (.bool false) (by kernel_rfl) rfl (by kernel_rfl) ?_
  refine x_nil ?_
  refine x_then ?_
  refine x_f (by kernel_rfl) ?_
  refine x_skipc ?_
  refine x_then ?_
  refine x_seq ?_
  refine x_seq ?_
  refine x_region ?_
  refine x_val (.int .i64 0) (by kernel_rfl) rfl (by kernel_rfl) ?_
  refine x_val (.bool false) (by kernel_rfl) rfl (by kernel_rfl) ?_
  refine x_nil ?_
  refine x_then ?_
  refine x_f (by kernel_rfl) ?_
  refine x_skipc ?_
  refine x_then ?_
  refine x_seq ?_
  refine x_seq ?_
  refine x_region ?_
  refine x_val (.pointer (some ⟨g2, 0, none⟩)) (by kernel_rfl) rfl (by kernel_rfl) ?_
  refine x_load1 H 4 g2 0 _ _ (.slice aR nR cR) rfl (by kernel_rfl) (by kernel_rfl) rfl (by kernel_rfl) ?_
  refine x_val (.pointer (some ⟨g1, 0, none⟩)) (by kernel_rfl) rfl (by kernel_rfl) ?_
  refine x_loadn (t := 78) H 5 g1 0 _ _ [.int .i64 rL, .int .i64 rE] rfl (by kernel_rfl) (by kernel_rfl) rfl (by kernel_rfl) (by kernel_rfl) ?_
  refine x_call (by kernel_rfl) rfl (by kernel_rfl) (all_any rL rE aR nR cR lR hb1 (by omega) _ (hAR.at H.below)) ?_
  rintro _ v4 ⟨zR, rfl, hzR, hB⟩
  refine ⟨_, rfl, ?_⟩
  replace H := H.via hB
  clear hB
  refine x_val (.bool (!zR)) (by kernel_rfl) rfl (by kernel_rfl) ?_
  refine x_val (.bool (!zR)) (by kernel_rfl) rfl (by kernel_rfl) ?_
  cases h1 : zR
  · skip
    exact absurd (hzR.2 hf.a) (by rw [h1]; decide)
  · skip
    refine x_val (.pointer (some ⟨g2, 2, none⟩)) (by kernel_rfl) rfl (by kernel_rfl) ?_
    refine x_load1 H 4 g2 2 _ _ (.slice aB nB cB) rfl (by kernel_rfl) (by kernel_rfl) rfl (by kernel_rfl) ?_
    refine x_val (.pointer (some ⟨g1, 2, none⟩)) (by kernel_rfl) rfl (by kernel_rfl) ?_
    refine x_loadn (t := 78) H 5 g1 2 _ _ [.int .i64 pL, .int .i64 pE] rfl (by kernel_rfl) (by kernel_rfl) rfl (by kernel_rfl) (by kernel_rfl) ?_
    refine x_call (by kernel_rfl) rfl (by kernel_rfl) (all_any pL pE aB nB cB lB hb2 (by omega) _ (hAB.at H.below)) ?_
    rintro _ v5 ⟨zB, rfl, hzB, hB⟩
    refine ⟨_, rfl, ?_⟩
    replace H := H.via hB
    clear hB
    refine x_val (.bool (!zB)) (by kernel_rfl) rfl (by kernel_rfl) ?_
    refine x_val (.bool (!zB)) (by kernel_rfl) rfl (by kernel_rfl) ?_
    refine x_val (.bool (!zB)) (by kernel_rfl) rfl (by kernel_rfl) ?_
    cases h2 : zB
    · skip
      exact absurd (hzB.2 hf.b) (by rw [h2]; decide)
    · skip
      refine x_val (.pointer (some ⟨g2, 1, none⟩)) (by kernel_rfl) rfl (by kernel_rfl) ?_
      refine x_load1 H 4 g2 1 _ _ (.slice aP nP cP) rfl (by kernel_rfl) (by kernel_rfl) rfl (by kernel_rfl) ?_
      refine x_val (.int .i64 ((nP : Nat) : Int)) (by kernel_rfl) rfl (by kernel_rfl) ?_
      refine x_val (.pointer (some ⟨g2, 2, none⟩)) (by kernel_rfl) rfl (by kernel_rfl) ?_
      refine x_load1 H 4 g2 2 _ _ (.slice aB nB cB) rfl (by kernel_rfl) (by kernel_rfl) rfl (by kernel_rfl) ?_
      refine x_val (.int .i64 ((nB : Nat) : Int)) (by kernel_rfl) rfl (by kernel_rfl) ?_
      refine x_val (.bool (!(decide (((nP : Nat) : Int) = ((nB : Nat) : Int))))) (by kernel_rfl) rfl (by kernel_rfl) ?_
      refine x_val (.bool (!(decide (((nP : Nat) : Int) = ((nB : Nat) : Int))))) (by kernel_rfl) rfl (by kernel_rfl) ?_
      refine x_val (.bool (!(decide (((nP : Nat) : Int) = ((nB : Nat) : Int))))) (by kernel_rfl) rfl (by kernel_rfl) ?_
      cases h3 : decide (((nP : Nat) : Int) = ((nB : Nat) : Int))
      · skip
        have h3p := of_decide_eq_false h3
        exact absurd hf.n (by omega)
      · skip
        have h3p := of_decide_eq_true h3
        refine x_val (.pointer (some ⟨g2, 1, none⟩)) (by kernel_rfl) rfl (by kernel_rfl) ?_
        refine x_load1 H 4 g2 1 _ _ (.slice aP nP cP) rfl (by kernel_rfl) (by kernel_rfl) rfl (by kernel_rfl) ?_
        refine x_val (.int .i64 ((nP : Nat) : Int)) (by kernel_rfl) rfl (by kernel_rfl) ?_
        refine x_val (.pointer (some ⟨g1, 4, none⟩)) (by kernel_rfl) rfl (by kernel_rfl) ?_
        refine x_load1 H 5 g1 4 _ _ (.int .i64 ((room : Nat) : Int)) rfl (by kernel_rfl) (by kernel_rfl) rfl (by kernel_rfl) ?_
        refine x_val (.bool (decide (((room : Nat) : Int) < ((nP : Nat) : Int)))) (by kernel_rfl) rfl (by kernel_rfl) ?_
        refine x_val (.bool (decide (((room : Nat) : Int) < ((nP : Nat) : Int)))) (by kernel_rfl) rfl (by kernel_rfl) ?_
        refine x_nil ?_
        refine x_then ?_
        cases h4 : decide (((room : Nat) : Int) < ((nP : Nat) : Int))
        · skip
          have h4p := of_decide_eq_false h4
          refine x_f (by kernel_rfl) ?_
          refine x_skipc ?_
          refine x_then ?_
          refine x_seq ?_
          refine x_region_head 6 (fun w' => Hs [] w0 w' [.blk p #[.int .i64 rL, .int .i64 rE, .int .i64 pL, .int .i64 pE, .int .i64 ((room : Nat) : Int), .int .i64 hv, .slice (some ⟨gr, 0, none⟩) nR nR, .pointer (some ⟨t, 0, none⟩)] 187, .row (.slice (some ⟨gr, 0, none⟩) nR nR) 86 2 nR (List.flatMap bukL (List.replicate nR (0, 0))), .blk t #[.slice none 0 0, .int .i64 ((room : Nat) : Int), .func (.func 103) #[] #[]] 228, .row (.slice none 0 0) 230 3 (List.length ([] : List PairB)) (List.flatMap pairLB ([] : List PairB)), .blk g2 #[.slice aR nR cR, .slice aP nP cP, .slice aB nB cB] 147, .blk g1 #[.int .i64 rL, .int .i64 rE, .int .i64 pL, .int .i64 pE, .int .i64 ((room : Nat) : Int), .int .i64 hv] 80]) (by kernel_rfl) (by kernel_rfl) (by kernel_rfl) H.drew ?_
          simp only [List.take_succ_cons, List.take_zero, List.drop_succ_cons, List.drop_zero]
          refine q_val (.pointer (some ⟨p, 0, none⟩)) (by kernel_rfl) (fun _ => by kernel_rfl) ?_
          refine q_val (.pointer (some ⟨p, 0, none⟩)) (by kernel_rfl) (fun _ => by kernel_rfl) ?_
          refine q_val (.pointer (some ⟨p, 6, none⟩)) (by kernel_rfl) (fun _ => by kernel_rfl) ?_
          refine q_load1 0 p 6 #[.int .i64 rL, .int .i64 rE, .int .i64 pL, .int .i64 pE, .int .i64 ((room : Nat) : Int), .int .i64 hv, .slice (some ⟨gr, 0, none⟩) nR nR, .pointer (some ⟨t, 0, none⟩)] 187 (.slice (some ⟨gr, 0, none⟩) nR nR) (by kernel_rfl) (by kernel_rfl) (by kernel_rfl) (fun _ => by kernel_rfl) ?_
          refine q_val (.pointer (some ⟨g2, 0, none⟩)) (by kernel_rfl) (fun _ => by kernel_rfl) ?_
          refine q_load1 4 g2 0 #[.slice aR nR cR, .slice aP nP cP, .slice aB nB cB] 147 (.slice aR nR cR) (by kernel_rfl) (by kernel_rfl) (by kernel_rfl) (fun _ => by kernel_rfl) ?_
          refine q_nil ?_
          clear H
          intro v6 H
          refine x_copyAll H 1 145 145 86 2 gr nR nR (List.flatMap bukL (List.replicate nR (0, 0))) (List.flatMap bukL lR) (.slice aR nR cR) [.blk p #[.int .i64 rL, .int .i64 rE, .int .i64 pL, .int .i64 pE, .int .i64 ((room : Nat) : Int), .int .i64 hv, .slice (some ⟨gr, 0, none⟩) nR nR, .pointer (some ⟨t, 0, none⟩)] 187, .row (.slice (some ⟨gr, 0, none⟩) nR nR) 86 2 nR (List.flatMap bukL lR), .blk t #[.slice none 0 0, .int .i64 ((room : Nat) : Int), .func (.func 103) #[] #[]] 228, .row (.slice none 0 0) 230 3 (List.length ([] : List PairB)) (List.flatMap pairLB ([] : List PairB)), .blk g2 #[.slice aR nR cR, .slice aP nP cP, .slice aB nB cB] 147, .blk g1 #[.int .i64 rL, .int .i64 rE, .int .i64 pL, .int .i64 pE, .int .i64 ((room : Nat) : Int), .int .i64 hv] 80] (by kernel_rfl) (hAR.src bukLen hlR H.below (by omega)) (by kernel_rfl) (by kernel_rfl) (List.all_eq_true.2 (oneCellFlat bukOne _)) (by kernel_rfl) (by kernel_rfl) rfl (by kernel_rfl) ?_
          clear H
          intro v7 H
          refine x_nil ?_
          refine x_then ?_
          refine x_seq ?_
          refine x_seq ?_
          refine x_region ?_
          refine x_val (.pointer (some ⟨g2, 1, none⟩)) (by kernel_rfl) rfl (by kernel_rfl) ?_
          refine x_load1 H 4 g2 1 _ _ (.slice aP nP cP) rfl (by kernel_rfl) (by kernel_rfl) rfl (by kernel_rfl) ?_
          refine x_val (.int .i64 ((nP : Nat) : Int)) (by kernel_rfl) rfl (by kernel_rfl) ?_
          refine x_val (.int .i64 0) (by kernel_rfl) rfl (by kernel_rfl) ?_
          refine x_nil ?_
          refine x_frame' { tmps := #[.agg #[.int .i64 rL, .int .i64 rE, .int .i64 pL, .int .i64 pE, .int .i64 ((room : Nat) : Int), .int .i64 hv], .agg #[.slice aR nR cR, .slice aP nP cP, .slice aB nB cB], .pointer (some ⟨g1, 0, none⟩), .pointer (some ⟨g2, 0, none⟩), .pointer none, .int .i64 0, .pointer (some ⟨p, 0, none⟩), .int .i64 0, undef, undef, undef, undef, .tuple #[.pointer (some ⟨p, 0, none⟩), .int .i64 0], .agg #[.int .i64 rL, .int .i64 rE, .int .i64 pL, .int .i64 pE, .int .i64 ((room : Nat) : Int), .int .i64 hv], .pointer (some ⟨g2, 0, none⟩), .slice aR nR cR, .int .i64 ((nR : Nat) : Int), .tuple #[.pointer (some ⟨p, 0, none⟩), .int .i64 0], .pointer (some ⟨p, 0, none⟩), .int .i64 0, .int .i64 0, .bool false, .int .i64 0, .bool false, undef, .pointer (some ⟨g2, 0, none⟩), .slice aR nR cR, .pointer (some ⟨g1, 0, none⟩), .agg #[.int .i64 rL, .int .i64 rE], .bool true, .bool false, .bool false, .pointer (some ⟨g2, 2, none⟩), .slice aB nB cB, .pointer (some ⟨g1, 2, none⟩), .agg #[.int .i64 pL, .int .i64 pE], .bool true, .bool false, .bool false, .bool false, .pointer (some ⟨g2, 1, none⟩), .slice aP nP cP, .int .i64 ((nP : Nat) : Int), .pointer (some ⟨g2, 2, none⟩), .slice aB nB cB, .int .i64 ((nB : Nat) : Int), .bool false, .bool false, .bool false, .pointer (some ⟨g2, 1, none⟩), .slice aP nP cP, .int .i64 ((nP : Nat) : Int), .pointer (some ⟨g1, 4, none⟩), .int .i64 ((room : Nat) : Int), .bool false, .bool false, .pointer (some ⟨p, 0, none⟩), .pointer (some ⟨p, 0, none⟩), .pointer (some ⟨p, 6, none⟩), .slice (some ⟨gr, 0, none⟩) nR nR, .pointer (some ⟨g2, 0, none⟩), .slice aR nR cR, .int .i64 ((nR : Nat) : Int), .pointer (some ⟨g2, 1, none⟩), .slice aP nP cP, .int .i64 ((nP : Nat) : Int), .int .i64 0, undef, undef, undef, undef, undef, undef, undef, undef, undef, undef, undef, undef, undef, undef, undef, undef, undef, undef, undef, undef, undef, undef, undef, undef, undef, undef, undef], defers := [] } (by kernel_rfl) ?_
          refine x_then ?_
          refine x_block ?_
          replace H := H.pick [0, 1, 2, 3, 4, 5] [.blk p #[.int .i64 rL, .int .i64 rE, .int .i64 pL, .int .i64 pE, .int .i64 ((room : Nat) : Int), .int .i64 hv, .slice (some ⟨gr, 0, none⟩) nR nR, .pointer (some ⟨t, 0, none⟩)] 187, .row (.slice (some ⟨gr, 0, none⟩) nR nR) 86 2 nR (List.flatMap bukL lR), .blk t #[.slice none 0 0, .int .i64 ((room : Nat) : Int), .func (.func 103) #[] #[]] 228, .row (.slice none 0 0) 230 3 (List.length ([] : List PairB)) (List.flatMap pairLB ([] : List PairB)), .blk g2 #[.slice aR nR cR, .slice aP nP cP, .slice aB nB cB] 147, .blk g1 #[.int .i64 rL, .int .i64 rE, .int .i64 pL, .int .i64 pE, .int .i64 ((room : Nat) : Int), .int .i64 hv] 80] (by decide) (by kernel_rfl)
          refine x_loop (G := Nat × Value) (fun gh a w' => match gh with | (k, sv) => ∃ uf1 : Nat → Value, a = { tmps := #[.agg #[.int .i64 rL, .int .i64 rE, .int .i64 pL, .int .i64 pE, .int .i64 ((room : Nat) : Int), .int .i64 hv], .agg #[.slice aR nR cR, .slice aP nP cP, .slice aB nB cB], .pointer (some ⟨g1, 0, none⟩), .pointer (some ⟨g2, 0, none⟩), (uf1 0), (uf1 1), .pointer (some ⟨p, 0, none⟩), .int .i64 0, (uf1 2), (uf1 3), (uf1 4), (uf1 5), .tuple #[.pointer (some ⟨p, 0, none⟩), .int .i64 0], .agg #[.int .i64 rL, .int .i64 rE, .int .i64 pL, .int .i64 pE, .int .i64 ((room : Nat) : Int), .int .i64 hv], .pointer (some ⟨g2, 0, none⟩), .slice aR nR cR, .int .i64 ((nR : Nat) : Int), .tuple #[.pointer (some ⟨p, 0, none⟩), .int .i64 0], .pointer (some ⟨p, 0, none⟩), .int .i64 0, .int .i64 0, .bool false, .int .i64 0, .bool false, undef, .pointer (some ⟨g2, 0, none⟩), .slice aR nR cR, .pointer (some ⟨g1, 0, none⟩), .agg #[.int .i64 rL, .int .i64 rE], .bool true, .bool false, .bool false, .pointer (some ⟨g2, 2, none⟩), .slice aB nB cB, .pointer (some ⟨g1, 2, none⟩), .agg #[.int .i64 pL, .int .i64 pE], .bool true, .bool false, .bool false, .bool false, .pointer (some ⟨g2, 1, none⟩), .slice aP nP cP, .int .i64 ((nP : Nat) : Int), .pointer (some ⟨g2, 2, none⟩), .slice aB nB cB, .int .i64 ((nB : Nat) : Int), .bool false, .bool false, .bool false, .pointer (some ⟨g2, 1, none⟩), .slice aP nP cP, .int .i64 ((nP : Nat) : Int), .pointer (some ⟨g1, 4, none⟩), .int .i64 ((room : Nat) : Int), .bool false, .bool false, .pointer (some ⟨p, 0, none⟩), .pointer (some ⟨p, 0, none⟩), .pointer (some ⟨p, 6, none⟩), .slice (some ⟨gr, 0, none⟩) nR nR, .pointer (some ⟨g2, 0, none⟩), .slice aR nR cR, .int .i64 ((nR : Nat) : Int), .pointer (some ⟨g2, 1, none⟩), .slice aP nP cP, .int .i64 ((nP : Nat) : Int), .int .i64 ((k : Nat) : Int), (uf1 6), (uf1 7), (uf1 8), (uf1 9), (uf1 10), (uf1 11), (uf1 12), (uf1 13), (uf1 14), (uf1 15), (uf1 16), (uf1 17), (uf1 18), (uf1 19), (uf1 20), (uf1 21), (uf1 22), (uf1 23), (uf1 24), (uf1 25), (uf1 26), (uf1 27), (uf1 28), (uf1 29), (uf1 30), (uf1 31), undef], defers := [] } ∧ Hs [] w0 w' [.blk p #[.int .i64 rL, .int .i64 rE, .int .i64 pL, .int .i64 pE, .int .i64 ((room : Nat) : Int), .int .i64 hv, .slice (some ⟨gr, 0, none⟩) nR nR, .pointer (some ⟨t, 0, none⟩)] 187, .row (.slice (some ⟨gr, 0, none⟩) nR nR) 86 2 nR (List.flatMap bukL lR), .blk t #[sv, .int .i64 ((room : Nat) : Int), .func (.func 103) #[] #[]] 228, .row (sv) 230 3 (List.length (zipT lP lB k)) (List.flatMap pairLB (zipT lP lB k)), .blk g2 #[.slice aR nR cR, .slice aP nP cP, .slice aB nB cB] 147, .blk g1 #[.int .i64 rL, .int .i64 rE, .int .i64 pL, .int .i64 pE, .int .i64 ((room : Nat) : Int), .int .i64 hv] 80] ∧ (k ≤ nP) ∧ (∀ j, j < k → ∀ i, i < j → lP.getD i 0 ≠ lP.getD j 0)) (fun gh => match gh with | (k, sv) => nP - k) (0, .slice none 0 0) ⟨(nthV [.pointer none, .int .i64 0, undef, undef, undef, undef, undef, undef, undef, undef, undef, undef, undef, undef, undef, undef, undef, undef, undef, undef, undef, undef, undef, undef, undef, undef, undef, undef, undef, undef, undef, undef]), (by kernel_rfl), H, (Nat.zero_le _), (fun j hj => absurd hj (Nat.not_lt_zero _))⟩ ?_
          clear H
          rintro ⟨k, sv⟩ _ v8 ⟨uf1, rfl, H, r1, r2⟩
          have hzl := zipT_len lP lB k
          refine x_seq ?_
          refine x_region ?_
          refine x_val (.bool (decide (((k : Nat) : Int) < ((nP : Nat) : Int)))) (by kernel_rfl) rfl (by kernel_rfl) ?_
          refine x_nil ?_
          refine x_then ?_
          refine x_seq ?_
          cases h5 : decide (((k : Nat) : Int) < ((nP : Nat) : Int))
          · skip
            have h5p := of_decide_eq_false h5
            refine x_f (by kernel_rfl) ?_
            refine x_exit ?_
            refine x_then_exit ?_
            refine x_then_exit ?_
            refine x_blk_exit ?_
            refine x_then ?_
            refine x_seq ?_
            refine x_region ?_
            refine x_val (.pointer (some ⟨p, 0, none⟩)) (by kernel_rfl) rfl (by kernel_rfl) ?_
            refine x_val (.pointer (some ⟨p, 0, none⟩)) (by kernel_rfl) rfl (by kernel_rfl) ?_
            refine x_val (.int .i64 0) (by kernel_rfl) rfl (by kernel_rfl) ?_
            refine x_nil ?_
            refine x_then ?_
            refine x_retc ?_
            refine x_ret (.tuple #[.pointer (some ⟨p, 0, none⟩), .int .i64 0]) (by kernel_rfl) (by kernel_rfl) ?_
            replace H := H.pick [0, 1, 2, 3] [.blk p #[.int .i64 rL, .int .i64 rE, .int .i64 pL, .int .i64 pE, .int .i64 ((room : Nat) : Int), .int .i64 hv, .slice (some ⟨gr, 0, none⟩) nR nR, .pointer (some ⟨t, 0, none⟩)] 187, .row (.slice (some ⟨gr, 0, none⟩) nR nR) 86 2 nR (List.flatMap bukL lR), .blk t #[sv, .int .i64 ((room : Nat) : Int), .func (.func 103) #[] #[]] 228, .row (sv) 230 3 (List.length (zipT lP lB k)) (List.flatMap pairLB (zipT lP lB k))] (by decide) (by kernel_rfl)
            have hk : k = nP := by omega
            subst hk
            exact ⟨p, gr, t, sv, rfl, H⟩
          · skip
            have h5p := of_decide_eq_true h5
            refine x_t (by kernel_rfl) ?_
            refine x_skipc ?_
            refine x_then ?_
            refine x_seq ?_
            refine x_block ?_
            refine x_seq ?_
            refine x_region ?_
            refine x_val (.int .i64 ((k : Nat) : Int)) (by kernel_rfl) rfl (by kernel_rfl) ?_
            obtain ⟨gP, oP, hadP, hcP⟩ := hAP (by omega)
            refine x_ixO (t := 106) hadP k nP cP 3 1 (oP + k) (by omega) (by omega) (by kernel_rfl) (by kernel_rfl) (by kernel_rfl) rfl (by kernel_rfl) ?_
            refine x_loadc gP (oP + k) (.int .i64 (lP.getD k 0)) ((by simpa using hcP _ H.below k (by omega) 0 _ rfl)) (by kernel_rfl) rfl (by kernel_rfl) ?_
            refine x_val (.int .i64 ((k : Nat) : Int)) (by kernel_rfl) rfl (by kernel_rfl) ?_
            refine x_val (.int .i64 (lP.getD k 0)) (by kernel_rfl) rfl (by kernel_rfl) ?_
            refine x_nil ?_
            refine x_then ?_
            refine x_seq ?_
            refine x_seq ?_
            refine x_region ?_
            refine x_val (.pointer (some ⟨p, 0, none⟩)) (by kernel_rfl) rfl (by kernel_rfl) ?_
            refine x_val (.pointer (some ⟨p, 0, none⟩)) (by kernel_rfl) rfl (by kernel_rfl) ?_
            refine x_val (.pointer (some ⟨p, 7, none⟩)) (by kernel_rfl) rfl (by kernel_rfl) ?_
            refine x_load1 H 0 p 7 _ _ (.pointer (some ⟨t, 0, none⟩)) rfl (by kernel_rfl) (by kernel_rfl) rfl (by kernel_rfl) ?_
            refine x_val (.int .i64 (lP.getD k 0)) (by kernel_rfl) rfl (by kernel_rfl) ?_
            refine x_callB (.tuple #[.agg #[.int .i64 ((getB (zipT lP lB k) (lP.getD k 0)).1), .int .i64 ((getB (zipT lP lB k) (lP.getD k 0)).2)], .bool (decide (fkB (zipT lP lB k) (lP.getD k 0) < List.length (zipT lP lB k)))]) H (by kernel_rfl) rfl (by kernel_rfl) (Get_B (lP.getD k 0) (by omega) _ (H.roOf [2, 3] [.blk t #[sv, .int .i64 ((room : Nat) : Int), .func (.func 103) #[] #[]] 228, .row (sv) 230 3 (List.length (zipT lP lB k)) (List.flatMap pairLB (zipT lP lB k))] (by kernel_rfl))) ?_
            clear H
            intro v9 H
            refine x_val (.tuple #[.agg #[.int .i64 ((getB (zipT lP lB k) (lP.getD k 0)).1), .int .i64 ((getB (zipT lP lB k) (lP.getD k 0)).2)], .bool (decide (fkB (zipT lP lB k) (lP.getD k 0) < List.length (zipT lP lB k)))]) (by kernel_rfl) rfl (by kernel_rfl) ?_
            refine x_val (.agg #[.int .i64 ((getB (zipT lP lB k) (lP.getD k 0)).1), .int .i64 ((getB (zipT lP lB k) (lP.getD k 0)).2)]) (by kernel_rfl) rfl (by kernel_rfl) ?_
            refine x_val (.bool (decide (fkB (zipT lP lB k) (lP.getD k 0) < List.length (zipT lP lB k)))) (by kernel_rfl) rfl (by kernel_rfl) ?_
            refine x_box H #[.int .i64 0, .int .i64 0] 86 (by kernel_rfl) rfl (by kernel_rfl) ?_
            clear H
            intro v10 g3 H
            refine x_store (t := 86) (v := .agg #[.int .i64 ((getB (zipT lP lB k) (lP.getD k 0)).1), .int .i64 ((getB (zipT lP lB k) (lP.getD k 0)).2)]) H 0 g3 0 _ #[.int .i64 ((getB (zipT lP lB k) (lP.getD k 0)).1), .int .i64 ((getB (zipT lP lB k) (lP.getD k 0)).2)] 86 [.int .i64 ((getB (zipT lP lB k) (lP.getD k 0)).1), .int .i64 ((getB (zipT lP lB k) (lP.getD k 0)).2)] _ rfl rfl (by kernel_rfl) (by kernel_rfl) (by kernel_rfl) rfl (by kernel_rfl) (by kernel_rfl) (by kernel_rfl) (by kernel_rfl) ?_
            clear H
            intro v11 H
            refine x_val (.bool (decide (fkB (zipT lP lB k) (lP.getD k 0) < List.length (zipT lP lB k)))) (by kernel_rfl) rfl (by kernel_rfl) ?_
            refine x_nil ?_
            refine x_then ?_
            refine x_seq ?_
            refine x_region ?_
            refine x_val (.bool (decide (fkB (zipT lP lB k) (lP.getD k 0) < List.length (zipT lP lB k)))) (by kernel_rfl) rfl (by kernel_rfl) ?_
            refine x_nil ?_
            refine x_then ?_
            cases h6 : decide (fkB (zipT lP lB k) (lP.getD k 0) < List.length (zipT lP lB k))
            · skip
              have h6p := of_decide_eq_false h6
              refine x_f (by kernel_rfl) ?_
              refine x_skipc ?_
              refine x_then ?_
              refine x_region_s 11 (fun w' => Hs [] w0 w' [.blk g3 #[.int .i64 ((getB (zipT lP lB k) (lP.getD k 0)).1), .int .i64 ((getB (zipT lP lB k) (lP.getD k 0)).2)] 86, .blk p #[.int .i64 rL, .int .i64 rE, .int .i64 pL, .int .i64 pE, .int .i64 ((room : Nat) : Int), .int .i64 hv, .slice (some ⟨gr, 0, none⟩) nR nR, .pointer (some ⟨t, 0, none⟩)] 187, .row (.slice (some ⟨gr, 0, none⟩) nR nR) 86 2 nR (List.flatMap bukL lR), .blk g2 #[.slice aR nR cR, .slice aP nP cP, .slice aB nB cB] 147, .blk g1 #[.int .i64 rL, .int .i64 rE, .int .i64 pL, .int .i64 pE, .int .i64 ((room : Nat) : Int), .int .i64 hv] 80]) (fun w' => Hs [] w0 w' [.blk g3 #[.int .i64 ((getB (zipT lP lB k) (lP.getD k 0)).1), .int .i64 ((getB (zipT lP lB k) (lP.getD k 0)).2)] 86, .blk p #[.int .i64 rL, .int .i64 rE, .int .i64 pL, .int .i64 pE, .int .i64 ((room : Nat) : Int), .int .i64 hv, .slice (some ⟨gr, 0, none⟩) nR nR, .pointer (some ⟨t, 0, none⟩)] 187, .row (.slice (some ⟨gr, 0, none⟩) nR nR) 86 2 nR (List.flatMap bukL lR), .blk t #[sv, .int .i64 ((room : Nat) : Int), .func (.func 103) #[] #[]] 228, .row (sv) 230 3 (List.length (zipT lP lB k)) (List.flatMap pairLB (zipT lP lB k)), .blk g2 #[.slice aR nR cR, .slice aP nP cP, .slice aB nB cB] 147, .blk g1 #[.int .i64 rL, .int .i64 rE, .int .i64 pL, .int .i64 pE, .int .i64 ((room : Nat) : Int), .int .i64 hv] 80]) (by kernel_rfl) (by kernel_rfl) (by kernel_rfl) hsShut (fun _ h => h.pick [0, 1, 2, 5, 6] _ (by decide) (by kernel_rfl)) H.drew ?_
              obtain ⟨gB, oB, hadB, hcB⟩ := hAB (by have := hf.n; omega)
              refine s_quiet 0 rfl (by kernel_rfl) (y_val (.pointer (some ⟨p, 0, none⟩)) (by kernel_rfl) (fun _ => by kernel_rfl)) ?_
              refine s_quiet 1 rfl (by kernel_rfl) (y_val (.pointer (some ⟨p, 0, none⟩)) (by kernel_rfl) (fun _ => by kernel_rfl)) ?_
              refine s_quiet 2 rfl (by kernel_rfl) (y_val (.pointer (some ⟨p, 7, none⟩)) (by kernel_rfl) (fun _ => by kernel_rfl)) ?_
              refine s_quiet 3 rfl (by kernel_rfl) (y_load1 1 p 7 #[.int .i64 rL, .int .i64 rE, .int .i64 pL, .int .i64 pE, .int .i64 ((room : Nat) : Int), .int .i64 hv, .slice (some ⟨gr, 0, none⟩) nR nR, .pointer (some ⟨t, 0, none⟩)] 187 (.pointer (some ⟨t, 0, none⟩)) (by kernel_rfl) (by kernel_rfl) (by kernel_rfl) (fun _ => by kernel_rfl)) ?_
              refine s_quiet 4 rfl (by kernel_rfl) (y_val (.int .i64 (lP.getD k 0)) (by kernel_rfl) (fun _ => by kernel_rfl)) ?_
              refine s_quiet 5 rfl (by kernel_rfl) (y_val (.pointer (some ⟨g2, 2, none⟩)) (by kernel_rfl) (fun _ => by kernel_rfl)) ?_
              refine s_quiet 6 rfl (by kernel_rfl) (y_load1 3 g2 2 #[.slice aR nR cR, .slice aP nP cP, .slice aB nB cB] 147 (.slice aB nB cB) (by kernel_rfl) (by kernel_rfl) (by kernel_rfl) (fun _ => by kernel_rfl)) ?_
              refine s_quiet 7 rfl (by kernel_rfl) (y_val (.int .i64 ((k : Nat) : Int)) (by kernel_rfl) (fun _ => by kernel_rfl)) ?_
              refine s_quiet 8 rfl (by kernel_rfl) (y_ixO (t := 145) hadB k nB cB 86 2 (oB + k * 2) (by have := hf.n; omega) (by omega) (by kernel_rfl) (by kernel_rfl) (by kernel_rfl) (fun _ => by kernel_rfl)) ?_
              refine s_quiet 9 rfl (by kernel_rfl) (y_loadcn (t := 86) gB (oB + k * 2) [.int .i64 ((lB.getD k (0, 0)).1), .int .i64 ((lB.getD k (0, 0)).2)] (fun _ H => hcB _ H.below k (by have := hf.n; omega)) (by kernel_rfl) (by kernel_rfl) (by kernel_rfl)) ?_
              have hpt := zipT_put (lP := lP) (lB := lB) (show k < room by omega) h6p
              refine s_one 10 rfl (by kernel_rfl) rfl ?_
              clear H
              intro v12 H
              have hpt := zipT_put (lP := lP) (lB := lB) (show k < room by omega) h6p
              refine x_call (by kernel_rfl) rfl (by kernel_rfl) (Hs.useE (A := [.blk t #[sv, .int .i64 ((room : Nat) : Int), .func (.func 103) #[] #[]] 228, .row (sv) 230 3 (List.length (zipT lP lB k)) (List.flatMap pairLB (zipT lP lB k))]) (R := [.blk g3 #[.int .i64 ((getB (zipT lP lB k) (lP.getD k 0)).1), .int .i64 ((getB (zipT lP lB k) (lP.getD k 0)).2)] 86, .blk p #[.int .i64 rL, .int .i64 rE, .int .i64 pL, .int .i64 pE, .int .i64 ((room : Nat) : Int), .int .i64 hv, .slice (some ⟨gr, 0, none⟩) nR nR, .pointer (some ⟨t, 0, none⟩)] 187, .row (.slice (some ⟨gr, 0, none⟩) nR nR) 86 2 nR (List.flatMap bukL lR), .blk g2 #[.slice aR nR cR, .slice aP nP cP, .slice aB nB cB] 147, .blk g1 #[.int .i64 rL, .int .i64 rE, .int .i64 pL, .int .i64 pE, .int .i64 ((room : Nat) : Int), .int .i64 hv] 80]) (fun svp => [.blk t #[svp, .int .i64 ((room : Nat) : Int), .func (.func 103) #[] #[]] 228, .row (svp) 230 3 (List.length (zipT lP lB (k + 1))) (List.flatMap pairLB (zipT lP lB (k + 1)))]) (fun _ => .tuple #[.int .i64 0, .bool false]) (H.pick [3, 4, 0, 1, 2, 5, 6] _ (by decide) (by kernel_rfl)) (fun h => (by have q := Put_B (lP.getD k 0) (lB.getD k (0, 0)) (by omega) (by omega) (by omega) _ h; rw [hpt] at q; exact q))) ?_
              rintro _ v13 ⟨svp, rfl, H'⟩
              refine ⟨_, rfl, ?_⟩
              clear H
              have H : Hs [] w0 _ [.blk t #[svp, .int .i64 ((room : Nat) : Int), .func (.func 103) #[] #[]] 228, .row (svp) 230 3 (List.length (zipT lP lB (k + 1))) (List.flatMap pairLB (zipT lP lB (k + 1))), .blk g3 #[.int .i64 ((getB (zipT lP lB k) (lP.getD k 0)).1), .int .i64 ((getB (zipT lP lB k) (lP.getD k 0)).2)] 86, .blk p #[.int .i64 rL, .int .i64 rE, .int .i64 pL, .int .i64 pE, .int .i64 ((room : Nat) : Int), .int .i64 hv, .slice (some ⟨gr, 0, none⟩) nR nR, .pointer (some ⟨t, 0, none⟩)] 187, .row (.slice (some ⟨gr, 0, none⟩) nR nR) 86 2 nR (List.flatMap bukL lR), .blk g2 #[.slice aR nR cR, .slice aP nP cP, .slice aB nB cB] 147, .blk g1 #[.int .i64 rL, .int .i64 rE, .int .i64 pL, .int .i64 pE, .int .i64 ((room : Nat) : Int), .int .i64 hv] 80] := H'
              clear H'
              refine x_nil ?_
              refine x_then ?_
              refine ⟨fun w' => Hs [] w0 w' [.blk t #[svp, .int .i64 ((room : Nat) : Int), .func (.func 103) #[] #[]] 228, .row (svp) 230 3 (List.length (zipT lP lB (k + 1))) (List.flatMap pairLB (zipT lP lB (k + 1))), .blk g3 #[.int .i64 ((getB (zipT lP lB k) (lP.getD k 0)).1), .int .i64 ((getB (zipT lP lB k) (lP.getD k 0)).2)] 86, .blk p #[.int .i64 rL, .int .i64 rE, .int .i64 pL, .int .i64 pE, .int .i64 ((room : Nat) : Int), .int .i64 hv, .slice (some ⟨gr, 0, none⟩) nR nR, .pointer (some ⟨t, 0, none⟩)] 187, .row (.slice (some ⟨gr, 0, none⟩) nR nR) 86 2 nR (List.flatMap bukL lR), .blk g2 #[.slice aR nR cR, .slice aP nP cP, .slice aB nB cB] 147, .blk g1 #[.int .i64 rL, .int .i64 rE, .int .i64 pL, .int .i64 pE, .int .i64 ((room : Nat) : Int), .int .i64 hv] 80], fun w' => Hs [] w0 w' [.blk t #[svp, .int .i64 ((room : Nat) : Int), .func (.func 103) #[] #[]] 228, .row (svp) 230 3 (List.length (zipT lP lB (k + 1))) (List.flatMap pairLB (zipT lP lB (k + 1))), .blk g3 #[.int .i64 ((getB (zipT lP lB k) (lP.getD k 0)).1), .int .i64 ((getB (zipT lP lB k) (lP.getD k 0)).2)] 86, .blk p #[.int .i64 rL, .int .i64 rE, .int .i64 pL, .int .i64 pE, .int .i64 ((room : Nat) : Int), .int .i64 hv, .slice (some ⟨gr, 0, none⟩) nR nR, .pointer (some ⟨t, 0, none⟩)] 187, .row (.slice (some ⟨gr, 0, none⟩) nR nR) 86 2 nR (List.flatMap bukL lR), .blk g2 #[.slice aR nR cR, .slice aP nP cP, .slice aB nB cB] 147, .blk g1 #[.int .i64 rL, .int .i64 rE, .int .i64 pL, .int .i64 pE, .int .i64 ((room : Nat) : Int), .int .i64 hv] 80], H, hsShut, fun _ h => h.pick [0, 1, 2, 3, 4, 5, 6] _ (by decide) (by kernel_rfl), fun _ h => h.pick [2, 3, 4, 5, 6] _ (by decide) (by kernel_rfl), ?_⟩
              refine s_done (by kernel_rfl) ?_
              clear H
              intro v14 H
              refine x_blk ?_
              refine x_then ?_
              refine x_region ?_
              refine x_ar (((k : Nat) : Int) + 1) ⟨by omega, by omega⟩ (by kernel_rfl) rfl (by kernel_rfl) ?_
              refine x_val (.int .i64 (((k : Nat) : Int) + 1)) (by kernel_rfl) rfl (by kernel_rfl) ?_
              refine x_nil ?_
              refine x_then ?_
              replace H := H.pick [3, 4, 0, 1, 5, 6] [.blk p #[.int .i64 rL, .int .i64 rE, .int .i64 pL, .int .i64 pE, .int .i64 ((room : Nat) : Int), .int .i64 hv, .slice (some ⟨gr, 0, none⟩) nR nR, .pointer (some ⟨t, 0, none⟩)] 187, .row (.slice (some ⟨gr, 0, none⟩) nR nR) 86 2 nR (List.flatMap bukL lR), .blk t #[svp, .int .i64 ((room : Nat) : Int), .func (.func 103) #[] #[]] 228, .row (svp) 230 3 (List.length (zipT lP lB (k + 1))) (List.flatMap pairLB (zipT lP lB (k + 1))), .blk g2 #[.slice aR nR cR, .slice aP nP cP, .slice aB nB cB] 147, .blk g1 #[.int .i64 rL, .int .i64 rE, .int .i64 pL, .int .i64 pE, .int .i64 ((room : Nat) : Int), .int .i64 hv] 80] (by decide) (by kernel_rfl)
              exact ⟨(k + 1, svp), (by dsimp only; omega), (nthV [(uf1 0), (uf1 1), .int .i64 ((k : Nat) : Int), .int .i64 (lP.getD k 0), .pointer (some ⟨g3, 0, none⟩), .bool false, .bool true, .int .i64 ((k : Nat) : Int), .pointer (some ⟨gP, oP + k, none⟩), .int .i64 (lP.getD k 0), .tuple #[.agg #[.int .i64 ((getB (zipT lP lB k) (lP.getD k 0)).1), .int .i64 ((getB (zipT lP lB k) (lP.getD k 0)).2)], .bool false], .pointer (some ⟨p, 0, none⟩), .pointer (some ⟨p, 0, none⟩), .pointer (some ⟨p, 7, none⟩), .pointer (some ⟨t, 0, none⟩), .int .i64 (lP.getD k 0), .tuple #[.agg #[.int .i64 ((getB (zipT lP lB k) (lP.getD k 0)).1), .int .i64 ((getB (zipT lP lB k) (lP.getD k 0)).2)], .bool false], .agg #[.int .i64 ((getB (zipT lP lB k) (lP.getD k 0)).1), .int .i64 ((getB (zipT lP lB k) (lP.getD k 0)).2)], .bool false, .bool false, .pointer (some ⟨p, 0, none⟩), .pointer (some ⟨p, 0, none⟩), .pointer (some ⟨p, 7, none⟩), .pointer (some ⟨t, 0, none⟩), .int .i64 (lP.getD k 0), .pointer (some ⟨g2, 2, none⟩), .slice aB nB cB, .int .i64 ((k : Nat) : Int), .pointer (some ⟨gB, oB + k * 2, none⟩), .agg #[.int .i64 ((lB.getD k (0, 0)).1), .int .i64 ((lB.getD k (0, 0)).2)], .tuple #[.int .i64 0, .bool false], .int .i64 (((k : Nat) : Int) + 1)]), (by kernel_rfl), H, (by omega), (fun j hj i hi => by by_cases e : j = k; (subst e; intro e2; exact h6p (zipT_has.2 ⟨i, hi, e2⟩)); exact r2 j (by omega) i hi)⟩
            · skip
              have h6p := of_decide_eq_true h6
              exact absurd (zipT_has.1 h6p) (by rintro ⟨i, hi, e⟩; exact hf.u k (by omega) i hi e)
        · skip
          have h4p := of_decide_eq_true h4
          exact absurd hf.m (by omega)

set_option maxRecDepth 100000 in
set_option maxHeartbeats 4000000 in
theorem TRes_no (rL rE pL pE hv : Int) (room : Nat) (aR aP aB : Option Addr) (nR nP nB cR cP cB : Nat) (lR : List Buk) (lP : List Int) (lB : List Buk) (hlR : lR.length = nR) (hb : Rul rL rE pL pE ((room : Nat) : Int) hv) (hn1 : 1 ≤ nR) (hn2 : nR ≤ 8) (hnP : nP ≤ 4096) (hnB : nB ≤ 4096) (hf : ¬ FitT room rE pE lR lP lB nR nP nB) (w0 : World) (hAR : RAt bukL 2 (0, 0) w0 aR nR lR) (hAP : RAt intL 1 0 w0 aP nP lP) (hAB : RAt bukL 2 (0, 0) w0 aB nB lB) :
    Calls Try.prog 77 #[.agg #[.int .i64 rL, .int .i64 rE, .int .i64 pL, .int .i64 pE, .int .i64 ((room : Nat) : Int), .int .i64 hv], .agg #[.slice aR nR cR, .slice aP nP cP, .slice aB nB cB]] w0 fun e w' => e = .returned (.tuple #[.pointer none, .int .i64 10]) ∧ Below w0.heap.size w0 w' := by
  refine x_enter Try.func77 rfl #[.agg #[.int .i64 rL, .int .i64 rE, .int .i64 pL, .int .i64 pE, .int .i64 ((room : Nat) : Int), .int .i64 hv], .agg #[.slice aR nR cR, .slice aP nP cP, .slice aB nB cB], undef, undef, undef, undef, undef, undef, undef, undef, undef, undef, undef, undef, undef, undef, undef, undef, undef, undef, undef, undef, undef, undef, undef, undef, undef, undef, undef, undef, undef, undef, undef, undef, undef, undef, undef, undef, undef, undef, undef, undef, undef, undef, undef, undef, undef, undef, undef, undef, undef, undef, undef, undef, undef, undef, undef, undef, undef, undef, undef, undef, undef, undef, undef, undef, undef, undef, undef, undef, undef, undef, undef, undef, undef, undef, undef, undef, undef, undef, undef, undef, undef, undef, undef, undef, undef, undef, undef, undef, undef, undef, undef, undef] (by kernel_rfl) ?_
  have H := Hs.nil w0
  refine x_seq ?_
  refine x_region ?_
  refine x_box H #[.int .i64 rL, .int .i64 rE, .int .i64 pL, .int .i64 pE, .int .i64 ((room : Nat) : Int), .int .i64 hv] 80 (by kernel_rfl) rfl (by kernel_rfl) ?_
  clear H
  intro v1 g1 H
  refine x_box H #[.slice aR nR cR, .slice aP nP cP, .slice aB nB cB] 147 (by kernel_rfl) rfl (by kernel_rfl) ?_
  clear H
  intro v2 g2 H
  refine x_val (.pointer none) (by kernel_rfl) rfl (by kernel_rfl) ?_
  refine x_val (.int .i64 0) (by kernel_rfl) rfl (by kernel_rfl) ?_
  refine x_nil ?_
  refine x_then ?_
  refine x_seq ?_
  refine x_region ?_
  refine x_loadn (t := 80) H 1 g1 0 _ _ [.int .i64 rL, .int .i64 rE, .int .i64 pL, .int .i64 pE, .int .i64 ((room : Nat) : Int), .int .i64 hv] rfl (by kernel_rfl) (by kernel_rfl) rfl (by kernel_rfl) (by kernel_rfl) ?_
  refine x_val (.pointer (some ⟨g2, 0, none⟩)) (by kernel_rfl) rfl (by kernel_rfl) ?_
  refine x_load1 H 0 g2 0 _ _ (.slice aR nR cR) rfl (by kernel_rfl) (by kernel_rfl) rfl (by kernel_rfl) ?_
  refine x_val (.int .i64 ((nR : Nat) : Int)) (by kernel_rfl) rfl (by kernel_rfl) ?_
  refine x_call (by kernel_rfl) rfl (by kernel_rfl) (TkNew_yes rL rE pL pE hv room nR hb hn1 hn2 _) ?_
  rintro _ v3 ⟨p, gr, t, rfl, hN'⟩
  refine ⟨_, rfl, ?_⟩
  replace H := H.more hN'
  clear hN'
  replace H : Hs [] w0 _ [.blk p #[.int .i64 rL, .int .i64 rE, .int .i64 pL, .int .i64 pE, .int .i64 ((room : Nat) : Int), .int .i64 hv, .slice (some ⟨gr, 0, none⟩) nR nR, .pointer (some ⟨t, 0, none⟩)] 187, .row (.slice (some ⟨gr, 0, none⟩) nR nR) 86 2 nR (List.flatMap bukL (List.replicate nR (0, 0))), .blk t #[.slice none 0 0, .int .i64 ((room : Nat) : Int), .func (.func 103) #[] #[]] 228, .row (.slice none 0 0) 230 3 (List.length ([] : List PairB)) (List.flatMap pairLB ([] : List PairB)), .blk g2 #[.slice aR nR cR, .slice aP nP cP, .slice aB nB cB] 147, .blk g1 #[.int .i64 rL, .int .i64 rE, .int .i64 pL, .int .i64 pE, .int .i64 ((room : Nat) : Int), .int .i64 hv] 80] := H
  have hb' := hb
  obtain ⟨hb1, hb2, hb3, hb4⟩ := hb'
  refine x_val (.tuple #[.pointer (some ⟨p, 0, none⟩), .int .i64 0]) (by kernel_rfl) rfl (by kernel_rfl) ?_
  refine x_val (.pointer (some ⟨p, 0, none⟩)) (by kernel_rfl) rfl (by kernel_rfl) ?_
  refine x_val (.int .i64 0) (by kernel_rfl) rfl (by kernel_rfl) ?_
  refine x_val (.pointer (some ⟨p, 0, none⟩)) (by kernel_rfl) rfl (by kernel_rfl) ?_
  refine x_val (.int .i64 0) (by kernel_rfl) rfl (by kernel_rfl) ?_
  refine x_nil ?_
  refine x_then ?_
  refine x_seq ?_
  refine x_seq ?_
  refine x_region ?_
  refine x_val (.int .i64 0) (by kernel_rfl) rfl (by kernel_rfl) ?_
  refine x_val (.bool false) (by kernel_rfl) rfl (by kernel_rfl) ?_
  refine x_nil ?_
  refine x_then ?_
  refine x_f (by kernel_rfl) ?_
  refine x_skipc ?_
  refine x_then ?_
  refine x_seq ?_
  refine x_seq ?_
  refine x_region ?_
  refine x_val (.int .i64 0) (by kernel_rfl) rfl (by kernel_rfl) ?_
  refine x_val (.bool false) (by kernel_rfl) rfl (by kernel_rfl) ?_
  refine x_nil ?_
  refine x_then ?_
  refine x_f (by kernel_rfl) ?_
  refine x_skipc ?_
  refine x_then ?_
  refine x_seq ?_
  refine x_seq ?_
  refine x_region ?_
  refine x_val (.pointer (some ⟨g2, 0, none⟩)) (by kernel_rfl) rfl (by kernel_rfl) ?_
  refine x_load1 H 4 g2 0 _ _ (.slice aR nR cR) rfl (by kernel_rfl) (by kernel_rfl) rfl (by kernel_rfl) ?_
  refine x_val (.pointer (some ⟨g1, 0, none⟩)) (by kernel_rfl) rfl (by kernel_rfl) ?_
  refine x_loadn (t := 78) H 5 g1 0 _ _ [.int .i64 rL, .int .i64 rE] rfl (by kernel_rfl) (by kernel_rfl) rfl (by kernel_rfl) (by kernel_rfl) ?_
  refine x_call (by kernel_rfl) rfl (by kernel_rfl) (all_any rL rE aR nR cR lR hb1 (by omega) _ (hAR.at H.below)) ?_
  rintro _ v4 ⟨zR, rfl, hzR, hB⟩
  refine ⟨_, rfl, ?_⟩
  replace H := H.via hB
  clear hB
  refine x_val (.bool (!zR)) (by kernel_rfl) rfl (by kernel_rfl) ?_
  refine x_val (.bool (!zR)) (by kernel_rfl) rfl (by kernel_rfl) ?_
  cases h1 : zR
  · skip
    refine x_skip (by kernel_rfl) ?_
    refine x_skip (by kernel_rfl) ?_
    refine x_skip (by kernel_rfl) ?_
    refine x_skip (by kernel_rfl) ?_
    refine x_skip (by kernel_rfl) ?_
    refine x_skip (by kernel_rfl) ?_
    refine x_val (.bool true) (by kernel_rfl) rfl (by kernel_rfl) ?_
    refine x_val (.bool true) (by kernel_rfl) rfl (by kernel_rfl) ?_
    refine x_skip (by kernel_rfl) ?_
    refine x_skip (by kernel_rfl) ?_
    refine x_skip (by kernel_rfl) ?_
    refine x_skip (by kernel_rfl) ?_
    refine x_skip (by kernel_rfl) ?_
    refine x_skip (by kernel_rfl) ?_
    refine x_skip (by kernel_rfl) ?_
    refine x_val (.bool true) (by kernel_rfl) rfl (by kernel_rfl) ?_
    refine x_val (.bool true) (by kernel_rfl) rfl (by kernel_rfl) ?_
    refine x_skip (by kernel_rfl) ?_
    refine x_skip (by kernel_rfl) ?_
    refine x_skip (by kernel_rfl) ?_
    refine x_skip (by kernel_rfl) ?_
    refine x_skip (by kernel_rfl) ?_
    refine x_skip (by kernel_rfl) ?_
    refine x_val (.bool true) (by kernel_rfl) rfl (by kernel_rfl) ?_
    refine x_nil ?_
    refine x_then ?_
    refine x_t (by kernel_rfl) ?_
    refine x_seq ?_
    refine x_region ?_
    refine x_val (.pointer none) (by kernel_rfl) rfl (by kernel_rfl) ?_
    refine x_val (.int .i64 10) (by kernel_rfl) rfl (by kernel_rfl) ?_
    refine x_nil ?_
    refine x_then ?_
    refine x_retc ?_
    refine x_then_ret ?_
    refine x_ret (.tuple #[.pointer none, .int .i64 10]) (by kernel_rfl) (by kernel_rfl) ?_
    exact ⟨rfl, H.below⟩
  · skip
    refine x_val (.pointer (some ⟨g2, 2, none⟩)) (by kernel_rfl) rfl (by kernel_rfl) ?_
    refine x_load1 H 4 g2 2 _ _ (.slice aB nB cB) rfl (by kernel_rfl) (by kernel_rfl) rfl (by kernel_rfl) ?_
    refine x_val (.pointer (some ⟨g1, 2, none⟩)) (by kernel_rfl) rfl (by kernel_rfl) ?_
    refine x_loadn (t := 78) H 5 g1 2 _ _ [.int .i64 pL, .int .i64 pE] rfl (by kernel_rfl) (by kernel_rfl) rfl (by kernel_rfl) (by kernel_rfl) ?_
    refine x_call (by kernel_rfl) rfl (by kernel_rfl) (all_any pL pE aB nB cB lB hb2 (by omega) _ (hAB.at H.below)) ?_
    rintro _ v5 ⟨zB, rfl, hzB, hB⟩
    refine ⟨_, rfl, ?_⟩
    replace H := H.via hB
    clear hB
    refine x_val (.bool (!zB)) (by kernel_rfl) rfl (by kernel_rfl) ?_
    refine x_val (.bool (!zB)) (by kernel_rfl) rfl (by kernel_rfl) ?_
    refine x_val (.bool (!zB)) (by kernel_rfl) rfl (by kernel_rfl) ?_
    cases h2 : zB
    · skip
      refine x_skip (by kernel_rfl) ?_
      refine x_skip (by kernel_rfl) ?_
      refine x_skip (by kernel_rfl) ?_
      refine x_skip (by kernel_rfl) ?_
      refine x_skip (by kernel_rfl) ?_
      refine x_skip (by kernel_rfl) ?_
      refine x_skip (by kernel_rfl) ?_
      refine x_val (.bool true) (by kernel_rfl) rfl (by kernel_rfl) ?_
      refine x_val (.bool true) (by kernel_rfl) rfl (by kernel_rfl) ?_
      refine x_skip (by kernel_rfl) ?_
      refine x_skip (by kernel_rfl) ?_
      refine x_skip (by kernel_rfl) ?_
      refine x_skip (by kernel_rfl) ?_
      refine x_skip (by kernel_rfl) ?_
      refine x_skip (by kernel_rfl) ?_
      refine x_val (.bool true) (by kernel_rfl) rfl (by kernel_rfl) ?_
      refine x_nil ?_
      refine x_then ?_
      refine x_t (by kernel_rfl) ?_
      refine x_seq ?_
      refine x_region ?_
      refine x_val (.pointer none) (by kernel_rfl) rfl (by kernel_rfl) ?_
      refine x_val (.int .i64 10) (by kernel_rfl) rfl (by kernel_rfl) ?_
      refine x_nil ?_
      refine x_then ?_
      refine x_retc ?_
      refine x_then_ret ?_
      refine x_ret (.tuple #[.pointer none, .int .i64 10]) (by kernel_rfl) (by kernel_rfl) ?_
      exact ⟨rfl, H.below⟩
    · skip
      refine x_val (.pointer (some ⟨g2, 1, none⟩)) (by kernel_rfl) rfl (by kernel_rfl) ?_
      refine x_load1 H 4 g2 1 _ _ (.slice aP nP cP) rfl (by kernel_rfl) (by kernel_rfl) rfl (by kernel_rfl) ?_
      refine x_val (.int .i64 ((nP : Nat) : Int)) (by kernel_rfl) rfl (by kernel_rfl) ?_
      refine x_val (.pointer (some ⟨g2, 2, none⟩)) (by kernel_rfl) rfl (by kernel_rfl) ?_
      refine x_load1 H 4 g2 2 _ _ (.slice aB nB cB) rfl (by kernel_rfl) (by kernel_rfl) rfl (by kernel_rfl) ?_
      refine x_val (.int .i64 ((nB : Nat) : Int)) (by kernel_rfl) rfl (by kernel_rfl) ?_
      refine x_val (.bool (!(decide (((nP : Nat) : Int) = ((nB : Nat) : Int))))) (by kernel_rfl) rfl (by kernel_rfl) ?_
      refine x_val (.bool (!(decide (((nP : Nat) : Int) = ((nB : Nat) : Int))))) (by kernel_rfl) rfl (by kernel_rfl) ?_
      refine x_val (.bool (!(decide (((nP : Nat) : Int) = ((nB : Nat) : Int))))) (by kernel_rfl) rfl (by kernel_rfl) ?_
      cases h3 : decide (((nP : Nat) : Int) = ((nB : Nat) : Int))
      · skip
        have h3p := of_decide_eq_false h3
        refine x_skip (by kernel_rfl) ?_
        refine x_skip (by kernel_rfl) ?_
        refine x_skip (by kernel_rfl) ?_
        refine x_skip (by kernel_rfl) ?_
        refine x_skip (by kernel_rfl) ?_
        refine x_skip (by kernel_rfl) ?_
        refine x_val (.bool true) (by kernel_rfl) rfl (by kernel_rfl) ?_
        refine x_nil ?_
        refine x_then ?_
        refine x_t (by kernel_rfl) ?_
        refine x_seq ?_
        refine x_region ?_
        refine x_val (.pointer none) (by kernel_rfl) rfl (by kernel_rfl) ?_
        refine x_val (.int .i64 10) (by kernel_rfl) rfl (by kernel_rfl) ?_
        refine x_nil ?_
        refine x_then ?_
        refine x_retc ?_
        refine x_then_ret ?_
        refine x_ret (.tuple #[.pointer none, .int .i64 10]) (by kernel_rfl) (by kernel_rfl) ?_
        exact ⟨rfl, H.below⟩
      · skip
        have h3p := of_decide_eq_true h3
        refine x_val (.pointer (some ⟨g2, 1, none⟩)) (by kernel_rfl) rfl (by kernel_rfl) ?_
        refine x_load1 H 4 g2 1 _ _ (.slice aP nP cP) rfl (by kernel_rfl) (by kernel_rfl) rfl (by kernel_rfl) ?_
        refine x_val (.int .i64 ((nP : Nat) : Int)) (by kernel_rfl) rfl (by kernel_rfl) ?_
        refine x_val (.pointer (some ⟨g1, 4, none⟩)) (by kernel_rfl) rfl (by kernel_rfl) ?_
        refine x_load1 H 5 g1 4 _ _ (.int .i64 ((room : Nat) : Int)) rfl (by kernel_rfl) (by kernel_rfl) rfl (by kernel_rfl) ?_
        refine x_val (.bool (decide (((room : Nat) : Int) < ((nP : Nat) : Int)))) (by kernel_rfl) rfl (by kernel_rfl) ?_
        refine x_val (.bool (decide (((room : Nat) : Int) < ((nP : Nat) : Int)))) (by kernel_rfl) rfl (by kernel_rfl) ?_
        refine x_nil ?_
        refine x_then ?_
        cases h4 : decide (((room : Nat) : Int) < ((nP : Nat) : Int))
        · skip
          have h4p := of_decide_eq_false h4
          refine x_f (by kernel_rfl) ?_
          refine x_skipc ?_
          refine x_then ?_
          refine x_seq ?_
          refine x_region_head 6 (fun w' => Hs [] w0 w' [.blk p #[.int .i64 rL, .int .i64 rE, .int .i64 pL, .int .i64 pE, .int .i64 ((room : Nat) : Int), .int .i64 hv, .slice (some ⟨gr, 0, none⟩) nR nR, .pointer (some ⟨t, 0, none⟩)] 187, .row (.slice (some ⟨gr, 0, none⟩) nR nR) 86 2 nR (List.flatMap bukL (List.replicate nR (0, 0))), .blk t #[.slice none 0 0, .int .i64 ((room : Nat) : Int), .func (.func 103) #[] #[]] 228, .row (.slice none 0 0) 230 3 (List.length ([] : List PairB)) (List.flatMap pairLB ([] : List PairB)), .blk g2 #[.slice aR nR cR, .slice aP nP cP, .slice aB nB cB] 147, .blk g1 #[.int .i64 rL, .int .i64 rE, .int .i64 pL, .int .i64 pE, .int .i64 ((room : Nat) : Int), .int .i64 hv] 80]) (by kernel_rfl) (by kernel_rfl) (by kernel_rfl) H.drew ?_
          simp only [List.take_succ_cons, List.take_zero, List.drop_succ_cons, List.drop_zero]
          refine q_val (.pointer (some ⟨p, 0, none⟩)) (by kernel_rfl) (fun _ => by kernel_rfl) ?_
          refine q_val (.pointer (some ⟨p, 0, none⟩)) (by kernel_rfl) (fun _ => by kernel_rfl) ?_
          refine q_val (.pointer (some ⟨p, 6, none⟩)) (by kernel_rfl) (fun _ => by kernel_rfl) ?_
          refine q_load1 0 p 6 #[.int .i64 rL, .int .i64 rE, .int .i64 pL, .int .i64 pE, .int .i64 ((room : Nat) : Int), .int .i64 hv, .slice (some ⟨gr, 0, none⟩) nR nR, .pointer (some ⟨t, 0, none⟩)] 187 (.slice (some ⟨gr, 0, none⟩) nR nR) (by kernel_rfl) (by kernel_rfl) (by kernel_rfl) (fun _ => by kernel_rfl) ?_
          refine q_val (.pointer (some ⟨g2, 0, none⟩)) (by kernel_rfl) (fun _ => by kernel_rfl) ?_
          refine q_load1 4 g2 0 #[.slice aR nR cR, .slice aP nP cP, .slice aB nB cB] 147 (.slice aR nR cR) (by kernel_rfl) (by kernel_rfl) (by kernel_rfl) (fun _ => by kernel_rfl) ?_
          refine q_nil ?_
          clear H
          intro v6 H
          refine x_copyAll H 1 145 145 86 2 gr nR nR (List.flatMap bukL (List.replicate nR (0, 0))) (List.flatMap bukL lR) (.slice aR nR cR) [.blk p #[.int .i64 rL, .int .i64 rE, .int .i64 pL, .int .i64 pE, .int .i64 ((room : Nat) : Int), .int .i64 hv, .slice (some ⟨gr, 0, none⟩) nR nR, .pointer (some ⟨t, 0, none⟩)] 187, .row (.slice (some ⟨gr, 0, none⟩) nR nR) 86 2 nR (List.flatMap bukL lR), .blk t #[.slice none 0 0, .int .i64 ((room : Nat) : Int), .func (.func 103) #[] #[]] 228, .row (.slice none 0 0) 230 3 (List.length ([] : List PairB)) (List.flatMap pairLB ([] : List PairB)), .blk g2 #[.slice aR nR cR, .slice aP nP cP, .slice aB nB cB] 147, .blk g1 #[.int .i64 rL, .int .i64 rE, .int .i64 pL, .int .i64 pE, .int .i64 ((room : Nat) : Int), .int .i64 hv] 80] (by kernel_rfl) (hAR.src bukLen hlR H.below (by omega)) (by kernel_rfl) (by kernel_rfl) (List.all_eq_true.2 (oneCellFlat bukOne _)) (by kernel_rfl) (by kernel_rfl) rfl (by kernel_rfl) ?_
          clear H
          intro v7 H
          refine x_nil ?_
          refine x_then ?_
          refine x_seq ?_
          refine x_seq ?_
          refine x_region ?_
          refine x_val (.pointer (some ⟨g2, 1, none⟩)) (by kernel_rfl) rfl (by kernel_rfl) ?_
          refine x_load1 H 4 g2 1 _ _ (.slice aP nP cP) rfl (by kernel_rfl) (by kernel_rfl) rfl (by kernel_rfl) ?_
          refine x_val (.int .i64 ((nP : Nat) : Int)) (by kernel_rfl) rfl (by kernel_rfl) ?_
          refine x_val (.int .i64 0) (by kernel_rfl) rfl (by kernel_rfl) ?_
          refine x_nil ?_
          refine x_frame' { tmps := #[.agg #[.int .i64 rL, .int .i64 rE, .int .i64 pL, .int .i64 pE, .int .i64 ((room : Nat) : Int), .int .i64 hv], .agg #[.slice aR nR cR, .slice aP nP cP, .slice aB nB cB], .pointer (some ⟨g1, 0, none⟩), .pointer (some ⟨g2, 0, none⟩), .pointer none, .int .i64 0, .pointer (some ⟨p, 0, none⟩), .int .i64 0, undef, undef, undef, undef, .tuple #[.pointer (some ⟨p, 0, none⟩), .int .i64 0], .agg #[.int .i64 rL, .int .i64 rE, .int .i64 pL, .int .i64 pE, .int .i64 ((room : Nat) : Int), .int .i64 hv], .pointer (some ⟨g2, 0, none⟩), .slice aR nR cR, .int .i64 ((nR : Nat) : Int), .tuple #[.pointer (some ⟨p, 0, none⟩), .int .i64 0], .pointer (some ⟨p, 0, none⟩), .int .i64 0, .int .i64 0, .bool false, .int .i64 0, .bool false, undef, .pointer (some ⟨g2, 0, none⟩), .slice aR nR cR, .pointer (some ⟨g1, 0, none⟩), .agg #[.int .i64 rL, .int .i64 rE], .bool true, .bool false, .bool false, .pointer (some ⟨g2, 2, none⟩), .slice aB nB cB, .pointer (some ⟨g1, 2, none⟩), .agg #[.int .i64 pL, .int .i64 pE], .bool true, .bool false, .bool false, .bool false, .pointer (some ⟨g2, 1, none⟩), .slice aP nP cP, .int .i64 ((nP : Nat) : Int), .pointer (some ⟨g2, 2, none⟩), .slice aB nB cB, .int .i64 ((nB : Nat) : Int), .bool false, .bool false, .bool false, .pointer (some ⟨g2, 1, none⟩), .slice aP nP cP, .int .i64 ((nP : Nat) : Int), .pointer (some ⟨g1, 4, none⟩), .int .i64 ((room : Nat) : Int), .bool false, .bool false, .pointer (some ⟨p, 0, none⟩), .pointer (some ⟨p, 0, none⟩), .pointer (some ⟨p, 6, none⟩), .slice (some ⟨gr, 0, none⟩) nR nR, .pointer (some ⟨g2, 0, none⟩), .slice aR nR cR, .int .i64 ((nR : Nat) : Int), .pointer (some ⟨g2, 1, none⟩), .slice aP nP cP, .int .i64 ((nP : Nat) : Int), .int .i64 0, undef, undef, undef, undef, undef, undef, undef, undef, undef, undef, undef, undef, undef, undef, undef, undef, undef, undef, undef, undef, undef, undef, undef, undef, undef, undef, undef], defers := [] } (by kernel_rfl) ?_
          refine x_then ?_
          refine x_block ?_
          replace H := H.pick [0, 1, 2, 3, 4, 5] [.blk p #[.int .i64 rL, .int .i64 rE, .int .i64 pL, .int .i64 pE, .int .i64 ((room : Nat) : Int), .int .i64 hv, .slice (some ⟨gr, 0, none⟩) nR nR, .pointer (some ⟨t, 0, none⟩)] 187, .row (.slice (some ⟨gr, 0, none⟩) nR nR) 86 2 nR (List.flatMap bukL lR), .blk t #[.slice none 0 0, .int .i64 ((room : Nat) : Int), .func (.func 103) #[] #[]] 228, .row (.slice none 0 0) 230 3 (List.length ([] : List PairB)) (List.flatMap pairLB ([] : List PairB)), .blk g2 #[.slice aR nR cR, .slice aP nP cP, .slice aB nB cB] 147, .blk g1 #[.int .i64 rL, .int .i64 rE, .int .i64 pL, .int .i64 pE, .int .i64 ((room : Nat) : Int), .int .i64 hv] 80] (by decide) (by kernel_rfl)
          refine x_loop (G := Nat × Value) (fun gh a w' => match gh with | (k, sv) => ∃ uf1 : Nat → Value, a = { tmps := #[.agg #[.int .i64 rL, .int .i64 rE, .int .i64 pL, .int .i64 pE, .int .i64 ((room : Nat) : Int), .int .i64 hv], .agg #[.slice aR nR cR, .slice aP nP cP, .slice aB nB cB], .pointer (some ⟨g1, 0, none⟩), .pointer (some ⟨g2, 0, none⟩), (uf1 0), (uf1 1), .pointer (some ⟨p, 0, none⟩), .int .i64 0, (uf1 2), (uf1 3), (uf1 4), (uf1 5), .tuple #[.pointer (some ⟨p, 0, none⟩), .int .i64 0], .agg #[.int .i64 rL, .int .i64 rE, .int .i64 pL, .int .i64 pE, .int .i64 ((room : Nat) : Int), .int .i64 hv], .pointer (some ⟨g2, 0, none⟩), .slice aR nR cR, .int .i64 ((nR : Nat) : Int), .tuple #[.pointer (some ⟨p, 0, none⟩), .int .i64 0], .pointer (some ⟨p, 0, none⟩), .int .i64 0, .int .i64 0, .bool false, .int .i64 0, .bool false, undef, .pointer (some ⟨g2, 0, none⟩), .slice aR nR cR, .pointer (some ⟨g1, 0, none⟩), .agg #[.int .i64 rL, .int .i64 rE], .bool true, .bool false, .bool false, .pointer (some ⟨g2, 2, none⟩), .slice aB nB cB, .pointer (some ⟨g1, 2, none⟩), .agg #[.int .i64 pL, .int .i64 pE], .bool true, .bool false, .bool false, .bool false, .pointer (some ⟨g2, 1, none⟩), .slice aP nP cP, .int .i64 ((nP : Nat) : Int), .pointer (some ⟨g2, 2, none⟩), .slice aB nB cB, .int .i64 ((nB : Nat) : Int), .bool false, .bool false, .bool false, .pointer (some ⟨g2, 1, none⟩), .slice aP nP cP, .int .i64 ((nP : Nat) : Int), .pointer (some ⟨g1, 4, none⟩), .int .i64 ((room : Nat) : Int), .bool false, .bool false, .pointer (some ⟨p, 0, none⟩), .pointer (some ⟨p, 0, none⟩), .pointer (some ⟨p, 6, none⟩), .slice (some ⟨gr, 0, none⟩) nR nR, .pointer (some ⟨g2, 0, none⟩), .slice aR nR cR, .int .i64 ((nR : Nat) : Int), .pointer (some ⟨g2, 1, none⟩), .slice aP nP cP, .int .i64 ((nP : Nat) : Int), .int .i64 ((k : Nat) : Int), (uf1 6), (uf1 7), (uf1 8), (uf1 9), (uf1 10), (uf1 11), (uf1 12), (uf1 13), (uf1 14), (uf1 15), (uf1 16), (uf1 17), (uf1 18), (uf1 19), (uf1 20), (uf1 21), (uf1 22), (uf1 23), (uf1 24), (uf1 25), (uf1 26), (uf1 27), (uf1 28), (uf1 29), (uf1 30), (uf1 31), undef], defers := [] } ∧ Hs [] w0 w' [.blk p #[.int .i64 rL, .int .i64 rE, .int .i64 pL, .int .i64 pE, .int .i64 ((room : Nat) : Int), .int .i64 hv, .slice (some ⟨gr, 0, none⟩) nR nR, .pointer (some ⟨t, 0, none⟩)] 187, .row (.slice (some ⟨gr, 0, none⟩) nR nR) 86 2 nR (List.flatMap bukL lR), .blk t #[sv, .int .i64 ((room : Nat) : Int), .func (.func 103) #[] #[]] 228, .row (sv) 230 3 (List.length (zipT lP lB k)) (List.flatMap pairLB (zipT lP lB k)), .blk g2 #[.slice aR nR cR, .slice aP nP cP, .slice aB nB cB] 147, .blk g1 #[.int .i64 rL, .int .i64 rE, .int .i64 pL, .int .i64 pE, .int .i64 ((room : Nat) : Int), .int .i64 hv] 80] ∧ (k ≤ nP) ∧ (∀ j, j < k → ∀ i, i < j → lP.getD i 0 ≠ lP.getD j 0)) (fun gh => match gh with | (k, sv) => nP - k) (0, .slice none 0 0) ⟨(nthV [.pointer none, .int .i64 0, undef, undef, undef, undef, undef, undef, undef, undef, undef, undef, undef, undef, undef, undef, undef, undef, undef, undef, undef, undef, undef, undef, undef, undef, undef, undef, undef, undef, undef, undef]), (by kernel_rfl), H, (Nat.zero_le _), (fun j hj => absurd hj (Nat.not_lt_zero _))⟩ ?_
          clear H
          rintro ⟨k, sv⟩ _ v8 ⟨uf1, rfl, H, r1, r2⟩
          have hzl := zipT_len lP lB k
          refine x_seq ?_
          refine x_region ?_
          refine x_val (.bool (decide (((k : Nat) : Int) < ((nP : Nat) : Int)))) (by kernel_rfl) rfl (by kernel_rfl) ?_
          refine x_nil ?_
          refine x_then ?_
          refine x_seq ?_
          cases h5 : decide (((k : Nat) : Int) < ((nP : Nat) : Int))
          · skip
            have h5p := of_decide_eq_false h5
            refine x_f (by kernel_rfl) ?_
            refine x_exit ?_
            refine x_then_exit ?_
            refine x_then_exit ?_
            refine x_blk_exit ?_
            refine x_then ?_
            refine x_seq ?_
            refine x_region ?_
            refine x_val (.pointer (some ⟨p, 0, none⟩)) (by kernel_rfl) rfl (by kernel_rfl) ?_
            refine x_val (.pointer (some ⟨p, 0, none⟩)) (by kernel_rfl) rfl (by kernel_rfl) ?_
            refine x_val (.int .i64 0) (by kernel_rfl) rfl (by kernel_rfl) ?_
            refine x_nil ?_
            refine x_then ?_
            refine x_retc ?_
            refine x_ret (.tuple #[.pointer (some ⟨p, 0, none⟩), .int .i64 0]) (by kernel_rfl) (by kernel_rfl) ?_
            exact absurd (⟨⟨hn1, hn2⟩, by omega, by omega, hzR.1 (by assumption), hzB.1 (by assumption), fun j hj => r2 j (by omega)⟩ : FitT room rE pE lR lP lB nR nP nB) hf
          · skip
            have h5p := of_decide_eq_true h5
            refine x_t (by kernel_rfl) ?_
            refine x_skipc ?_
            refine x_then ?_
            refine x_seq ?_
            refine x_block ?_
            refine x_seq ?_
            refine x_region ?_
            refine x_val (.int .i64 ((k : Nat) : Int)) (by kernel_rfl) rfl (by kernel_rfl) ?_
            obtain ⟨gP, oP, hadP, hcP⟩ := hAP (by omega)
            refine x_ixO (t := 106) hadP k nP cP 3 1 (oP + k) (by omega) (by omega) (by kernel_rfl) (by kernel_rfl) (by kernel_rfl) rfl (by kernel_rfl) ?_
            refine x_loadc gP (oP + k) (.int .i64 (lP.getD k 0)) ((by simpa using hcP _ H.below k (by omega) 0 _ rfl)) (by kernel_rfl) rfl (by kernel_rfl) ?_
            refine x_val (.int .i64 ((k : Nat) : Int)) (by kernel_rfl) rfl (by kernel_rfl) ?_
            refine x_val (.int .i64 (lP.getD k 0)) (by kernel_rfl) rfl (by kernel_rfl) ?_
            refine x_nil ?_
            refine x_then ?_
            refine x_seq ?_
            refine x_seq ?_
            refine x_region ?_
            refine x_val (.pointer (some ⟨p, 0, none⟩)) (by kernel_rfl) rfl (by kernel_rfl) ?_
            refine x_val (.pointer (some ⟨p, 0, none⟩)) (by kernel_rfl) rfl (by kernel_rfl) ?_
            refine x_val (.pointer (some ⟨p, 7, none⟩)) (by kernel_rfl) rfl (by kernel_rfl) ?_
            refine x_load1 H 0 p 7 _ _ (.pointer (some ⟨t, 0, none⟩)) rfl (by kernel_rfl) (by kernel_rfl) rfl (by kernel_rfl) ?_
            refine x_val (.int .i64 (lP.getD k 0)) (by kernel_rfl) rfl (by kernel_rfl) ?_
            refine x_callB (.tuple #[.agg #[.int .i64 ((getB (zipT lP lB k) (lP.getD k 0)).1), .int .i64 ((getB (zipT lP lB k) (lP.getD k 0)).2)], .bool (decide (fkB (zipT lP lB k) (lP.getD k 0) < List.length (zipT lP lB k)))]) H (by kernel_rfl) rfl (by kernel_rfl) (Get_B (lP.getD k 0) (by omega) _ (H.roOf [2, 3] [.blk t #[sv, .int .i64 ((room : Nat) : Int), .func (.func 103) #[] #[]] 228, .row (sv) 230 3 (List.length (zipT lP lB k)) (List.flatMap pairLB (zipT lP lB k))] (by kernel_rfl))) ?_
            clear H
            intro v9 H
            refine x_val (.tuple #[.agg #[.int .i64 ((getB (zipT lP lB k) (lP.getD k 0)).1), .int .i64 ((getB (zipT lP lB k) (lP.getD k 0)).2)], .bool (decide (fkB (zipT lP lB k) (lP.getD k 0) < List.length (zipT lP lB k)))]) (by kernel_rfl) rfl (by kernel_rfl) ?_
            refine x_val (.agg #[.int .i64 ((getB (zipT lP lB k) (lP.getD k 0)).1), .int .i64 ((getB (zipT lP lB k) (lP.getD k 0)).2)]) (by kernel_rfl) rfl (by kernel_rfl) ?_
            refine x_val (.bool (decide (fkB (zipT lP lB k) (lP.getD k 0) < List.length (zipT lP lB k)))) (by kernel_rfl) rfl (by kernel_rfl) ?_
            refine x_box H #[.int .i64 0, .int .i64 0] 86 (by kernel_rfl) rfl (by kernel_rfl) ?_
            clear H
            intro v10 g3 H
            refine x_store (t := 86) (v := .agg #[.int .i64 ((getB (zipT lP lB k) (lP.getD k 0)).1), .int .i64 ((getB (zipT lP lB k) (lP.getD k 0)).2)]) H 0 g3 0 _ #[.int .i64 ((getB (zipT lP lB k) (lP.getD k 0)).1), .int .i64 ((getB (zipT lP lB k) (lP.getD k 0)).2)] 86 [.int .i64 ((getB (zipT lP lB k) (lP.getD k 0)).1), .int .i64 ((getB (zipT lP lB k) (lP.getD k 0)).2)] _ rfl rfl (by kernel_rfl) (by kernel_rfl) (by kernel_rfl) rfl (by kernel_rfl) (by kernel_rfl) (by kernel_rfl) (by kernel_rfl) ?_
            clear H
            intro v11 H
            refine x_val (.bool (decide (fkB (zipT lP lB k) (lP.getD k 0) < List.length (zipT lP lB k)))) (by kernel_rfl) rfl (by kernel_rfl) ?_
            refine x_nil ?_
            refine x_then ?_
            refine x_seq ?_
            refine x_region ?_
            refine x_val (.bool (decide (fkB (zipT lP lB k) (lP.getD k 0) < List.length (zipT lP lB k)))) (by kernel_rfl) rfl (by kernel_rfl) ?_
            refine x_nil ?_
            refine x_then ?_
            cases h6 : decide (fkB (zipT lP lB k) (lP.getD k 0) < List.length (zipT lP lB k))
            · skip
              have h6p := of_decide_eq_false h6
              refine x_f (by kernel_rfl) ?_
              refine x_skipc ?_
              refine x_then ?_
              refine x_region_s 11 (fun w' => Hs [] w0 w' [.blk g3 #[.int .i64 ((getB (zipT lP lB k) (lP.getD k 0)).1), .int .i64 ((getB (zipT lP lB k) (lP.getD k 0)).2)] 86, .blk p #[.int .i64 rL, .int .i64 rE, .int .i64 pL, .int .i64 pE, .int .i64 ((room : Nat) : Int), .int .i64 hv, .slice (some ⟨gr, 0, none⟩) nR nR, .pointer (some ⟨t, 0, none⟩)] 187, .row (.slice (some ⟨gr, 0, none⟩) nR nR) 86 2 nR (List.flatMap bukL lR), .blk g2 #[.slice aR nR cR, .slice aP nP cP, .slice aB nB cB] 147, .blk g1 #[.int .i64 rL, .int .i64 rE, .int .i64 pL, .int .i64 pE, .int .i64 ((room : Nat) : Int), .int .i64 hv] 80]) (fun w' => Hs [] w0 w' [.blk g3 #[.int .i64 ((getB (zipT lP lB k) (lP.getD k 0)).1), .int .i64 ((getB (zipT lP lB k) (lP.getD k 0)).2)] 86, .blk p #[.int .i64 rL, .int .i64 rE, .int .i64 pL, .int .i64 pE, .int .i64 ((room : Nat) : Int), .int .i64 hv, .slice (some ⟨gr, 0, none⟩) nR nR, .pointer (some ⟨t, 0, none⟩)] 187, .row (.slice (some ⟨gr, 0, none⟩) nR nR) 86 2 nR (List.flatMap bukL lR), .blk t #[sv, .int .i64 ((room : Nat) : Int), .func (.func 103) #[] #[]] 228, .row (sv) 230 3 (List.length (zipT lP lB k)) (List.flatMap pairLB (zipT lP lB k)), .blk g2 #[.slice aR nR cR, .slice aP nP cP, .slice aB nB cB] 147, .blk g1 #[.int .i64 rL, .int .i64 rE, .int .i64 pL, .int .i64 pE, .int .i64 ((room : Nat) : Int), .int .i64 hv] 80]) (by kernel_rfl) (by kernel_rfl) (by kernel_rfl) hsShut (fun _ h => h.pick [0, 1, 2, 5, 6] _ (by decide) (by kernel_rfl)) H.drew ?_
              obtain ⟨gB, oB, hadB, hcB⟩ := hAB (by omega)
              refine s_quiet 0 rfl (by kernel_rfl) (y_val (.pointer (some ⟨p, 0, none⟩)) (by kernel_rfl) (fun _ => by kernel_rfl)) ?_
              refine s_quiet 1 rfl (by kernel_rfl) (y_val (.pointer (some ⟨p, 0, none⟩)) (by kernel_rfl) (fun _ => by kernel_rfl)) ?_
              refine s_quiet 2 rfl (by kernel_rfl) (y_val (.pointer (some ⟨p, 7, none⟩)) (by kernel_rfl) (fun _ => by kernel_rfl)) ?_
              refine s_quiet 3 rfl (by kernel_rfl) (y_load1 1 p 7 #[.int .i64 rL, .int .i64 rE, .int .i64 pL, .int .i64 pE, .int .i64 ((room : Nat) : Int), .int .i64 hv, .slice (some ⟨gr, 0, none⟩) nR nR, .pointer (some ⟨t, 0, none⟩)] 187 (.pointer (some ⟨t, 0, none⟩)) (by kernel_rfl) (by kernel_rfl) (by kernel_rfl) (fun _ => by kernel_rfl)) ?_
              refine s_quiet 4 rfl (by kernel_rfl) (y_val (.int .i64 (lP.getD k 0)) (by kernel_rfl) (fun _ => by kernel_rfl)) ?_
              refine s_quiet 5 rfl (by kernel_rfl) (y_val (.pointer (some ⟨g2, 2, none⟩)) (by kernel_rfl) (fun _ => by kernel_rfl)) ?_
              refine s_quiet 6 rfl (by kernel_rfl) (y_load1 3 g2 2 #[.slice aR nR cR, .slice aP nP cP, .slice aB nB cB] 147 (.slice aB nB cB) (by kernel_rfl) (by kernel_rfl) (by kernel_rfl) (fun _ => by kernel_rfl)) ?_
              refine s_quiet 7 rfl (by kernel_rfl) (y_val (.int .i64 ((k : Nat) : Int)) (by kernel_rfl) (fun _ => by kernel_rfl)) ?_
              refine s_quiet 8 rfl (by kernel_rfl) (y_ixO (t := 145) hadB k nB cB 86 2 (oB + k * 2) (by omega) (by omega) (by kernel_rfl) (by kernel_rfl) (by kernel_rfl) (fun _ => by kernel_rfl)) ?_
              refine s_quiet 9 rfl (by kernel_rfl) (y_loadcn (t := 86) gB (oB + k * 2) [.int .i64 ((lB.getD k (0, 0)).1), .int .i64 ((lB.getD k (0, 0)).2)] (fun _ H => hcB _ H.below k (by omega)) (by kernel_rfl) (by kernel_rfl) (by kernel_rfl)) ?_
              have hpt := zipT_put (lP := lP) (lB := lB) (show k < room by omega) h6p
              refine s_one 10 rfl (by kernel_rfl) rfl ?_
              clear H
              intro v12 H
              have hpt := zipT_put (lP := lP) (lB := lB) (show k < room by omega) h6p
              refine x_call (by kernel_rfl) rfl (by kernel_rfl) (Hs.useE (A := [.blk t #[sv, .int .i64 ((room : Nat) : Int), .func (.func 103) #[] #[]] 228, .row (sv) 230 3 (List.length (zipT lP lB k)) (List.flatMap pairLB (zipT lP lB k))]) (R := [.blk g3 #[.int .i64 ((getB (zipT lP lB k) (lP.getD k 0)).1), .int .i64 ((getB (zipT lP lB k) (lP.getD k 0)).2)] 86, .blk p #[.int .i64 rL, .int .i64 rE, .int .i64 pL, .int .i64 pE, .int .i64 ((room : Nat) : Int), .int .i64 hv, .slice (some ⟨gr, 0, none⟩) nR nR, .pointer (some ⟨t, 0, none⟩)] 187, .row (.slice (some ⟨gr, 0, none⟩) nR nR) 86 2 nR (List.flatMap bukL lR), .blk g2 #[.slice aR nR cR, .slice aP nP cP, .slice aB nB cB] 147, .blk g1 #[.int .i64 rL, .int .i64 rE, .int .i64 pL, .int .i64 pE, .int .i64 ((room : Nat) : Int), .int .i64 hv] 80]) (fun svp => [.blk t #[svp, .int .i64 ((room : Nat) : Int), .func (.func 103) #[] #[]] 228, .row (svp) 230 3 (List.length (zipT lP lB (k + 1))) (List.flatMap pairLB (zipT lP lB (k + 1)))]) (fun _ => .tuple #[.int .i64 0, .bool false]) (H.pick [3, 4, 0, 1, 2, 5, 6] _ (by decide) (by kernel_rfl)) (fun h => (by have q := Put_B (lP.getD k 0) (lB.getD k (0, 0)) (by omega) (by omega) (by omega) _ h; rw [hpt] at q; exact q))) ?_
              rintro _ v13 ⟨svp, rfl, H'⟩
              refine ⟨_, rfl, ?_⟩
              clear H
              have H : Hs [] w0 _ [.blk t #[svp, .int .i64 ((room : Nat) : Int), .func (.func 103) #[] #[]] 228, .row (svp) 230 3 (List.length (zipT lP lB (k + 1))) (List.flatMap pairLB (zipT lP lB (k + 1))), .blk g3 #[.int .i64 ((getB (zipT lP lB k) (lP.getD k 0)).1), .int .i64 ((getB (zipT lP lB k) (lP.getD k 0)).2)] 86, .blk p #[.int .i64 rL, .int .i64 rE, .int .i64 pL, .int .i64 pE, .int .i64 ((room : Nat) : Int), .int .i64 hv, .slice (some ⟨gr, 0, none⟩) nR nR, .pointer (some ⟨t, 0, none⟩)] 187, .row (.slice (some ⟨gr, 0, none⟩) nR nR) 86 2 nR (List.flatMap bukL lR), .blk g2 #[.slice aR nR cR, .slice aP nP cP, .slice aB nB cB] 147, .blk g1 #[.int .i64 rL, .int .i64 rE, .int .i64 pL, .int .i64 pE, .int .i64 ((room : Nat) : Int), .int .i64 hv] 80] := H'
              clear H'
              refine x_nil ?_
              refine x_then ?_
              refine ⟨fun w' => Hs [] w0 w' [.blk t #[svp, .int .i64 ((room : Nat) : Int), .func (.func 103) #[] #[]] 228, .row (svp) 230 3 (List.length (zipT lP lB (k + 1))) (List.flatMap pairLB (zipT lP lB (k + 1))), .blk g3 #[.int .i64 ((getB (zipT lP lB k) (lP.getD k 0)).1), .int .i64 ((getB (zipT lP lB k) (lP.getD k 0)).2)] 86, .blk p #[.int .i64 rL, .int .i64 rE, .int .i64 pL, .int .i64 pE, .int .i64 ((room : Nat) : Int), .int .i64 hv, .slice (some ⟨gr, 0, none⟩) nR nR, .pointer (some ⟨t, 0, none⟩)] 187, .row (.slice (some ⟨gr, 0, none⟩) nR nR) 86 2 nR (List.flatMap bukL lR), .blk g2 #[.slice aR nR cR, .slice aP nP cP, .slice aB nB cB] 147, .blk g1 #[.int .i64 rL, .int .i64 rE, .int .i64 pL, .int .i64 pE, .int .i64 ((room : Nat) : Int), .int .i64 hv] 80], fun w' => Hs [] w0 w' [.blk t #[svp, .int .i64 ((room : Nat) : Int), .func (.func 103) #[] #[]] 228, .row (svp) 230 3 (List.length (zipT lP lB (k + 1))) (List.flatMap pairLB (zipT lP lB (k + 1))), .blk g3 #[.int .i64 ((getB (zipT lP lB k) (lP.getD k 0)).1), .int .i64 ((getB (zipT lP lB k) (lP.getD k 0)).2)] 86, .blk p #[.int .i64 rL, .int .i64 rE, .int .i64 pL, .int .i64 pE, .int .i64 ((room : Nat) : Int), .int .i64 hv, .slice (some ⟨gr, 0, none⟩) nR nR, .pointer (some ⟨t, 0, none⟩)] 187, .row (.slice (some ⟨gr, 0, none⟩) nR nR) 86 2 nR (List.flatMap bukL lR), .blk g2 #[.slice aR nR cR, .slice aP nP cP, .slice aB nB cB] 147, .blk g1 #[.int .i64 rL, .int .i64 rE, .int .i64 pL, .int .i64 pE, .int .i64 ((room : Nat) : Int), .int .i64 hv] 80], H, hsShut, fun _ h => h.pick [0, 1, 2, 3, 4, 5, 6] _ (by decide) (by kernel_rfl), fun _ h => h.pick [2, 3, 4, 5, 6] _ (by decide) (by kernel_rfl), ?_⟩
              refine s_done (by kernel_rfl) ?_
              clear H
              intro v14 H
              refine x_blk ?_
              refine x_then ?_
              refine x_region ?_
              refine x_ar (((k : Nat) : Int) + 1) ⟨by omega, by omega⟩ (by kernel_rfl) rfl (by kernel_rfl) ?_
              refine x_val (.int .i64 (((k : Nat) : Int) + 1)) (by kernel_rfl) rfl (by kernel_rfl) ?_
              refine x_nil ?_
              refine x_then ?_
              replace H := H.pick [3, 4, 0, 1, 5, 6] [.blk p #[.int .i64 rL, .int .i64 rE, .int .i64 pL, .int .i64 pE, .int .i64 ((room : Nat) : Int), .int .i64 hv, .slice (some ⟨gr, 0, none⟩) nR nR, .pointer (some ⟨t, 0, none⟩)] 187, .row (.slice (some ⟨gr, 0, none⟩) nR nR) 86 2 nR (List.flatMap bukL lR), .blk t #[svp, .int .i64 ((room : Nat) : Int), .func (.func 103) #[] #[]] 228, .row (svp) 230 3 (List.length (zipT lP lB (k + 1))) (List.flatMap pairLB (zipT lP lB (k + 1))), .blk g2 #[.slice aR nR cR, .slice aP nP cP, .slice aB nB cB] 147, .blk g1 #[.int .i64 rL, .int .i64 rE, .int .i64 pL, .int .i64 pE, .int .i64 ((room : Nat) : Int), .int .i64 hv] 80] (by decide) (by kernel_rfl)
              exact ⟨(k + 1, svp), (by dsimp only; omega), (nthV [(uf1 0), (uf1 1), .int .i64 ((k : Nat) : Int), .int .i64 (lP.getD k 0), .pointer (some ⟨g3, 0, none⟩), .bool false, .bool true, .int .i64 ((k : Nat) : Int), .pointer (some ⟨gP, oP + k, none⟩), .int .i64 (lP.getD k 0), .tuple #[.agg #[.int .i64 ((getB (zipT lP lB k) (lP.getD k 0)).1), .int .i64 ((getB (zipT lP lB k) (lP.getD k 0)).2)], .bool false], .pointer (some ⟨p, 0, none⟩), .pointer (some ⟨p, 0, none⟩), .pointer (some ⟨p, 7, none⟩), .pointer (some ⟨t, 0, none⟩), .int .i64 (lP.getD k 0), .tuple #[.agg #[.int .i64 ((getB (zipT lP lB k) (lP.getD k 0)).1), .int .i64 ((getB (zipT lP lB k) (lP.getD k 0)).2)], .bool false], .agg #[.int .i64 ((getB (zipT lP lB k) (lP.getD k 0)).1), .int .i64 ((getB (zipT lP lB k) (lP.getD k 0)).2)], .bool false, .bool false, .pointer (some ⟨p, 0, none⟩), .pointer (some ⟨p, 0, none⟩), .pointer (some ⟨p, 7, none⟩), .pointer (some ⟨t, 0, none⟩), .int .i64 (lP.getD k 0), .pointer (some ⟨g2, 2, none⟩), .slice aB nB cB, .int .i64 ((k : Nat) : Int), .pointer (some ⟨gB, oB + k * 2, none⟩), .agg #[.int .i64 ((lB.getD k (0, 0)).1), .int .i64 ((lB.getD k (0, 0)).2)], .tuple #[.int .i64 0, .bool false], .int .i64 (((k : Nat) : Int) + 1)]), (by kernel_rfl), H, (by omega), (fun j hj i hi => by by_cases e : j = k; (subst e; intro e2; exact h6p (zipT_has.2 ⟨i, hi, e2⟩)); exact r2 j (by omega) i hi)⟩
            · skip
              have h6p := of_decide_eq_true h6
              refine x_t (by kernel_rfl) ?_
              refine x_seq ?_
              refine x_region ?_
              refine x_val (.pointer none) (by kernel_rfl) rfl (by kernel_rfl) ?_
              refine x_val (.int .i64 10) (by kernel_rfl) rfl (by kernel_rfl) ?_
              refine x_nil ?_
              refine x_then ?_
              refine x_retc ?_
              refine x_then_ret ?_
              refine x_blk_ret ?_
              refine x_then_ret ?_
              refine x_then_ret ?_
              refine x_blk_ret ?_
              refine x_then_ret ?_
              refine x_ret (.tuple #[.pointer none, .int .i64 10]) (by kernel_rfl) (by kernel_rfl) ?_
              exact ⟨rfl, H.below⟩
        · skip
          have h4p := of_decide_eq_true h4
          refine x_t (by kernel_rfl) ?_
          refine x_seq ?_
          refine x_region ?_
          refine x_val (.pointer none) (by kernel_rfl) rfl (by kernel_rfl) ?_
          refine x_val (.int .i64 10) (by kernel_rfl) rfl (by kernel_rfl) ?_
          refine x_nil ?_
          refine x_then ?_
          refine x_retc ?_
          refine x_then_ret ?_
          refine x_ret (.tuple #[.pointer none, .int .i64 10]) (by kernel_rfl) (by kernel_rfl) ?_
          exact ⟨rfl, H.below⟩

end Go.Proofs.Ytgpalgbdacoagaa
