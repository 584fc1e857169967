/- Contracts of a tracker: New, Rank, Page, DropPage, Note, Tick. -/
import Derived.Test.YtgpalgbdacoagaaTrkC
namespace Go.Proofs.Ytgpalgbdacoagaa
open Go Go.RowKit
set_option linter.unusedVariables false
set_option linter.unusedSimpArgs false

set_option maxRecDepth 100000 in
set_option maxHeartbeats 4000000 in
theorem Tick_b (L E u v : Int) (hr : RR L E) (hb : RB E (u, v)) (w0 : World) :
    Calls Try.prog 44 #[.agg #[.int .i64 u, .int .i64 v], .agg #[.int .i64 L, .int .i64 E]] w0 fun e w' => e = .returned (.agg #[.int .i64 ((btick E (u, v)).1), .int .i64 ((btick E (u, v)).2)]) ∧ Below w0.heap.size w0 w' := by
  refine x_enter Try.func44 rfl #[.agg #[.int .i64 u, .int .i64 v], .agg #[.int .i64 L, .int .i64 E], undef, undef, undef, undef, undef, undef] (by kernel_rfl) ?_
  have H := Hs.nil w0
  refine x_seq ?_
  refine x_region ?_
  refine x_box H #[.int .i64 u, .int .i64 v] 86 (by kernel_rfl) rfl (by kernel_rfl) ?_
  clear H
  intro v1 g1 H
  refine x_box H #[.int .i64 L, .int .i64 E] 78 (by kernel_rfl) rfl (by kernel_rfl) ?_
  clear H
  intro v2 g2 H
  refine x_box H #[.int .i64 0, .int .i64 0] 86 (by kernel_rfl) rfl (by kernel_rfl) ?_
  clear H
  intro v3 g3 H
  refine x_nil ?_
  refine x_then ?_
  refine x_seq ?_
  refine x_region ?_
  refine x_loadn (t := 86) H 2 g1 0 _ _ [.int .i64 u, .int .i64 v] rfl (by kernel_rfl) (by kernel_rfl) rfl (by kernel_rfl) (by kernel_rfl) ?_
  refine x_loadn (t := 78) H 1 g2 0 _ _ [.int .i64 L, .int .i64 E] rfl (by kernel_rfl) (by kernel_rfl) rfl (by kernel_rfl) (by kernel_rfl) ?_
  refine x_callB (.agg #[.int .i64 ((btick E (u, v)).1), .int .i64 ((btick E (u, v)).2)]) H (by kernel_rfl) rfl (by kernel_rfl) (Tick_ok L E u v hr hb _) ?_
  clear H
  intro v4 H
  refine x_store (t := 86) (v := .agg #[.int .i64 ((btick E (u, v)).1), .int .i64 ((btick E (u, v)).2)]) H 0 g3 0 _ #[.int .i64 ((btick E (u, v)).1), .int .i64 ((btick E (u, v)).2)] 86 [.int .i64 ((btick E (u, v)).1), .int .i64 ((btick E (u, v)).2)] _ rfl rfl (by kernel_rfl) (by kernel_rfl) (by kernel_rfl) rfl (by kernel_rfl) (by kernel_rfl) (by kernel_rfl) (by kernel_rfl) ?_
  clear H
  intro v5 H
  refine x_nil ?_
  refine x_then ?_
  refine x_retc ?_
  refine x_ret (.agg #[.int .i64 ((btick E (u, v)).1), .int .i64 ((btick E (u, v)).2)]) (by kernel_rfl) (x_rescell H 0 g3 0 #[.int .i64 ((btick E (u, v)).1), .int .i64 ((btick E (u, v)).2)] 86 [.int .i64 ((btick E (u, v)).1), .int .i64 ((btick E (u, v)).2)] (fun x => x) (by kernel_rfl) (by kernel_rfl) (by kernel_rfl)) ?_
  exact ⟨rfl, H.below⟩

abbrev Rul (rL rE pL pE room hv : Int) : Prop := RR rL rE ∧ RR pL pE ∧ (1 ≤ room ∧ room ≤ 256) ∧ (1 ≤ hv ∧ hv ≤ 65536)
/-- The first so many elements, changed in place. -/
def updF {α : Type} (f : α → α) (d : α) (xs : List α) : Nat → List α
  | 0 => xs
  | k + 1 => (updF f d xs k).set k (f ((updF f d xs k).getD k d))
theorem updF_len {α : Type} (f : α → α) (d : α) (xs : List α) : ∀ k, (updF f d xs k).length = xs.length
  | 0 => rfl
  | k + 1 => by rw [updF, List.length_set, updF_len f d xs k]
theorem updF_eq {α : Type} (f : α → α) (d : α) (xs : List α) : ∀ k, k ≤ xs.length → updF f d xs k = (xs.take k).map f ++ xs.drop k ∧ (k < xs.length → (updF f d xs k).getD k d = xs.getD k d)
  | 0, _ => ⟨rfl, fun _ => rfl⟩
  | k + 1, h => by
    obtain ⟨h1, h2⟩ := updF_eq f d xs k (by omega)
    have e : xs.drop k = xs.getD k d :: xs.drop (k + 1) := by rw [List.drop_eq_getElem_cons (by omega)]; simp [List.getD, show k < xs.length by omega]
    have hl : ((xs.take k).map f).length = k := by simp; omega
    have e1 : updF f d xs (k + 1) = (xs.take (k + 1)).map f ++ xs.drop (k + 1) := by
      rw [updF, h2 (by omega), h1, e, List.set_append, if_neg (by omega), hl, Nat.sub_self, List.set_cons_zero, List.take_succ_eq_append_getElem (by omega), List.map_append, List.append_assoc]
      have e3 : xs.getD k d = xs[k] := by simp [List.getD, show k < xs.length by omega]
      rw [e3]; rfl
    refine ⟨e1, fun h3 => ?_⟩
    rw [e1]
    have hl2 : ((xs.take (k + 1)).map f).length = k + 1 := by simp; omega
    simp only [List.getD, List.getElem?_append_right (show ((xs.take (k + 1)).map f).length ≤ k + 1 by omega), hl2, Nat.sub_self, List.getElem?_drop]
theorem updF_all {α : Type} (f : α → α) (d : α) (xs : List α) : updF f d xs xs.length = xs.map f := by
  rw [(updF_eq f d xs _ (Nat.le_refl _)).1, List.take_length, List.drop_length, List.append_nil]
theorem getD_all {α : Type} {P : α → Prop} {xs : List α} (h : ∀ x ∈ xs, P x) {k : Nat} (hk : k < xs.length) (d : α) : P (xs.getD k d) := by
  have e : xs.getD k d = xs[k] := by simp [List.getD, hk]
  rw [e]; exact h _ (List.getElem_mem hk)
theorem getB_ok {E : Int} (hE : 1 ≤ E) {xs : List PairB} (h : ∀ x ∈ xs, RB E x.2) (k : Int) : RB E (getB xs k) := by
  unfold getB; split
  · rename_i hq; exact getD_all (P := fun x => RB E x.2) h hq _
  · exact RB.zero hE
theorem mem_putB {room : Nat} {xs : List PairB} {k : Int} {v : Buk} {x : PairB} (h : x ∈ (putB room xs k v).1) : x ∈ xs ∨ x.2 = v := by
  unfold putB at h
  split at h
  · rcases List.mem_or_eq_of_mem_set h with h | h
    · exact .inl h
    · exact .inr (by rw [h])
  · split at h
    · rcases List.mem_append.1 h with h | h
      · exact .inl h
      · right; simp at h; rw [h]
    · rcases List.mem_append.1 h with h | h
      · exact .inl (List.mem_of_mem_eraseIdx h)
      · right; simp at h; rw [h]
theorem putB_len {room : Nat} {xs : List PairB} (h : xs.length ≤ room) (h1 : 1 ≤ room) (k : Int) (v : Buk) : (putB room xs k v).1.length ≤ room := by
  unfold putB
  split
  · simpa using h
  · split
    · simp; omega
    · rename_i hq hr
      have hl := lt_ltB xs xs.length (by omega)
      simp only [List.length_append, List.length_eraseIdx, if_pos hl, List.length_cons, List.length_nil]; omega
theorem dropB_len {xs : List PairB} {room : Nat} (h : xs.length ≤ room) (k : Int) : (dropB xs k).length ≤ room := by
  unfold dropB; split
  · have := List.length_eraseIdx_le xs (fkB xs k); omega
  · exact h
theorem mem_dropB {xs : List PairB} {k : Int} {x : PairB} (h : x ∈ dropB xs k) : x ∈ xs := by
  unfold dropB at h; split at h
  · exact List.mem_of_mem_eraseIdx h
  · exact h

set_option maxRecDepth 100000 in
set_option maxHeartbeats 4000000 in
theorem RulRight (rL rE pL pE hv room : Int) (w0 : World) :
    Calls Try.prog 62 #[.agg #[.int .i64 rL, .int .i64 rE, .int .i64 pL, .int .i64 pE, .int .i64 room, .int .i64 hv]] w0 fun e w' => e = .returned (.bool (decide (Rul rL rE pL pE room hv))) ∧ Below w0.heap.size w0 w' := by
  refine x_enter Try.func62 rfl #[.agg #[.int .i64 rL, .int .i64 rE, .int .i64 pL, .int .i64 pE, .int .i64 room, .int .i64 hv], undef, undef, undef, undef, undef, undef, undef, undef, undef, undef, undef, undef, undef, undef, undef, undef, undef, undef, undef, undef, undef, undef, undef, undef, undef, undef, undef, undef, undef, undef] (by kernel_rfl) ?_
  have H := Hs.nil w0
  unfold Rul
  refine x_seq ?_
  refine x_region ?_
  refine x_box H #[.int .i64 rL, .int .i64 rE, .int .i64 pL, .int .i64 pE, .int .i64 room, .int .i64 hv] 80 (by kernel_rfl) rfl (by kernel_rfl) ?_
  clear H
  intro v1 g1 H
  refine x_val (.bool false) (by kernel_rfl) rfl (by kernel_rfl) ?_
  refine x_nil ?_
  refine x_then ?_
  refine x_seq ?_
  refine x_region ?_
  refine x_val (.pointer (some ⟨g1, 0, none⟩)) (by kernel_rfl) rfl (by kernel_rfl) ?_
  refine x_loadn (t := 78) H 0 g1 0 _ _ [.int .i64 rL, .int .i64 rE] rfl (by kernel_rfl) (by kernel_rfl) rfl (by kernel_rfl) (by kernel_rfl) ?_
  refine x_callB (.bool (decide (RR rL rE))) H (by kernel_rfl) rfl (by kernel_rfl) (RRight rL rE _) ?_
  clear H
  intro v2 H
  refine x_val (.bool (decide (RR rL rE))) (by kernel_rfl) rfl (by kernel_rfl) ?_
  cases h1 : decide (RR rL rE)
  · skip
    have h1p := of_decide_eq_false h1
    refine x_skip (by kernel_rfl) ?_
    refine x_skip (by kernel_rfl) ?_
    refine x_skip (by kernel_rfl) ?_
    refine x_val (.bool false) (by kernel_rfl) rfl (by kernel_rfl) ?_
    refine x_val (.bool false) (by kernel_rfl) rfl (by kernel_rfl) ?_
    refine x_skip (by kernel_rfl) ?_
    refine x_skip (by kernel_rfl) ?_
    refine x_skip (by kernel_rfl) ?_
    refine x_val (.bool false) (by kernel_rfl) rfl (by kernel_rfl) ?_
    refine x_val (.bool false) (by kernel_rfl) rfl (by kernel_rfl) ?_
    refine x_skip (by kernel_rfl) ?_
    refine x_skip (by kernel_rfl) ?_
    refine x_skip (by kernel_rfl) ?_
    refine x_val (.bool false) (by kernel_rfl) rfl (by kernel_rfl) ?_
    refine x_val (.bool false) (by kernel_rfl) rfl (by kernel_rfl) ?_
    refine x_skip (by kernel_rfl) ?_
    refine x_skip (by kernel_rfl) ?_
    refine x_skip (by kernel_rfl) ?_
    refine x_val (.bool false) (by kernel_rfl) rfl (by kernel_rfl) ?_
    refine x_val (.bool false) (by kernel_rfl) rfl (by kernel_rfl) ?_
    refine x_skip (by kernel_rfl) ?_
    refine x_skip (by kernel_rfl) ?_
    refine x_skip (by kernel_rfl) ?_
    refine x_val (.bool false) (by kernel_rfl) rfl (by kernel_rfl) ?_
    refine x_val (.bool false) (by kernel_rfl) rfl (by kernel_rfl) ?_
    refine x_nil ?_
    refine x_then ?_
    refine x_retc ?_
    refine x_ret (.bool false) (by kernel_rfl) (by kernel_rfl) ?_
    exact ⟨by rw [decide_eq_false (by unfold RR at *; omega)], H.below⟩
  · skip
    have h1p := of_decide_eq_true h1
    refine x_val (.pointer (some ⟨g1, 2, none⟩)) (by kernel_rfl) rfl (by kernel_rfl) ?_
    refine x_loadn (t := 78) H 0 g1 2 _ _ [.int .i64 pL, .int .i64 pE] rfl (by kernel_rfl) (by kernel_rfl) rfl (by kernel_rfl) (by kernel_rfl) ?_
    refine x_callB (.bool (decide (RR pL pE))) H (by kernel_rfl) rfl (by kernel_rfl) (RRight pL pE _) ?_
    clear H
    intro v3 H
    refine x_val (.bool (decide (RR pL pE))) (by kernel_rfl) rfl (by kernel_rfl) ?_
    refine x_val (.bool (decide (RR pL pE))) (by kernel_rfl) rfl (by kernel_rfl) ?_
    cases h2 : decide (RR pL pE)
    · skip
      have h2p := of_decide_eq_false h2
      refine x_skip (by kernel_rfl) ?_
      refine x_skip (by kernel_rfl) ?_
      refine x_skip (by kernel_rfl) ?_
      refine x_val (.bool false) (by kernel_rfl) rfl (by kernel_rfl) ?_
      refine x_val (.bool false) (by kernel_rfl) rfl (by kernel_rfl) ?_
      refine x_skip (by kernel_rfl) ?_
      refine x_skip (by kernel_rfl) ?_
      refine x_skip (by kernel_rfl) ?_
      refine x_val (.bool false) (by kernel_rfl) rfl (by kernel_rfl) ?_
      refine x_val (.bool false) (by kernel_rfl) rfl (by kernel_rfl) ?_
      refine x_skip (by kernel_rfl) ?_
      refine x_skip (by kernel_rfl) ?_
      refine x_skip (by kernel_rfl) ?_
      refine x_val (.bool false) (by kernel_rfl) rfl (by kernel_rfl) ?_
      refine x_val (.bool false) (by kernel_rfl) rfl (by kernel_rfl) ?_
      refine x_skip (by kernel_rfl) ?_
      refine x_skip (by kernel_rfl) ?_
      refine x_skip (by kernel_rfl) ?_
      refine x_val (.bool false) (by kernel_rfl) rfl (by kernel_rfl) ?_
      refine x_val (.bool false) (by kernel_rfl) rfl (by kernel_rfl) ?_
      refine x_nil ?_
      refine x_then ?_
      refine x_retc ?_
      refine x_ret (.bool false) (by kernel_rfl) (by kernel_rfl) ?_
      exact ⟨by rw [decide_eq_false (by unfold RR at *; omega)], H.below⟩
    · skip
      have h2p := of_decide_eq_true h2
      refine x_val (.pointer (some ⟨g1, 4, none⟩)) (by kernel_rfl) rfl (by kernel_rfl) ?_
      refine x_load1 H 0 g1 4 _ _ (.int .i64 room) rfl (by kernel_rfl) (by kernel_rfl) rfl (by kernel_rfl) ?_
      refine x_val (.bool (decide (1 ≤ room))) (by kernel_rfl) rfl (by kernel_rfl) ?_
      refine x_val (.bool (decide (1 ≤ room))) (by kernel_rfl) rfl (by kernel_rfl) ?_
      refine x_val (.bool (decide (1 ≤ room))) (by kernel_rfl) rfl (by kernel_rfl) ?_
      cases h3 : decide (1 ≤ room)
      · skip
        have h3p := of_decide_eq_false h3
        refine x_skip (by kernel_rfl) ?_
        refine x_skip (by kernel_rfl) ?_
        refine x_skip (by kernel_rfl) ?_
        refine x_val (.bool false) (by kernel_rfl) rfl (by kernel_rfl) ?_
        refine x_val (.bool false) (by kernel_rfl) rfl (by kernel_rfl) ?_
        refine x_skip (by kernel_rfl) ?_
        refine x_skip (by kernel_rfl) ?_
        refine x_skip (by kernel_rfl) ?_
        refine x_val (.bool false) (by kernel_rfl) rfl (by kernel_rfl) ?_
        refine x_val (.bool false) (by kernel_rfl) rfl (by kernel_rfl) ?_
        refine x_skip (by kernel_rfl) ?_
        refine x_skip (by kernel_rfl) ?_
        refine x_skip (by kernel_rfl) ?_
        refine x_val (.bool false) (by kernel_rfl) rfl (by kernel_rfl) ?_
        refine x_val (.bool false) (by kernel_rfl) rfl (by kernel_rfl) ?_
        refine x_nil ?_
        refine x_then ?_
        refine x_retc ?_
        refine x_ret (.bool false) (by kernel_rfl) (by kernel_rfl) ?_
        exact ⟨by rw [decide_eq_false (by unfold RR at *; omega)], H.below⟩
      · skip
        have h3p := of_decide_eq_true h3
        refine x_val (.pointer (some ⟨g1, 4, none⟩)) (by kernel_rfl) rfl (by kernel_rfl) ?_
        refine x_load1 H 0 g1 4 _ _ (.int .i64 room) rfl (by kernel_rfl) (by kernel_rfl) rfl (by kernel_rfl) ?_
        refine x_val (.bool (decide (room ≤ 256))) (by kernel_rfl) rfl (by kernel_rfl) ?_
        refine x_val (.bool (decide (room ≤ 256))) (by kernel_rfl) rfl (by kernel_rfl) ?_
        refine x_val (.bool (decide (room ≤ 256))) (by kernel_rfl) rfl (by kernel_rfl) ?_
        cases h4 : decide (room ≤ 256)
        · skip
          have h4p := of_decide_eq_false h4
          refine x_skip (by kernel_rfl) ?_
          refine x_skip (by kernel_rfl) ?_
          refine x_skip (by kernel_rfl) ?_
          refine x_val (.bool false) (by kernel_rfl) rfl (by kernel_rfl) ?_
          refine x_val (.bool false) (by kernel_rfl) rfl (by kernel_rfl) ?_
          refine x_skip (by kernel_rfl) ?_
          refine x_skip (by kernel_rfl) ?_
          refine x_skip (by kernel_rfl) ?_
          refine x_val (.bool false) (by kernel_rfl) rfl (by kernel_rfl) ?_
          refine x_val (.bool false) (by kernel_rfl) rfl (by kernel_rfl) ?_
          refine x_nil ?_
          refine x_then ?_
          refine x_retc ?_
          refine x_ret (.bool false) (by kernel_rfl) (by kernel_rfl) ?_
          exact ⟨by rw [decide_eq_false (by unfold RR at *; omega)], H.below⟩
        · skip
          have h4p := of_decide_eq_true h4
          refine x_val (.pointer (some ⟨g1, 5, none⟩)) (by kernel_rfl) rfl (by kernel_rfl) ?_
          refine x_load1 H 0 g1 5 _ _ (.int .i64 hv) rfl (by kernel_rfl) (by kernel_rfl) rfl (by kernel_rfl) ?_
          refine x_val (.bool (decide (1 ≤ hv))) (by kernel_rfl) rfl (by kernel_rfl) ?_
          refine x_val (.bool (decide (1 ≤ hv))) (by kernel_rfl) rfl (by kernel_rfl) ?_
          refine x_val (.bool (decide (1 ≤ hv))) (by kernel_rfl) rfl (by kernel_rfl) ?_
          cases h5 : decide (1 ≤ hv)
          · skip
            have h5p := of_decide_eq_false h5
            refine x_skip (by kernel_rfl) ?_
            refine x_skip (by kernel_rfl) ?_
            refine x_skip (by kernel_rfl) ?_
            refine x_val (.bool false) (by kernel_rfl) rfl (by kernel_rfl) ?_
            refine x_val (.bool false) (by kernel_rfl) rfl (by kernel_rfl) ?_
            refine x_nil ?_
            refine x_then ?_
            refine x_retc ?_
            refine x_ret (.bool false) (by kernel_rfl) (by kernel_rfl) ?_
            exact ⟨by rw [decide_eq_false (by unfold RR at *; omega)], H.below⟩
          · skip
            have h5p := of_decide_eq_true h5
            refine x_val (.pointer (some ⟨g1, 5, none⟩)) (by kernel_rfl) rfl (by kernel_rfl) ?_
            refine x_load1 H 0 g1 5 _ _ (.int .i64 hv) rfl (by kernel_rfl) (by kernel_rfl) rfl (by kernel_rfl) ?_
            refine x_val (.bool (decide (hv ≤ 65536))) (by kernel_rfl) rfl (by kernel_rfl) ?_
            refine x_val (.bool (decide (hv ≤ 65536))) (by kernel_rfl) rfl (by kernel_rfl) ?_
            refine x_val (.bool (decide (hv ≤ 65536))) (by kernel_rfl) rfl (by kernel_rfl) ?_
            refine x_nil ?_
            refine x_then ?_
            refine x_retc ?_
            refine x_ret (.bool (decide (hv ≤ 65536))) (by kernel_rfl) (by kernel_rfl) ?_
            have e : (decide (hv ≤ 65536)) = decide (RR rL rE ∧ RR pL pE ∧ (1 ≤ room ∧ room ≤ 256) ∧ (1 ≤ hv ∧ hv ≤ 65536)) := by rw [decide_eq_decide]; unfold RR at *; omega
            exact ⟨by rw [e], H.below⟩

theorem RulRight_yes (rL rE pL pE hv room : Int) (hR : Rul rL rE pL pE room hv) (w0 : World) : Calls Try.prog 62 #[.agg #[.int .i64 rL, .int .i64 rE, .int .i64 pL, .int .i64 pE, .int .i64 room, .int .i64 hv]] w0 fun e w' => e = .returned (.bool true) ∧ Below w0.heap.size w0 w' := by
  have h := RulRight rL rE pL pE hv room w0
  rw [decide_eq_true hR] at h
  exact h

theorem RulRight_no (rL rE pL pE hv room : Int) (hR : ¬ Rul rL rE pL pE room hv) (w0 : World) : Calls Try.prog 62 #[.agg #[.int .i64 rL, .int .i64 rE, .int .i64 pL, .int .i64 pE, .int .i64 room, .int .i64 hv]] w0 fun e w' => e = .returned (.bool false) ∧ Below w0.heap.size w0 w' := by
  have h := RulRight rL rE pL pE hv room w0
  rw [decide_eq_false hR] at h
  exact h

set_option maxRecDepth 100000 in
set_option maxHeartbeats 4000000 in
theorem TkNew_bad (rL rE pL pE room hv ranks : Int) (hR : ¬ Rul rL rE pL pE room hv) (w0 : World) :
    Calls Try.prog 40 #[.agg #[.int .i64 rL, .int .i64 rE, .int .i64 pL, .int .i64 pE, .int .i64 room, .int .i64 hv], .int .i64 ranks] w0 fun e w' => e = .returned (.tuple #[.pointer none, .int .i64 22]) ∧ Below w0.heap.size w0 w' := by
  refine x_enter Try.func40 rfl #[.agg #[.int .i64 rL, .int .i64 rE, .int .i64 pL, .int .i64 pE, .int .i64 room, .int .i64 hv], .int .i64 ranks, undef, undef, undef, undef, undef, undef, undef, undef, undef, undef, undef, undef, undef, undef, undef, undef, undef, undef, undef, undef, undef, undef, undef, undef, undef, undef, undef, undef, undef, undef, undef, undef] (by kernel_rfl) ?_
  have H := Hs.nil w0
  refine x_seq ?_
  refine x_region ?_
  refine x_box H #[.int .i64 rL, .int .i64 rE, .int .i64 pL, .int .i64 pE, .int .i64 room, .int .i64 hv] 80 (by kernel_rfl) rfl (by kernel_rfl) ?_
  clear H
  intro v1 g1 H
  refine x_val (.pointer none) (by kernel_rfl) rfl (by kernel_rfl) ?_
  refine x_val (.int .i64 0) (by kernel_rfl) rfl (by kernel_rfl) ?_
  refine x_nil ?_
  refine x_then ?_
  refine x_seq ?_
  refine x_block ?_
  refine x_seq ?_
  refine x_region ?_
  refine x_loadn (t := 80) H 0 g1 0 _ _ [.int .i64 rL, .int .i64 rE, .int .i64 pL, .int .i64 pE, .int .i64 room, .int .i64 hv] rfl (by kernel_rfl) (by kernel_rfl) rfl (by kernel_rfl) (by kernel_rfl) ?_
  refine x_callB (.bool false) H (by kernel_rfl) rfl (by kernel_rfl) (RulRight_no rL rE pL pE hv room hR _) ?_
  clear H
  intro v2 H
  refine x_val (.bool true) (by kernel_rfl) rfl (by kernel_rfl) ?_
  refine x_val (.bool true) (by kernel_rfl) rfl (by kernel_rfl) ?_
  refine x_nil ?_
  refine x_then ?_
  refine x_t (by kernel_rfl) ?_
  refine x_seq ?_
  refine x_region ?_
  refine x_val (.pointer none) (by kernel_rfl) rfl (by kernel_rfl) ?_
  refine x_val (.int .i64 22) (by kernel_rfl) rfl (by kernel_rfl) ?_
  refine x_nil ?_
  refine x_then ?_
  refine x_retc ?_
  refine x_blk_ret ?_
  refine x_then_ret ?_
  refine x_ret (.tuple #[.pointer none, .int .i64 22]) (by kernel_rfl) (by kernel_rfl) ?_
  exact ⟨rfl, H.below⟩

set_option maxRecDepth 100000 in
set_option maxHeartbeats 4000000 in
theorem TkNew_rng (rL rE pL pE room hv ranks : Int) (hR : Rul rL rE pL pE room hv) (hk : ranks < 1 ∨ 8 < ranks) (w0 : World) :
    Calls Try.prog 40 #[.agg #[.int .i64 rL, .int .i64 rE, .int .i64 pL, .int .i64 pE, .int .i64 room, .int .i64 hv], .int .i64 ranks] w0 fun e w' => e = .returned (.tuple #[.pointer none, .int .i64 12]) ∧ Below w0.heap.size w0 w' := by
  refine x_enter Try.func40 rfl #[.agg #[.int .i64 rL, .int .i64 rE, .int .i64 pL, .int .i64 pE, .int .i64 room, .int .i64 hv], .int .i64 ranks, undef, undef, undef, undef, undef, undef, undef, undef, undef, undef, undef, undef, undef, undef, undef, undef, undef, undef, undef, undef, undef, undef, undef, undef, undef, undef, undef, undef, undef, undef, undef, undef] (by kernel_rfl) ?_
  have H := Hs.nil w0
  refine x_seq ?_
  refine x_region ?_
  refine x_box H #[.int .i64 rL, .int .i64 rE, .int .i64 pL, .int .i64 pE, .int .i64 room, .int .i64 hv] 80 (by kernel_rfl) rfl (by kernel_rfl) ?_
  clear H
  intro v1 g1 H
  refine x_val (.pointer none) (by kernel_rfl) rfl (by kernel_rfl) ?_
  refine x_val (.int .i64 0) (by kernel_rfl) rfl (by kernel_rfl) ?_
  refine x_nil ?_
  refine x_then ?_
  refine x_seq ?_
  refine x_block ?_
  refine x_seq ?_
  refine x_region ?_
  refine x_loadn (t := 80) H 0 g1 0 _ _ [.int .i64 rL, .int .i64 rE, .int .i64 pL, .int .i64 pE, .int .i64 room, .int .i64 hv] rfl (by kernel_rfl) (by kernel_rfl) rfl (by kernel_rfl) (by kernel_rfl) ?_
  refine x_callB (.bool true) H (by kernel_rfl) rfl (by kernel_rfl) (RulRight_yes rL rE pL pE hv room hR _) ?_
  clear H
  intro v2 H
  refine x_val (.bool false) (by kernel_rfl) rfl (by kernel_rfl) ?_
  refine x_val (.bool false) (by kernel_rfl) rfl (by kernel_rfl) ?_
  refine x_nil ?_
  refine x_then ?_
  refine x_f (by kernel_rfl) ?_
  refine x_seq ?_
  refine x_region ?_
  refine x_val (.int .i64 ranks) (by kernel_rfl) rfl (by kernel_rfl) ?_
  refine x_val (.bool (decide (ranks < 1))) (by kernel_rfl) rfl (by kernel_rfl) ?_
  refine x_val (.bool (decide (ranks < 1))) (by kernel_rfl) rfl (by kernel_rfl) ?_
  cases h1 : decide (ranks < 1)
  · skip
    have h1p := of_decide_eq_false h1
    refine x_val (.int .i64 ranks) (by kernel_rfl) rfl (by kernel_rfl) ?_
    refine x_val (.bool (decide (8 < ranks))) (by kernel_rfl) rfl (by kernel_rfl) ?_
    refine x_val (.bool (decide (8 < ranks))) (by kernel_rfl) rfl (by kernel_rfl) ?_
    refine x_val (.bool (decide (8 < ranks))) (by kernel_rfl) rfl (by kernel_rfl) ?_
    refine x_nil ?_
    refine x_then ?_
    cases h2 : decide (8 < ranks)
    · skip
      have h2p := of_decide_eq_false h2
      exfalso; omega
    · skip
      have h2p := of_decide_eq_true h2
      refine x_t (by kernel_rfl) ?_
      refine x_seq ?_
      refine x_region ?_
      refine x_val (.pointer none) (by kernel_rfl) rfl (by kernel_rfl) ?_
      refine x_val (.int .i64 12) (by kernel_rfl) rfl (by kernel_rfl) ?_
      refine x_nil ?_
      refine x_then ?_
      refine x_retc ?_
      refine x_blk_ret ?_
      refine x_then_ret ?_
      refine x_ret (.tuple #[.pointer none, .int .i64 12]) (by kernel_rfl) (by kernel_rfl) ?_
      exact ⟨rfl, H.below⟩
  · skip
    have h1p := of_decide_eq_true h1
    refine x_skip (by kernel_rfl) ?_
    refine x_skip (by kernel_rfl) ?_
    refine x_val (.bool true) (by kernel_rfl) rfl (by kernel_rfl) ?_
    refine x_val (.bool true) (by kernel_rfl) rfl (by kernel_rfl) ?_
    refine x_nil ?_
    refine x_then ?_
    refine x_t (by kernel_rfl) ?_
    refine x_seq ?_
    refine x_region ?_
    refine x_val (.pointer none) (by kernel_rfl) rfl (by kernel_rfl) ?_
    refine x_val (.int .i64 12) (by kernel_rfl) rfl (by kernel_rfl) ?_
    refine x_nil ?_
    refine x_then ?_
    refine x_retc ?_
    refine x_blk_ret ?_
    refine x_then_ret ?_
    refine x_ret (.tuple #[.pointer none, .int .i64 12]) (by kernel_rfl) (by kernel_rfl) ?_
    exact ⟨rfl, H.below⟩

set_option maxRecDepth 100000 in
set_option maxHeartbeats 4000000 in
theorem TkNew_yes (rL rE pL pE hv : Int) (room ranks : Nat) (hR : Rul rL rE pL pE ((room : Nat) : Int) hv) (h1 : 1 ≤ ranks) (h2 : ranks ≤ 8) (w0 : World) :
    Calls Try.prog 40 #[.agg #[.int .i64 rL, .int .i64 rE, .int .i64 pL, .int .i64 pE, .int .i64 ((room : Nat) : Int), .int .i64 hv], .int .i64 ((ranks : Nat) : Int)] w0 fun e w' => ∃ p gr t, e = .returned (.tuple #[.pointer (some ⟨p, 0, none⟩), .int .i64 0]) ∧ Hs [] w0 w' [.blk p #[.int .i64 rL, .int .i64 rE, .int .i64 pL, .int .i64 pE, .int .i64 ((room : Nat) : Int), .int .i64 hv, .slice (some ⟨gr, 0, none⟩) ranks ranks, .pointer (some ⟨t, 0, none⟩)] 187, .row (.slice (some ⟨gr, 0, none⟩) ranks ranks) 86 2 ranks (List.flatMap bukL (List.replicate ranks (0, 0))), .blk t #[.slice none 0 0, .int .i64 ((room : Nat) : Int), .func (.func 103) #[] #[]] 228, .row (.slice none 0 0) 230 3 (List.length ([] : List PairB)) (List.flatMap pairLB ([] : List PairB))] := by
  refine x_enter Try.func40 rfl #[.agg #[.int .i64 rL, .int .i64 rE, .int .i64 pL, .int .i64 pE, .int .i64 ((room : Nat) : Int), .int .i64 hv], .int .i64 ((ranks : Nat) : Int), undef, undef, undef, undef, undef, undef, undef, undef, undef, undef, undef, undef, undef, undef, undef, undef, undef, undef, undef, undef, undef, undef, undef, undef, undef, undef, undef, undef, undef, undef, undef, undef] (by kernel_rfl) ?_
  have H := Hs.nil w0
  have q1 : decide (((ranks : Nat) : Int) < 1) = false := by simp; omega
  have q2 : decide (8 < ((ranks : Nat) : Int)) = false := by simp; omega
  refine x_seq ?_
  refine x_region ?_
  refine x_box H #[.int .i64 rL, .int .i64 rE, .int .i64 pL, .int .i64 pE, .int .i64 ((room : Nat) : Int), .int .i64 hv] 80 (by kernel_rfl) rfl (by kernel_rfl) ?_
  clear H
  intro v1 g1 H
  refine x_val (.pointer none) (by kernel_rfl) rfl (by kernel_rfl) ?_
  refine x_val (.int .i64 0) (by kernel_rfl) rfl (by kernel_rfl) ?_
  refine x_nil ?_
  refine x_then ?_
  refine x_seq ?_
  refine x_block ?_
  refine x_seq ?_
  refine x_region ?_
  refine x_loadn (t := 80) H 0 g1 0 _ _ [.int .i64 rL, .int .i64 rE, .int .i64 pL, .int .i64 pE, .int .i64 ((room : Nat) : Int), .int .i64 hv] rfl (by kernel_rfl) (by kernel_rfl) rfl (by kernel_rfl) (by kernel_rfl) ?_
  refine x_callB (.bool true) H (by kernel_rfl) rfl (by kernel_rfl) (RulRight_yes rL rE pL pE hv ((room : Nat) : Int) hR _) ?_
  clear H
  intro v2 H
  refine x_val (.bool false) (by kernel_rfl) rfl (by kernel_rfl) ?_
  refine x_val (.bool false) (by kernel_rfl) rfl (by kernel_rfl) ?_
  refine x_nil ?_
  refine x_then ?_
  refine x_f (by kernel_rfl) ?_
  refine x_seq ?_
  refine x_region ?_
  refine x_val (.int .i64 ((ranks : Nat) : Int)) (by kernel_rfl) rfl (by kernel_rfl) ?_
  refine x_val (.bool (decide (((ranks : Nat) : Int) < 1))) (by kernel_rfl) rfl (by kernel_rfl) ?_
  refine x_val (.bool (decide (((ranks : Nat) : Int) < 1))) (by kernel_rfl) rfl (by kernel_rfl) ?_
  rw [q1]
  refine x_val (.int .i64 ((ranks : Nat) : Int)) (by kernel_rfl) rfl (by kernel_rfl) ?_
  refine x_val (.bool (decide (8 < ((ranks : Nat) : Int)))) (by kernel_rfl) rfl (by kernel_rfl) ?_
  refine x_val (.bool (decide (8 < ((ranks : Nat) : Int)))) (by kernel_rfl) rfl (by kernel_rfl) ?_
  refine x_val (.bool (decide (8 < ((ranks : Nat) : Int)))) (by kernel_rfl) rfl (by kernel_rfl) ?_
  refine x_nil ?_
  refine x_then ?_
  rw [q2]
  refine x_f (by kernel_rfl) ?_
  refine x_skipc ?_
  refine x_blk ?_
  refine x_then ?_
  refine x_seq ?_
  refine x_region ?_
  refine x_val (.pointer (some ⟨g1, 4, none⟩)) (by kernel_rfl) rfl (by kernel_rfl) ?_
  refine x_load1 H 0 g1 4 _ _ (.int .i64 ((room : Nat) : Int)) rfl (by kernel_rfl) (by kernel_rfl) rfl (by kernel_rfl) ?_
  refine x_call (by kernel_rfl) rfl (by kernel_rfl) (TNewB_yes room (by unfold Rul at hR; omega) (by unfold Rul at hR; omega) _) ?_
  rintro _ v3 ⟨t, rfl, hN'⟩
  refine ⟨_, rfl, ?_⟩
  replace H := H.more hN'
  clear hN'
  replace H : Hs [] w0 _ [.blk t #[.slice none 0 0, .int .i64 ((room : Nat) : Int), .func (.func 103) #[] #[]] 228, .row (.slice none 0 0) 230 3 (List.length ([] : List PairB)) (List.flatMap pairLB ([] : List PairB)), .blk g1 #[.int .i64 rL, .int .i64 rE, .int .i64 pL, .int .i64 pE, .int .i64 ((room : Nat) : Int), .int .i64 hv] 80] := H
  refine x_val (.tuple #[.pointer (some ⟨t, 0, none⟩), .int .i64 0]) (by kernel_rfl) rfl (by kernel_rfl) ?_
  refine x_val (.pointer (some ⟨t, 0, none⟩)) (by kernel_rfl) rfl (by kernel_rfl) ?_
  refine x_val (.int .i64 0) (by kernel_rfl) rfl (by kernel_rfl) ?_
  refine x_val (.pointer (some ⟨t, 0, none⟩)) (by kernel_rfl) rfl (by kernel_rfl) ?_
  refine x_val (.int .i64 0) (by kernel_rfl) rfl (by kernel_rfl) ?_
  refine x_nil ?_
  refine x_then ?_
  refine x_seq ?_
  refine x_seq ?_
  refine x_region ?_
  refine x_val (.int .i64 0) (by kernel_rfl) rfl (by kernel_rfl) ?_
  refine x_val (.bool false) (by kernel_rfl) rfl (by kernel_rfl) ?_
  refine x_nil ?_
  refine x_then ?_
  refine x_f (by kernel_rfl) ?_
  refine x_skipc ?_
  refine x_then ?_
  refine x_seq ?_
  refine x_region_s 8 (fun w' => Hs [] w0 w' [.blk t #[.slice none 0 0, .int .i64 ((room : Nat) : Int), .func (.func 103) #[] #[]] 228, .row (.slice none 0 0) 230 3 (List.length ([] : List PairB)) (List.flatMap pairLB ([] : List PairB)), .blk g1 #[.int .i64 rL, .int .i64 rE, .int .i64 pL, .int .i64 pE, .int .i64 ((room : Nat) : Int), .int .i64 hv] 80]) (fun w' => Hs [] w0 w' [.blk t #[.slice none 0 0, .int .i64 ((room : Nat) : Int), .func (.func 103) #[] #[]] 228, .row (.slice none 0 0) 230 3 (List.length ([] : List PairB)) (List.flatMap pairLB ([] : List PairB)), .blk g1 #[.int .i64 rL, .int .i64 rE, .int .i64 pL, .int .i64 pE, .int .i64 ((room : Nat) : Int), .int .i64 hv] 80]) (by kernel_rfl) (by kernel_rfl) (by kernel_rfl) hsShut (fun _ h => h.pick [0, 1, 2] _ (by decide) (by kernel_rfl)) H.drew ?_
  refine s_quiet 0 rfl (by kernel_rfl) (y_loadn (t := 80) 2 g1 0 #[.int .i64 rL, .int .i64 rE, .int .i64 pL, .int .i64 pE, .int .i64 ((room : Nat) : Int), .int .i64 hv] 80 [.int .i64 rL, .int .i64 rE, .int .i64 pL, .int .i64 pE, .int .i64 ((room : Nat) : Int), .int .i64 hv] (by kernel_rfl) (by kernel_rfl) (by kernel_rfl) (by kernel_rfl) (by kernel_rfl)) ?_
  refine s_quiet 1 rfl (by kernel_rfl) (y_val (.int .i64 ((ranks : Nat) : Int)) (by kernel_rfl) (fun _ => by kernel_rfl)) ?_
  refine s_quiet 3 rfl (by kernel_rfl) (y_val (.pointer (some ⟨t, 0, none⟩)) (by kernel_rfl) (fun _ => by kernel_rfl)) ?_
  refine s_one 2 rfl (by kernel_rfl) rfl ?_
  clear H
  intro v4 H
  refine x_makeN H 145 86 2 16 ranks (.agg #[.int .i64 0, .int .i64 0]) bukL (0, 0) (by kernel_rfl) (by kernel_rfl) rfl (bukLen _) (by decide) (by unfold maxLen; omega) (by omega) (by kernel_rfl) rfl (by kernel_rfl) ?_
  clear H
  intro v5 g2 H
  refine x_nil ?_
  refine x_then ?_
  refine ⟨fun w' => Hs [] w0 w' [.row (.slice (some ⟨g2, 0, none⟩) ranks ranks) 86 2 ranks (List.flatMap bukL (List.replicate ranks (0, 0))), .blk t #[.slice none 0 0, .int .i64 ((room : Nat) : Int), .func (.func 103) #[] #[]] 228, .row (.slice none 0 0) 230 3 (List.length ([] : List PairB)) (List.flatMap pairLB ([] : List PairB)), .blk g1 #[.int .i64 rL, .int .i64 rE, .int .i64 pL, .int .i64 pE, .int .i64 ((room : Nat) : Int), .int .i64 hv] 80], fun w' => Hs [] w0 w' [.row (.slice (some ⟨g2, 0, none⟩) ranks ranks) 86 2 ranks (List.flatMap bukL (List.replicate ranks (0, 0))), .blk t #[.slice none 0 0, .int .i64 ((room : Nat) : Int), .func (.func 103) #[] #[]] 228, .row (.slice none 0 0) 230 3 (List.length ([] : List PairB)) (List.flatMap pairLB ([] : List PairB)), .blk g1 #[.int .i64 rL, .int .i64 rE, .int .i64 pL, .int .i64 pE, .int .i64 ((room : Nat) : Int), .int .i64 hv] 80], H, hsShut, fun _ h => h.pick [0, 1, 2, 3] _ (by decide) (by kernel_rfl), fun _ h => h.pick [1, 2, 3] _ (by decide) (by kernel_rfl), ?_⟩
  refine s_quiet 4 rfl (by kernel_rfl) (y_val (.agg #[.int .i64 rL, .int .i64 rE, .int .i64 pL, .int .i64 pE, .int .i64 ((room : Nat) : Int), .int .i64 hv, .slice (some ⟨g2, 0, none⟩) ranks ranks, .pointer (some ⟨t, 0, none⟩)]) (by kernel_rfl) (fun _ => by kernel_rfl)) ?_
  refine s_one 5 rfl (by kernel_rfl) rfl ?_
  clear H
  intro v6 H
  refine x_box H #[.int .i64 rL, .int .i64 rE, .int .i64 pL, .int .i64 pE, .int .i64 ((room : Nat) : Int), .int .i64 hv, .slice (some ⟨g2, 0, none⟩) ranks ranks, .pointer (some ⟨t, 0, none⟩)] 187 (by kernel_rfl) rfl (by kernel_rfl) ?_
  clear H
  intro v7 g3 H
  refine x_nil ?_
  refine x_then ?_
  refine ⟨fun w' => Hs [] w0 w' [.blk g3 #[.int .i64 rL, .int .i64 rE, .int .i64 pL, .int .i64 pE, .int .i64 ((room : Nat) : Int), .int .i64 hv, .slice (some ⟨g2, 0, none⟩) ranks ranks, .pointer (some ⟨t, 0, none⟩)] 187, .row (.slice (some ⟨g2, 0, none⟩) ranks ranks) 86 2 ranks (List.flatMap bukL (List.replicate ranks (0, 0))), .blk t #[.slice none 0 0, .int .i64 ((room : Nat) : Int), .func (.func 103) #[] #[]] 228, .row (.slice none 0 0) 230 3 (List.length ([] : List PairB)) (List.flatMap pairLB ([] : List PairB)), .blk g1 #[.int .i64 rL, .int .i64 rE, .int .i64 pL, .int .i64 pE, .int .i64 ((room : Nat) : Int), .int .i64 hv] 80], fun w' => Hs [] w0 w' [.blk g3 #[.int .i64 rL, .int .i64 rE, .int .i64 pL, .int .i64 pE, .int .i64 ((room : Nat) : Int), .int .i64 hv, .slice (some ⟨g2, 0, none⟩) ranks ranks, .pointer (some ⟨t, 0, none⟩)] 187, .row (.slice (some ⟨g2, 0, none⟩) ranks ranks) 86 2 ranks (List.flatMap bukL (List.replicate ranks (0, 0))), .blk t #[.slice none 0 0, .int .i64 ((room : Nat) : Int), .func (.func 103) #[] #[]] 228, .row (.slice none 0 0) 230 3 (List.length ([] : List PairB)) (List.flatMap pairLB ([] : List PairB)), .blk g1 #[.int .i64 rL, .int .i64 rE, .int .i64 pL, .int .i64 pE, .int .i64 ((room : Nat) : Int), .int .i64 hv] 80], H, hsShut, fun _ h => h.pick [0, 1, 2, 3, 4] _ (by decide) (by kernel_rfl), fun _ h => h.pick [1, 2, 3, 4] _ (by decide) (by kernel_rfl), ?_⟩
  refine s_quiet 6 rfl (by kernel_rfl) (y_val (.pointer (some ⟨g3, 0, none⟩)) (by kernel_rfl) (fun _ => by kernel_rfl)) ?_
  refine s_quiet 7 rfl (by kernel_rfl) (y_val (.int .i64 0) (by kernel_rfl) (fun _ => by kernel_rfl)) ?_
  refine s_done (by kernel_rfl) ?_
  clear H
  intro v8 H
  refine x_then ?_
  refine x_retc ?_
  refine x_ret (.tuple #[.pointer (some ⟨g3, 0, none⟩), .int .i64 0]) (by kernel_rfl) (by kernel_rfl) ?_
  replace H := H.pick [0, 1, 2, 3] [.blk g3 #[.int .i64 rL, .int .i64 rE, .int .i64 pL, .int .i64 pE, .int .i64 ((room : Nat) : Int), .int .i64 hv, .slice (some ⟨g2, 0, none⟩) ranks ranks, .pointer (some ⟨t, 0, none⟩)] 187, .row (.slice (some ⟨g2, 0, none⟩) ranks ranks) 86 2 ranks (List.flatMap bukL (List.replicate ranks (0, 0))), .blk t #[.slice none 0 0, .int .i64 ((room : Nat) : Int), .func (.func 103) #[] #[]] 228, .row (.slice none 0 0) 230 3 (List.length ([] : List PairB)) (List.flatMap pairLB ([] : List PairB))] (by decide) (by kernel_rfl)
  exact ⟨_, _, _, rfl, H⟩

set_option maxRecDepth 100000 in
set_option maxHeartbeats 4000000 in
theorem has_any {p t gr : Nat} {ranks room : Nat} {rL rE pL pE hv : Int} (rank : Int) (w0 : World) (hR : Ro w0 [.blk p #[.int .i64 rL, .int .i64 rE, .int .i64 pL, .int .i64 pE, .int .i64 ((room : Nat) : Int), .int .i64 hv, .slice (some ⟨gr, 0, none⟩) ranks ranks, .pointer (some ⟨t, 0, none⟩)] 187]) :
    Calls Try.prog 104 #[.pointer (some ⟨p, 0, none⟩), .int .i64 rank] w0 fun e w' => e = .returned (.bool (decide (0 ≤ rank ∧ rank < ((ranks : Nat) : Int)))) ∧ Below w0.heap.size w0 w' := by
  refine x_enter Try.func104 rfl #[.pointer (some ⟨p, 0, none⟩), .int .i64 rank, undef, undef, undef, undef, undef, undef, undef, undef, undef, undef, undef, undef, undef, undef] (by kernel_rfl) ?_
  have H := Hs.nil w0
  have R0 := hR
  refine x_seq ?_
  refine x_region ?_
  refine x_val (.bool false) (by kernel_rfl) rfl (by kernel_rfl) ?_
  refine x_nil ?_
  refine x_then ?_
  refine x_seq ?_
  refine x_region ?_
  refine x_val (.int .i64 rank) (by kernel_rfl) rfl (by kernel_rfl) ?_
  refine x_val (.bool (decide (0 ≤ rank))) (by kernel_rfl) rfl (by kernel_rfl) ?_
  refine x_val (.bool (decide (0 ≤ rank))) (by kernel_rfl) rfl (by kernel_rfl) ?_
  cases h1 : decide (0 ≤ rank)
  · skip
    have h1p := of_decide_eq_false h1
    refine x_skip (by kernel_rfl) ?_
    refine x_skip (by kernel_rfl) ?_
    refine x_skip (by kernel_rfl) ?_
    refine x_skip (by kernel_rfl) ?_
    refine x_skip (by kernel_rfl) ?_
    refine x_skip (by kernel_rfl) ?_
    refine x_skip (by kernel_rfl) ?_
    refine x_val (.bool false) (by kernel_rfl) rfl (by kernel_rfl) ?_
    refine x_val (.bool false) (by kernel_rfl) rfl (by kernel_rfl) ?_
    refine x_nil ?_
    refine x_then ?_
    refine x_retc ?_
    refine x_ret (.bool false) (by kernel_rfl) (by kernel_rfl) ?_
    exact ⟨by rw [decide_eq_false (by omega)], H.below⟩
  · skip
    have h1p := of_decide_eq_true h1
    refine x_val (.int .i64 rank) (by kernel_rfl) rfl (by kernel_rfl) ?_
    refine x_val (.pointer (some ⟨p, 0, none⟩)) (by kernel_rfl) rfl (by kernel_rfl) ?_
    refine x_val (.pointer (some ⟨p, 0, none⟩)) (by kernel_rfl) rfl (by kernel_rfl) ?_
    refine x_val (.pointer (some ⟨p, 6, none⟩)) (by kernel_rfl) rfl (by kernel_rfl) ?_
    refine x_loadc p 6 (.slice (some ⟨gr, 0, none⟩) ranks ranks) ((H.ro R0).cell 0 rfl 6 rfl) (by kernel_rfl) rfl (by kernel_rfl) ?_
    refine x_val (.int .i64 ((ranks : Nat) : Int)) (by kernel_rfl) rfl (by kernel_rfl) ?_
    refine x_val (.bool (decide (rank < ((ranks : Nat) : Int)))) (by kernel_rfl) rfl (by kernel_rfl) ?_
    refine x_val (.bool (decide (rank < ((ranks : Nat) : Int)))) (by kernel_rfl) rfl (by kernel_rfl) ?_
    refine x_val (.bool (decide (rank < ((ranks : Nat) : Int)))) (by kernel_rfl) rfl (by kernel_rfl) ?_
    refine x_nil ?_
    refine x_then ?_
    refine x_retc ?_
    refine x_ret (.bool (decide (rank < ((ranks : Nat) : Int)))) (by kernel_rfl) (by kernel_rfl) ?_
    have e : (decide (rank < ((ranks : Nat) : Int))) = decide (0 ≤ rank ∧ rank < ((ranks : Nat) : Int)) := by rw [decide_eq_decide]; omega
    exact ⟨by rw [e], H.below⟩

set_option maxRecDepth 100000 in
set_option maxHeartbeats 4000000 in
theorem Rank_yes {p t gr : Nat} {rs : List Buk} {ranks room : Nat} {rL rE pL pE hv : Int} (i : Nat) (hi : i < ranks) (hrs : rs.length = ranks) (w0 : World) (hR : Ro w0 [.blk p #[.int .i64 rL, .int .i64 rE, .int .i64 pL, .int .i64 pE, .int .i64 ((room : Nat) : Int), .int .i64 hv, .slice (some ⟨gr, 0, none⟩) ranks ranks, .pointer (some ⟨t, 0, none⟩)] 187, .row (.slice (some ⟨gr, 0, none⟩) ranks ranks) 86 2 ranks (List.flatMap bukL rs)]) :
    Calls Try.prog 45 #[.pointer (some ⟨p, 0, none⟩), .int .i64 ((i : Nat) : Int)] w0 fun e w' => e = .returned (.agg #[.int .i64 ((rs.getD i (0, 0)).1), .int .i64 ((rs.getD i (0, 0)).2)]) ∧ Below w0.heap.size w0 w' := by
  refine x_enter Try.func45 rfl #[.pointer (some ⟨p, 0, none⟩), .int .i64 ((i : Nat) : Int), undef, undef, undef, undef, undef, undef, undef, undef, undef, undef, undef, undef, undef, undef, undef] (by kernel_rfl) ?_
  have H := Hs.nil w0
  have R0 := hR
  refine x_seq ?_
  refine x_region ?_
  refine x_box H #[.int .i64 0, .int .i64 0] 86 (by kernel_rfl) rfl (by kernel_rfl) ?_
  clear H
  intro v1 g1 H
  refine x_nil ?_
  refine x_then ?_
  refine x_seq ?_
  refine x_seq ?_
  refine x_region ?_
  refine x_val (.pointer (some ⟨p, 0, none⟩)) (by kernel_rfl) rfl (by kernel_rfl) ?_
  refine x_val (.int .i64 ((i : Nat) : Int)) (by kernel_rfl) rfl (by kernel_rfl) ?_
  refine x_callB (.bool true) H (by kernel_rfl) rfl (by kernel_rfl) (by have h := has_any ((i : Nat) : Int) _ ((H.ro R0).pick [0] [.blk p #[.int .i64 rL, .int .i64 rE, .int .i64 pL, .int .i64 pE, .int .i64 ((room : Nat) : Int), .int .i64 hv, .slice (some ⟨gr, 0, none⟩) ranks ranks, .pointer (some ⟨t, 0, none⟩)] 187] (by kernel_rfl)); rw [decide_eq_true (by omega)] at h; exact h) ?_
  clear H
  intro v2 H
  refine x_val (.bool false) (by kernel_rfl) rfl (by kernel_rfl) ?_
  refine x_nil ?_
  refine x_then ?_
  refine x_f (by kernel_rfl) ?_
  refine x_skipc ?_
  refine x_then ?_
  refine x_seq ?_
  refine x_region ?_
  refine x_val (.pointer (some ⟨p, 0, none⟩)) (by kernel_rfl) rfl (by kernel_rfl) ?_
  refine x_val (.pointer (some ⟨p, 0, none⟩)) (by kernel_rfl) rfl (by kernel_rfl) ?_
  refine x_val (.pointer (some ⟨p, 6, none⟩)) (by kernel_rfl) rfl (by kernel_rfl) ?_
  refine x_loadc p 6 (.slice (some ⟨gr, 0, none⟩) ranks ranks) ((H.ro R0).cell 0 rfl 6 rfl) (by kernel_rfl) rfl (by kernel_rfl) ?_
  refine x_val (.int .i64 ((i : Nat) : Int)) (by kernel_rfl) rfl (by kernel_rfl) ?_
  refine x_ix (t := 145) gr 0 i ranks ranks 86 2 (i * 2) (by omega) (by omega) (by kernel_rfl) (by kernel_rfl) (by kernel_rfl) rfl (by kernel_rfl) ?_
  refine x_loadcn (t := 86) gr (i * 2) [.int .i64 ((rs.getD i (0, 0)).1), .int .i64 ((rs.getD i (0, 0)).2)] ((H.ro R0).rowCells 1 rfl (i * 2) (flatAt bukLen (0, 0) _ (by omega))) (by kernel_rfl) rfl (by kernel_rfl) (by kernel_rfl) ?_
  refine x_store (t := 86) (v := .agg #[.int .i64 ((rs.getD i (0, 0)).1), .int .i64 ((rs.getD i (0, 0)).2)]) H 0 g1 0 _ #[.int .i64 ((rs.getD i (0, 0)).1), .int .i64 ((rs.getD i (0, 0)).2)] 86 [.int .i64 ((rs.getD i (0, 0)).1), .int .i64 ((rs.getD i (0, 0)).2)] _ rfl rfl (by kernel_rfl) (by kernel_rfl) (by kernel_rfl) rfl (by kernel_rfl) (by kernel_rfl) (by kernel_rfl) (by kernel_rfl) ?_
  clear H
  intro v3 H
  refine x_nil ?_
  refine x_then ?_
  refine x_retc ?_
  refine x_ret (.agg #[.int .i64 ((rs.getD i (0, 0)).1), .int .i64 ((rs.getD i (0, 0)).2)]) (by kernel_rfl) (x_rescell H 0 g1 0 #[.int .i64 ((rs.getD i (0, 0)).1), .int .i64 ((rs.getD i (0, 0)).2)] 86 [.int .i64 ((rs.getD i (0, 0)).1), .int .i64 ((rs.getD i (0, 0)).2)] (fun x => x) (by kernel_rfl) (by kernel_rfl) (by kernel_rfl)) ?_
  exact ⟨rfl, H.below⟩

set_option maxRecDepth 100000 in
set_option maxHeartbeats 4000000 in
theorem Rank_no {p t gr : Nat} {ranks room : Nat} {rL rE pL pE hv : Int} (rank : Int) (hi : rank < 0 ∨ ((ranks : Nat) : Int) ≤ rank) (w0 : World) (hR : Ro w0 [.blk p #[.int .i64 rL, .int .i64 rE, .int .i64 pL, .int .i64 pE, .int .i64 ((room : Nat) : Int), .int .i64 hv, .slice (some ⟨gr, 0, none⟩) ranks ranks, .pointer (some ⟨t, 0, none⟩)] 187]) :
    Calls Try.prog 45 #[.pointer (some ⟨p, 0, none⟩), .int .i64 rank] w0 fun e w' => e = .returned (.agg #[.int .i64 0, .int .i64 0]) ∧ Below w0.heap.size w0 w' := by
  refine x_enter Try.func45 rfl #[.pointer (some ⟨p, 0, none⟩), .int .i64 rank, undef, undef, undef, undef, undef, undef, undef, undef, undef, undef, undef, undef, undef, undef, undef] (by kernel_rfl) ?_
  have H := Hs.nil w0
  have R0 := hR
  refine x_seq ?_
  refine x_region ?_
  refine x_box H #[.int .i64 0, .int .i64 0] 86 (by kernel_rfl) rfl (by kernel_rfl) ?_
  clear H
  intro v1 g1 H
  refine x_nil ?_
  refine x_then ?_
  refine x_seq ?_
  refine x_seq ?_
  refine x_region ?_
  refine x_val (.pointer (some ⟨p, 0, none⟩)) (by kernel_rfl) rfl (by kernel_rfl) ?_
  refine x_val (.int .i64 rank) (by kernel_rfl) rfl (by kernel_rfl) ?_
  refine x_callB (.bool false) H (by kernel_rfl) rfl (by kernel_rfl) (by have h := has_any rank _ (H.ro R0); rw [decide_eq_false (by omega)] at h; exact h) ?_
  clear H
  intro v2 H
  refine x_val (.bool true) (by kernel_rfl) rfl (by kernel_rfl) ?_
  refine x_nil ?_
  refine x_then ?_
  refine x_t (by kernel_rfl) ?_
  refine x_seq ?_
  refine x_region ?_
  refine x_val (.agg #[.int .i64 0, .int .i64 0]) (by kernel_rfl) rfl (by kernel_rfl) ?_
  refine x_store (t := 86) (v := .agg #[.int .i64 0, .int .i64 0]) H 0 g1 0 _ #[.int .i64 0, .int .i64 0] 86 [.int .i64 0, .int .i64 0] _ rfl rfl (by kernel_rfl) (by kernel_rfl) (by kernel_rfl) rfl (by kernel_rfl) (by kernel_rfl) (by kernel_rfl) (by kernel_rfl) ?_
  clear H
  intro v3 H
  refine x_nil ?_
  refine x_then ?_
  refine x_retc ?_
  refine x_then_ret ?_
  refine x_ret (.agg #[.int .i64 0, .int .i64 0]) (by kernel_rfl) (x_rescell H 0 g1 0 #[.int .i64 0, .int .i64 0] 86 [.int .i64 0, .int .i64 0] (fun x => x) (by kernel_rfl) (by kernel_rfl) (by kernel_rfl)) ?_
  exact ⟨rfl, H.below⟩

set_option maxRecDepth 100000 in
set_option maxHeartbeats 4000000 in
theorem Page_any {p t gr : Nat} {sv : Value} {xs : List PairB} {ranks room : Nat} {rL rE pL pE hv : Int} (page : Int) (hxs : xs.length ≤ 4096) (w0 : World) (hR : Ro w0 [.blk p #[.int .i64 rL, .int .i64 rE, .int .i64 pL, .int .i64 pE, .int .i64 ((room : Nat) : Int), .int .i64 hv, .slice (some ⟨gr, 0, none⟩) ranks ranks, .pointer (some ⟨t, 0, none⟩)] 187, .blk t #[sv, .int .i64 ((room : Nat) : Int), .func (.func 103) #[] #[]] 228, .row (sv) 230 3 (List.length xs) (List.flatMap pairLB xs)]) :
    Calls Try.prog 47 #[.pointer (some ⟨p, 0, none⟩), .int .i64 page] w0 fun e w' => e = .returned (.tuple #[.agg #[.int .i64 ((getB xs page).1), .int .i64 ((getB xs page).2)], .bool (decide (fkB xs page < xs.length))]) ∧ Below w0.heap.size w0 w' := by
  refine x_enter Try.func47 rfl #[.pointer (some ⟨p, 0, none⟩), .int .i64 page, undef, undef, undef, undef, undef, undef, undef, undef, undef, undef, undef, undef] (by kernel_rfl) ?_
  have H := Hs.nil w0
  have R0 := hR
  refine x_seq ?_
  refine x_region ?_
  refine x_box H #[.int .i64 0, .int .i64 0] 86 (by kernel_rfl) rfl (by kernel_rfl) ?_
  clear H
  intro v1 g1 H
  refine x_val (.bool false) (by kernel_rfl) rfl (by kernel_rfl) ?_
  refine x_nil ?_
  refine x_then ?_
  refine x_seq ?_
  refine x_region ?_
  refine x_val (.pointer (some ⟨p, 0, none⟩)) (by kernel_rfl) rfl (by kernel_rfl) ?_
  refine x_val (.pointer (some ⟨p, 0, none⟩)) (by kernel_rfl) rfl (by kernel_rfl) ?_
  refine x_val (.pointer (some ⟨p, 7, none⟩)) (by kernel_rfl) rfl (by kernel_rfl) ?_
  refine x_loadc p 7 (.pointer (some ⟨t, 0, none⟩)) ((H.ro R0).cell 0 rfl 7 rfl) (by kernel_rfl) rfl (by kernel_rfl) ?_
  refine x_val (.int .i64 page) (by kernel_rfl) rfl (by kernel_rfl) ?_
  refine x_callB (.tuple #[.agg #[.int .i64 ((getB xs page).1), .int .i64 ((getB xs page).2)], .bool (decide (fkB xs page < List.length xs))]) H (by kernel_rfl) rfl (by kernel_rfl) (Get_B page (by omega) _ ((H.ro R0).pick [1, 2] [.blk t #[sv, .int .i64 ((room : Nat) : Int), .func (.func 103) #[] #[]] 228, .row (sv) 230 3 (List.length xs) (List.flatMap pairLB xs)] (by kernel_rfl))) ?_
  clear H
  intro v2 H
  refine x_val (.agg #[.int .i64 ((getB xs page).1), .int .i64 ((getB xs page).2)]) (by kernel_rfl) rfl (by kernel_rfl) ?_
  refine x_val (.bool (decide (fkB xs page < List.length xs))) (by kernel_rfl) rfl (by kernel_rfl) ?_
  refine x_store (t := 86) (v := .agg #[.int .i64 ((getB xs page).1), .int .i64 ((getB xs page).2)]) H 0 g1 0 _ #[.int .i64 ((getB xs page).1), .int .i64 ((getB xs page).2)] 86 [.int .i64 ((getB xs page).1), .int .i64 ((getB xs page).2)] _ rfl rfl (by kernel_rfl) (by kernel_rfl) (by kernel_rfl) rfl (by kernel_rfl) (by kernel_rfl) (by kernel_rfl) (by kernel_rfl) ?_
  clear H
  intro v3 H
  refine x_val (.bool (decide (fkB xs page < List.length xs))) (by kernel_rfl) rfl (by kernel_rfl) ?_
  refine x_nil ?_
  refine x_then ?_
  refine x_retc ?_
  refine x_ret (.tuple #[.agg #[.int .i64 ((getB xs page).1), .int .i64 ((getB xs page).2)], .bool (decide (fkB xs page < List.length xs))]) (by kernel_rfl) (x_rescell H 0 g1 0 #[.int .i64 ((getB xs page).1), .int .i64 ((getB xs page).2)] 86 [.int .i64 ((getB xs page).1), .int .i64 ((getB xs page).2)] (fun x => .tuple #[x, .bool (decide (fkB xs page < List.length xs))]) (by kernel_rfl) (by kernel_rfl) (by kernel_rfl)) ?_
  exact ⟨rfl, H.below⟩

set_option maxRecDepth 100000 in
set_option maxHeartbeats 4000000 in
theorem DropPage_any {p t gr : Nat} {sv : Value} {rs : List Buk} {xs : List PairB} {ranks room : Nat} {rL rE pL pE hv : Int} (page : Int) (hrs : rs.length = ranks) (hxs : xs.length ≤ room) (hm : room ≤ 256 ∧ ranks ≤ 8) (w0 : World) (H0 : Hs (fps [.blk p #[.int .i64 rL, .int .i64 rE, .int .i64 pL, .int .i64 pE, .int .i64 ((room : Nat) : Int), .int .i64 hv, .slice (some ⟨gr, 0, none⟩) ranks ranks, .pointer (some ⟨t, 0, none⟩)] 187, .row (.slice (some ⟨gr, 0, none⟩) ranks ranks) 86 2 ranks (List.flatMap bukL rs), .blk t #[sv, .int .i64 ((room : Nat) : Int), .func (.func 103) #[] #[]] 228, .row (sv) 230 3 (List.length xs) (List.flatMap pairLB xs)]) w0 w0 [.blk p #[.int .i64 rL, .int .i64 rE, .int .i64 pL, .int .i64 pE, .int .i64 ((room : Nat) : Int), .int .i64 hv, .slice (some ⟨gr, 0, none⟩) ranks ranks, .pointer (some ⟨t, 0, none⟩)] 187, .row (.slice (some ⟨gr, 0, none⟩) ranks ranks) 86 2 ranks (List.flatMap bukL rs), .blk t #[sv, .int .i64 ((room : Nat) : Int), .func (.func 103) #[] #[]] 228, .row (sv) 230 3 (List.length xs) (List.flatMap pairLB xs)]) :
    Calls Try.prog 46 #[.pointer (some ⟨p, 0, none⟩), .int .i64 page] w0 fun e w' => ∃ sv', e = .returned (.tuple #[]) ∧ Hs (fps [.blk p #[.int .i64 rL, .int .i64 rE, .int .i64 pL, .int .i64 pE, .int .i64 ((room : Nat) : Int), .int .i64 hv, .slice (some ⟨gr, 0, none⟩) ranks ranks, .pointer (some ⟨t, 0, none⟩)] 187, .row (.slice (some ⟨gr, 0, none⟩) ranks ranks) 86 2 ranks (List.flatMap bukL rs), .blk t #[sv, .int .i64 ((room : Nat) : Int), .func (.func 103) #[] #[]] 228, .row (sv) 230 3 (List.length xs) (List.flatMap pairLB xs)]) w0 w' [.blk p #[.int .i64 rL, .int .i64 rE, .int .i64 pL, .int .i64 pE, .int .i64 ((room : Nat) : Int), .int .i64 hv, .slice (some ⟨gr, 0, none⟩) ranks ranks, .pointer (some ⟨t, 0, none⟩)] 187, .row (.slice (some ⟨gr, 0, none⟩) ranks ranks) 86 2 ranks (List.flatMap bukL rs), .blk t #[sv', .int .i64 ((room : Nat) : Int), .func (.func 103) #[] #[]] 228, .row (sv') 230 3 (List.length (dropB xs page)) (List.flatMap pairLB (dropB xs page))] := by
  refine x_enter Try.func46 rfl #[.pointer (some ⟨p, 0, none⟩), .int .i64 page, undef, undef, undef, undef, undef, undef, undef, undef] (by kernel_rfl) ?_
  have H := H0
  refine x_region ?_
  refine x_val (.pointer (some ⟨p, 0, none⟩)) (by kernel_rfl) rfl (by kernel_rfl) ?_
  refine x_val (.pointer (some ⟨p, 0, none⟩)) (by kernel_rfl) rfl (by kernel_rfl) ?_
  refine x_val (.pointer (some ⟨p, 7, none⟩)) (by kernel_rfl) rfl (by kernel_rfl) ?_
  refine x_load1 H 0 p 7 _ _ (.pointer (some ⟨t, 0, none⟩)) rfl (by kernel_rfl) (by kernel_rfl) rfl (by kernel_rfl) ?_
  refine x_val (.int .i64 page) (by kernel_rfl) rfl (by kernel_rfl) ?_
  refine x_call (by kernel_rfl) rfl (by kernel_rfl) (Hs.useE (A := [.blk t #[sv, .int .i64 ((room : Nat) : Int), .func (.func 103) #[] #[]] 228, .row (sv) 230 3 (List.length xs) (List.flatMap pairLB xs)]) (R := [.blk p #[.int .i64 rL, .int .i64 rE, .int .i64 pL, .int .i64 pE, .int .i64 ((room : Nat) : Int), .int .i64 hv, .slice (some ⟨gr, 0, none⟩) ranks ranks, .pointer (some ⟨t, 0, none⟩)] 187, .row (.slice (some ⟨gr, 0, none⟩) ranks ranks) 86 2 ranks (List.flatMap bukL rs)]) (fun svd => [.blk t #[svd, .int .i64 ((room : Nat) : Int), .func (.func 103) #[] #[]] 228, .row (svd) 230 3 (List.length (dropB xs page)) (List.flatMap pairLB (dropB xs page))]) (fun _ => .bool (decide (fkB xs page < List.length xs))) (H.pick [2, 3, 0, 1] _ (by decide) (by kernel_rfl)) (fun h => Drop_B page (by omega) _ h)) ?_
  rintro _ v1 ⟨svd, rfl, H'⟩
  refine ⟨_, rfl, ?_⟩
  clear H
  have H : Hs (fps [.blk p #[.int .i64 rL, .int .i64 rE, .int .i64 pL, .int .i64 pE, .int .i64 ((room : Nat) : Int), .int .i64 hv, .slice (some ⟨gr, 0, none⟩) ranks ranks, .pointer (some ⟨t, 0, none⟩)] 187, .row (.slice (some ⟨gr, 0, none⟩) ranks ranks) 86 2 ranks (List.flatMap bukL rs), .blk t #[sv, .int .i64 ((room : Nat) : Int), .func (.func 103) #[] #[]] 228, .row (sv) 230 3 (List.length xs) (List.flatMap pairLB xs)]) w0 _ [.blk t #[svd, .int .i64 ((room : Nat) : Int), .func (.func 103) #[] #[]] 228, .row (svd) 230 3 (List.length (dropB xs page)) (List.flatMap pairLB (dropB xs page)), .blk p #[.int .i64 rL, .int .i64 rE, .int .i64 pL, .int .i64 pE, .int .i64 ((room : Nat) : Int), .int .i64 hv, .slice (some ⟨gr, 0, none⟩) ranks ranks, .pointer (some ⟨t, 0, none⟩)] 187, .row (.slice (some ⟨gr, 0, none⟩) ranks ranks) 86 2 ranks (List.flatMap bukL rs)] := H'
  clear H'
  refine x_nil ?_
  refine x_end (.tuple #[]) (by kernel_rfl) (by kernel_rfl) ?_
  replace H := H.pick [2, 3, 0, 1] [.blk p #[.int .i64 rL, .int .i64 rE, .int .i64 pL, .int .i64 pE, .int .i64 ((room : Nat) : Int), .int .i64 hv, .slice (some ⟨gr, 0, none⟩) ranks ranks, .pointer (some ⟨t, 0, none⟩)] 187, .row (.slice (some ⟨gr, 0, none⟩) ranks ranks) 86 2 ranks (List.flatMap bukL rs), .blk t #[svd, .int .i64 ((room : Nat) : Int), .func (.func 103) #[] #[]] 228, .row (svd) 230 3 (List.length (dropB xs page)) (List.flatMap pairLB (dropB xs page))] (by decide) (by kernel_rfl)
  exact ⟨_, rfl, H⟩

set_option maxRecDepth 100000 in
set_option maxHeartbeats 4000000 in
theorem Note_no {p t gr : Nat} {ranks room : Nat} {rL rE pL pE hv : Int} (rank page n : Int) (hno : (rank < 0 ∨ ((ranks : Nat) : Int) ≤ rank) ∨ n < 0) (w0 : World) (hR : Ro w0 [.blk p #[.int .i64 rL, .int .i64 rE, .int .i64 pL, .int .i64 pE, .int .i64 ((room : Nat) : Int), .int .i64 hv, .slice (some ⟨gr, 0, none⟩) ranks ranks, .pointer (some ⟨t, 0, none⟩)] 187]) :
    Calls Try.prog 41 #[.pointer (some ⟨p, 0, none⟩), .int .i64 rank, .int .i64 page, .int .i64 n] w0 fun e w' => e = .returned (.tuple #[.agg #[.bool false, .bool false], .int .i64 12]) ∧ Below w0.heap.size w0 w' := by
  refine x_enter Try.func41 rfl #[.pointer (some ⟨p, 0, none⟩), .int .i64 rank, .int .i64 page, .int .i64 n, undef, undef, undef, undef, undef, undef, undef, undef, undef, undef, undef, undef, undef, undef, undef, undef, undef, undef, undef, undef, undef, undef, undef, undef, undef, undef, undef, undef, undef, undef, undef, undef, undef, undef, undef, undef, undef, undef, undef, undef, undef, undef, undef, undef, undef, undef, undef, undef, undef, undef, undef, undef, undef, undef, undef, undef, undef, undef, undef, undef, undef, undef, undef, undef, undef, undef, undef, undef, undef, undef, undef] (by kernel_rfl) ?_
  have H := Hs.nil w0
  have R0 := hR
  refine x_seq ?_
  refine x_region ?_
  refine x_box H #[.bool false, .bool false] 90 (by kernel_rfl) rfl (by kernel_rfl) ?_
  clear H
  intro v1 g1 H
  refine x_val (.int .i64 0) (by kernel_rfl) rfl (by kernel_rfl) ?_
  refine x_nil ?_
  refine x_then ?_
  refine x_seq ?_
  refine x_seq ?_
  refine x_region ?_
  refine x_val (.pointer (some ⟨p, 0, none⟩)) (by kernel_rfl) rfl (by kernel_rfl) ?_
  refine x_val (.int .i64 rank) (by kernel_rfl) rfl (by kernel_rfl) ?_
  refine x_callB (.bool (decide (0 ≤ rank ∧ rank < ((ranks : Nat) : Int)))) H (by kernel_rfl) rfl (by kernel_rfl) (has_any rank _ (H.ro R0)) ?_
  clear H
  intro v2 H
  refine x_val (.bool (!(decide (0 ≤ rank ∧ rank < ((ranks : Nat) : Int))))) (by kernel_rfl) rfl (by kernel_rfl) ?_
  refine x_val (.bool (!(decide (0 ≤ rank ∧ rank < ((ranks : Nat) : Int))))) (by kernel_rfl) rfl (by kernel_rfl) ?_
  cases h1 : decide (0 ≤ rank ∧ rank < ((ranks : Nat) : Int))
  · skip
    have h1p := of_decide_eq_false h1
    refine x_skip (by kernel_rfl) ?_
    refine x_skip (by kernel_rfl) ?_
    refine x_val (.bool true) (by kernel_rfl) rfl (by kernel_rfl) ?_
    refine x_nil ?_
    refine x_then ?_
    refine x_t (by kernel_rfl) ?_
    refine x_seq ?_
    refine x_region ?_
    refine x_val (.agg #[.bool false, .bool false]) (by kernel_rfl) rfl (by kernel_rfl) ?_
    refine x_store (t := 90) (v := .agg #[.bool false, .bool false]) H 0 g1 0 _ #[.bool false, .bool false] 90 [.bool false, .bool false] _ rfl rfl (by kernel_rfl) (by kernel_rfl) (by kernel_rfl) rfl (by kernel_rfl) (by kernel_rfl) (by kernel_rfl) (by kernel_rfl) ?_
    clear H
    intro v3 H
    refine x_val (.int .i64 12) (by kernel_rfl) rfl (by kernel_rfl) ?_
    refine x_nil ?_
    refine x_then ?_
    refine x_retc ?_
    refine x_then_ret ?_
    refine x_ret (.tuple #[.agg #[.bool false, .bool false], .int .i64 12]) (by kernel_rfl) (x_rescell H 0 g1 0 #[.bool false, .bool false] 90 [.bool false, .bool false] (fun x => .tuple #[x, .int .i64 12]) (by kernel_rfl) (by kernel_rfl) (by kernel_rfl)) ?_
    exact ⟨rfl, H.below⟩
  · skip
    have h1p := of_decide_eq_true h1
    refine x_val (.int .i64 n) (by kernel_rfl) rfl (by kernel_rfl) ?_
    refine x_val (.bool (decide (n < 0))) (by kernel_rfl) rfl (by kernel_rfl) ?_
    refine x_val (.bool (decide (n < 0))) (by kernel_rfl) rfl (by kernel_rfl) ?_
    refine x_nil ?_
    refine x_then ?_
    cases h2 : decide (n < 0)
    · skip
      have h2p := of_decide_eq_false h2
      exfalso; omega
    · skip
      have h2p := of_decide_eq_true h2
      refine x_t (by kernel_rfl) ?_
      refine x_seq ?_
      refine x_region ?_
      refine x_val (.agg #[.bool false, .bool false]) (by kernel_rfl) rfl (by kernel_rfl) ?_
      refine x_store (t := 90) (v := .agg #[.bool false, .bool false]) H 0 g1 0 _ #[.bool false, .bool false] 90 [.bool false, .bool false] _ rfl rfl (by kernel_rfl) (by kernel_rfl) (by kernel_rfl) rfl (by kernel_rfl) (by kernel_rfl) (by kernel_rfl) (by kernel_rfl) ?_
      clear H
      intro v4 H
      refine x_val (.int .i64 12) (by kernel_rfl) rfl (by kernel_rfl) ?_
      refine x_nil ?_
      refine x_then ?_
      refine x_retc ?_
      refine x_then_ret ?_
      refine x_ret (.tuple #[.agg #[.bool false, .bool false], .int .i64 12]) (by kernel_rfl) (x_rescell H 0 g1 0 #[.bool false, .bool false] 90 [.bool false, .bool false] (fun x => .tuple #[x, .int .i64 12]) (by kernel_rfl) (by kernel_rfl) (by kernel_rfl)) ?_
      exact ⟨rfl, H.below⟩

set_option maxRecDepth 100000 in
set_option maxHeartbeats 4000000 in
theorem Note_yes {p t gr : Nat} {sv : Value} {rs : List Buk} {xs : List PairB} {ranks room : Nat} {rL rE pL pE hv : Int} (i : Nat) (page n : Int) (hrs : rs.length = ranks) (hxs : xs.length ≤ room) (hm : room ≤ 256 ∧ ranks ≤ 8) (hr : RR rL rE) (hp : RR pL pE) (hb : ∀ b ∈ rs, RB rE b) (hc : ∀ x ∈ xs, RB pE x.2) (hi : i < ranks) (hn : 0 ≤ n) (h1 : 1 ≤ room) (w0 : World) (H0 : Hs (fps [.blk p #[.int .i64 rL, .int .i64 rE, .int .i64 pL, .int .i64 pE, .int .i64 ((room : Nat) : Int), .int .i64 hv, .slice (some ⟨gr, 0, none⟩) ranks ranks, .pointer (some ⟨t, 0, none⟩)] 187, .row (.slice (some ⟨gr, 0, none⟩) ranks ranks) 86 2 ranks (List.flatMap bukL rs), .blk t #[sv, .int .i64 ((room : Nat) : Int), .func (.func 103) #[] #[]] 228, .row (sv) 230 3 (List.length xs) (List.flatMap pairLB xs)]) w0 w0 [.blk p #[.int .i64 rL, .int .i64 rE, .int .i64 pL, .int .i64 pE, .int .i64 ((room : Nat) : Int), .int .i64 hv, .slice (some ⟨gr, 0, none⟩) ranks ranks, .pointer (some ⟨t, 0, none⟩)] 187, .row (.slice (some ⟨gr, 0, none⟩) ranks ranks) 86 2 ranks (List.flatMap bukL rs), .blk t #[sv, .int .i64 ((room : Nat) : Int), .func (.func 103) #[] #[]] 228, .row (sv) 230 3 (List.length xs) (List.flatMap pairLB xs)]) :
    Calls Try.prog 41 #[.pointer (some ⟨p, 0, none⟩), .int .i64 ((i : Nat) : Int), .int .i64 page, .int .i64 n] w0 fun e w' => ∃ sv', e = .returned (.tuple #[.agg #[.bool (bcross rL (rs.getD i (0, 0)) n), .bool (bcross pL (getB xs page) n)], .int .i64 0]) ∧ Hs (fps [.blk p #[.int .i64 rL, .int .i64 rE, .int .i64 pL, .int .i64 pE, .int .i64 ((room : Nat) : Int), .int .i64 hv, .slice (some ⟨gr, 0, none⟩) ranks ranks, .pointer (some ⟨t, 0, none⟩)] 187, .row (.slice (some ⟨gr, 0, none⟩) ranks ranks) 86 2 ranks (List.flatMap bukL rs), .blk t #[sv, .int .i64 ((room : Nat) : Int), .func (.func 103) #[] #[]] 228, .row (sv) 230 3 (List.length xs) (List.flatMap pairLB xs)]) w0 w' [.blk p #[.int .i64 rL, .int .i64 rE, .int .i64 pL, .int .i64 pE, .int .i64 ((room : Nat) : Int), .int .i64 hv, .slice (some ⟨gr, 0, none⟩) ranks ranks, .pointer (some ⟨t, 0, none⟩)] 187, .row (.slice (some ⟨gr, 0, none⟩) ranks ranks) 86 2 ranks (List.flatMap bukL (rs.set i (bfill (rs.getD i (0, 0)) n))), .blk t #[sv', .int .i64 ((room : Nat) : Int), .func (.func 103) #[] #[]] 228, .row (sv') 230 3 (List.length ((putB room xs page (bfill (getB xs page) n)).1)) (List.flatMap pairLB ((putB room xs page (bfill (getB xs page) n)).1))] := by
  refine x_enter Try.func41 rfl #[.pointer (some ⟨p, 0, none⟩), .int .i64 ((i : Nat) : Int), .int .i64 page, .int .i64 n, undef, undef, undef, undef, undef, undef, undef, undef, undef, undef, undef, undef, undef, undef, undef, undef, undef, undef, undef, undef, undef, undef, undef, undef, undef, undef, undef, undef, undef, undef, undef, undef, undef, undef, undef, undef, undef, undef, undef, undef, undef, undef, undef, undef, undef, undef, undef, undef, undef, undef, undef, undef, undef, undef, undef, undef, undef, undef, undef, undef, undef, undef, undef, undef, undef, undef, undef, undef, undef, undef, undef] (by kernel_rfl) ?_
  have H := H0
  refine x_seq ?_
  refine x_region ?_
  refine x_box H #[.bool false, .bool false] 90 (by kernel_rfl) rfl (by kernel_rfl) ?_
  clear H
  intro v1 g1 H
  refine x_val (.int .i64 0) (by kernel_rfl) rfl (by kernel_rfl) ?_
  refine x_nil ?_
  refine x_then ?_
  refine x_seq ?_
  refine x_seq ?_
  refine x_region ?_
  refine x_val (.pointer (some ⟨p, 0, none⟩)) (by kernel_rfl) rfl (by kernel_rfl) ?_
  refine x_val (.int .i64 ((i : Nat) : Int)) (by kernel_rfl) rfl (by kernel_rfl) ?_
  refine x_callB (.bool true) H (by kernel_rfl) rfl (by kernel_rfl) (by have h := has_any ((i : Nat) : Int) _ (H.roOf [1] [.blk p #[.int .i64 rL, .int .i64 rE, .int .i64 pL, .int .i64 pE, .int .i64 ((room : Nat) : Int), .int .i64 hv, .slice (some ⟨gr, 0, none⟩) ranks ranks, .pointer (some ⟨t, 0, none⟩)] 187] (by kernel_rfl)); rw [decide_eq_true (by omega)] at h; exact h) ?_
  clear H
  intro v2 H
  refine x_val (.bool false) (by kernel_rfl) rfl (by kernel_rfl) ?_
  refine x_val (.bool false) (by kernel_rfl) rfl (by kernel_rfl) ?_
  refine x_val (.int .i64 n) (by kernel_rfl) rfl (by kernel_rfl) ?_
  refine x_val (.bool (decide (n < 0))) (by kernel_rfl) rfl (by kernel_rfl) ?_
  refine x_val (.bool (decide (n < 0))) (by kernel_rfl) rfl (by kernel_rfl) ?_
  refine x_nil ?_
  refine x_then ?_
  cases h1 : decide (n < 0)
  · skip
    have h1p := of_decide_eq_false h1
    refine x_f (by kernel_rfl) ?_
    refine x_skipc ?_
    refine x_then ?_
    refine x_seq ?_
    refine x_region ?_
    refine x_box H #[.bool false, .bool false] 90 (by kernel_rfl) rfl (by kernel_rfl) ?_
    clear H
    intro v3 g2 H
    refine x_nil ?_
    refine x_then ?_
    refine x_seq ?_
    refine x_region_s 26 (fun w' => Hs (fps [.blk p #[.int .i64 rL, .int .i64 rE, .int .i64 pL, .int .i64 pE, .int .i64 ((room : Nat) : Int), .int .i64 hv, .slice (some ⟨gr, 0, none⟩) ranks ranks, .pointer (some ⟨t, 0, none⟩)] 187, .row (.slice (some ⟨gr, 0, none⟩) ranks ranks) 86 2 ranks (List.flatMap bukL rs), .blk t #[sv, .int .i64 ((room : Nat) : Int), .func (.func 103) #[] #[]] 228, .row (sv) 230 3 (List.length xs) (List.flatMap pairLB xs)]) w0 w' [.blk g1 #[.bool false, .bool false] 90, .blk p #[.int .i64 rL, .int .i64 rE, .int .i64 pL, .int .i64 pE, .int .i64 ((room : Nat) : Int), .int .i64 hv, .slice (some ⟨gr, 0, none⟩) ranks ranks, .pointer (some ⟨t, 0, none⟩)] 187, .blk t #[sv, .int .i64 ((room : Nat) : Int), .func (.func 103) #[] #[]] 228, .row (sv) 230 3 (List.length xs) (List.flatMap pairLB xs)]) (fun w' => Hs (fps [.blk p #[.int .i64 rL, .int .i64 rE, .int .i64 pL, .int .i64 pE, .int .i64 ((room : Nat) : Int), .int .i64 hv, .slice (some ⟨gr, 0, none⟩) ranks ranks, .pointer (some ⟨t, 0, none⟩)] 187, .row (.slice (some ⟨gr, 0, none⟩) ranks ranks) 86 2 ranks (List.flatMap bukL rs), .blk t #[sv, .int .i64 ((room : Nat) : Int), .func (.func 103) #[] #[]] 228, .row (sv) 230 3 (List.length xs) (List.flatMap pairLB xs)]) w0 w' [.blk g2 #[.bool false, .bool false] 90, .blk g1 #[.bool false, .bool false] 90, .blk p #[.int .i64 rL, .int .i64 rE, .int .i64 pL, .int .i64 pE, .int .i64 ((room : Nat) : Int), .int .i64 hv, .slice (some ⟨gr, 0, none⟩) ranks ranks, .pointer (some ⟨t, 0, none⟩)] 187, .row (.slice (some ⟨gr, 0, none⟩) ranks ranks) 86 2 ranks (List.flatMap bukL rs), .blk t #[sv, .int .i64 ((room : Nat) : Int), .func (.func 103) #[] #[]] 228, .row (sv) 230 3 (List.length xs) (List.flatMap pairLB xs)]) (by kernel_rfl) (by kernel_rfl) (by kernel_rfl) hsShut (fun _ h => h.pick [1, 2, 4, 5] _ (by decide) (by kernel_rfl)) H.drew ?_
    refine s_quiet 0 rfl (by kernel_rfl) (y_val (.pointer (some ⟨p, 0, none⟩)) (by kernel_rfl) (fun _ => by kernel_rfl)) ?_
    refine s_quiet 1 rfl (by kernel_rfl) (y_val (.pointer (some ⟨p, 0, none⟩)) (by kernel_rfl) (fun _ => by kernel_rfl)) ?_
    refine s_quiet 2 rfl (by kernel_rfl) (y_val (.pointer (some ⟨p, 6, none⟩)) (by kernel_rfl) (fun _ => by kernel_rfl)) ?_
    refine s_quiet 3 rfl (by kernel_rfl) (y_load1 1 p 6 #[.int .i64 rL, .int .i64 rE, .int .i64 pL, .int .i64 pE, .int .i64 ((room : Nat) : Int), .int .i64 hv, .slice (some ⟨gr, 0, none⟩) ranks ranks, .pointer (some ⟨t, 0, none⟩)] 187 (.slice (some ⟨gr, 0, none⟩) ranks ranks) (by kernel_rfl) (by kernel_rfl) (by kernel_rfl) (fun _ => by kernel_rfl)) ?_
    refine s_quiet 4 rfl (by kernel_rfl) (y_val (.int .i64 ((i : Nat) : Int)) (by kernel_rfl) (fun _ => by kernel_rfl)) ?_
    refine s_quiet 5 rfl (by kernel_rfl) (y_val (.pointer (some ⟨p, 0, none⟩)) (by kernel_rfl) (fun _ => by kernel_rfl)) ?_
    refine s_quiet 6 rfl (by kernel_rfl) (y_val (.pointer (some ⟨p, 0, none⟩)) (by kernel_rfl) (fun _ => by kernel_rfl)) ?_
    refine s_quiet 7 rfl (by kernel_rfl) (y_val (.pointer (some ⟨p, 6, none⟩)) (by kernel_rfl) (fun _ => by kernel_rfl)) ?_
    refine s_quiet 8 rfl (by kernel_rfl) (y_load1 1 p 6 #[.int .i64 rL, .int .i64 rE, .int .i64 pL, .int .i64 pE, .int .i64 ((room : Nat) : Int), .int .i64 hv, .slice (some ⟨gr, 0, none⟩) ranks ranks, .pointer (some ⟨t, 0, none⟩)] 187 (.slice (some ⟨gr, 0, none⟩) ranks ranks) (by kernel_rfl) (by kernel_rfl) (by kernel_rfl) (fun _ => by kernel_rfl)) ?_
    refine s_quiet 9 rfl (by kernel_rfl) (y_val (.int .i64 ((i : Nat) : Int)) (by kernel_rfl) (fun _ => by kernel_rfl)) ?_
    refine s_quiet 10 rfl (by kernel_rfl) (y_ix (t := 145) gr 0 i ranks ranks 86 2 (i * 2) (by omega) (by omega) (by kernel_rfl) (by kernel_rfl) (by kernel_rfl) (fun _ => by kernel_rfl)) ?_
    refine s_quiet 12 rfl (by kernel_rfl) (y_val (.pointer (some ⟨p, 0, none⟩)) (by kernel_rfl) (fun _ => by kernel_rfl)) ?_
    refine s_quiet 13 rfl (by kernel_rfl) (y_val (.pointer (some ⟨p, 0, none⟩)) (by kernel_rfl) (fun _ => by kernel_rfl)) ?_
    refine s_quiet 14 rfl (by kernel_rfl) (y_val (.pointer (some ⟨p, 0, none⟩)) (by kernel_rfl) (fun _ => by kernel_rfl)) ?_
    refine s_quiet 15 rfl (by kernel_rfl) (y_val (.pointer (some ⟨p, 0, none⟩)) (by kernel_rfl) (fun _ => by kernel_rfl)) ?_
    refine s_quiet 16 rfl (by kernel_rfl) (y_loadn (t := 78) 1 p 0 #[.int .i64 rL, .int .i64 rE, .int .i64 pL, .int .i64 pE, .int .i64 ((room : Nat) : Int), .int .i64 hv, .slice (some ⟨gr, 0, none⟩) ranks ranks, .pointer (some ⟨t, 0, none⟩)] 187 [.int .i64 rL, .int .i64 rE] (by kernel_rfl) (by kernel_rfl) (by kernel_rfl) (by kernel_rfl) (by kernel_rfl)) ?_
    refine s_quiet 17 rfl (by kernel_rfl) (y_val (.int .i64 n) (by kernel_rfl) (fun _ => by kernel_rfl)) ?_
    refine s_one 11 rfl (by kernel_rfl) rfl ?_
    clear H
    intro v4 H
    refine x_loadcn (t := 86) gr (i * 2) [.int .i64 ((rs.getD i (0, 0)).1), .int .i64 ((rs.getD i (0, 0)).2)] (H.rowCells 3 rfl (i * 2) (flatAt bukLen (0, 0) _ (by omega))) (by kernel_rfl) rfl (by kernel_rfl) (by kernel_rfl) ?_
    refine x_nil ?_
    refine x_then ?_
    refine ⟨fun w' => Hs (fps [.blk p #[.int .i64 rL, .int .i64 rE, .int .i64 pL, .int .i64 pE, .int .i64 ((room : Nat) : Int), .int .i64 hv, .slice (some ⟨gr, 0, none⟩) ranks ranks, .pointer (some ⟨t, 0, none⟩)] 187, .row (.slice (some ⟨gr, 0, none⟩) ranks ranks) 86 2 ranks (List.flatMap bukL rs), .blk t #[sv, .int .i64 ((room : Nat) : Int), .func (.func 103) #[] #[]] 228, .row (sv) 230 3 (List.length xs) (List.flatMap pairLB xs)]) w0 w' [.blk g1 #[.bool false, .bool false] 90, .blk p #[.int .i64 rL, .int .i64 rE, .int .i64 pL, .int .i64 pE, .int .i64 ((room : Nat) : Int), .int .i64 hv, .slice (some ⟨gr, 0, none⟩) ranks ranks, .pointer (some ⟨t, 0, none⟩)] 187, .blk t #[sv, .int .i64 ((room : Nat) : Int), .func (.func 103) #[] #[]] 228, .row (sv) 230 3 (List.length xs) (List.flatMap pairLB xs)], fun w' => Hs (fps [.blk p #[.int .i64 rL, .int .i64 rE, .int .i64 pL, .int .i64 pE, .int .i64 ((room : Nat) : Int), .int .i64 hv, .slice (some ⟨gr, 0, none⟩) ranks ranks, .pointer (some ⟨t, 0, none⟩)] 187, .row (.slice (some ⟨gr, 0, none⟩) ranks ranks) 86 2 ranks (List.flatMap bukL rs), .blk t #[sv, .int .i64 ((room : Nat) : Int), .func (.func 103) #[] #[]] 228, .row (sv) 230 3 (List.length xs) (List.flatMap pairLB xs)]) w0 w' [.blk g2 #[.bool false, .bool false] 90, .blk g1 #[.bool false, .bool false] 90, .blk p #[.int .i64 rL, .int .i64 rE, .int .i64 pL, .int .i64 pE, .int .i64 ((room : Nat) : Int), .int .i64 hv, .slice (some ⟨gr, 0, none⟩) ranks ranks, .pointer (some ⟨t, 0, none⟩)] 187, .row (.slice (some ⟨gr, 0, none⟩) ranks ranks) 86 2 ranks (List.flatMap bukL rs), .blk t #[sv, .int .i64 ((room : Nat) : Int), .func (.func 103) #[] #[]] 228, .row (sv) 230 3 (List.length xs) (List.flatMap pairLB xs)], H, hsShut, fun _ h => h.pick [1, 2, 4, 5] _ (by decide) (by kernel_rfl), fun _ h => h.pick [0, 1, 2, 3] _ (by decide) (by kernel_rfl), ?_⟩
    refine s_quiet 18 rfl (by kernel_rfl) (y_callB (.tuple #[.agg #[.int .i64 ((bfill (rs.getD i (0, 0)) n).1), .int .i64 ((bfill (rs.getD i (0, 0)) n).2)], .bool (bcross rL (rs.getD i (0, 0)) n)]) (by kernel_rfl) (fun _ => by kernel_rfl) (fun _ => (Fill_ok rL rE ((rs.getD i (0, 0)).1) ((rs.getD i (0, 0)).2) n hr (getD_all hb (by omega) _) hn _))) ?_
    refine s_quiet 19 rfl (by kernel_rfl) (y_val (.tuple #[.agg #[.int .i64 ((bfill (rs.getD i (0, 0)) n).1), .int .i64 ((bfill (rs.getD i (0, 0)) n).2)], .bool (bcross rL (rs.getD i (0, 0)) n)]) (by kernel_rfl) (fun _ => by kernel_rfl)) ?_
    refine s_quiet 20 rfl (by kernel_rfl) (y_val (.agg #[.int .i64 ((bfill (rs.getD i (0, 0)) n).1), .int .i64 ((bfill (rs.getD i (0, 0)) n).2)]) (by kernel_rfl) (fun _ => by kernel_rfl)) ?_
    refine s_quiet 21 rfl (by kernel_rfl) (y_val (.bool (bcross rL (rs.getD i (0, 0)) n)) (by kernel_rfl) (fun _ => by kernel_rfl)) ?_
    refine s_quiet 22 rfl (by kernel_rfl) (y_ix (t := 145) gr 0 i ranks ranks 86 2 (i * 2) (by omega) (by omega) (by kernel_rfl) (by kernel_rfl) (by kernel_rfl) (fun _ => by kernel_rfl)) ?_
    refine s_one 23 rfl (by kernel_rfl) rfl ?_
    clear H
    intro v5 H
    refine x_storeRow (t := 86) (v := .agg #[.int .i64 ((bfill (rs.getD i (0, 0)) n).1), .int .i64 ((bfill (rs.getD i (0, 0)) n).2)]) H 3 gr (i * 2) ranks ranks 86 2 (List.flatMap bukL rs) [.int .i64 ((bfill (rs.getD i (0, 0)) n).1), .int .i64 ((bfill (rs.getD i (0, 0)) n).2)] (List.flatMap bukL (rs.set i (bfill (rs.getD i (0, 0)) n))) [.blk g2 #[.bool false, .bool false] 90, .blk g1 #[.bool false, .bool false] 90, .blk p #[.int .i64 rL, .int .i64 rE, .int .i64 pL, .int .i64 pE, .int .i64 ((room : Nat) : Int), .int .i64 hv, .slice (some ⟨gr, 0, none⟩) ranks ranks, .pointer (some ⟨t, 0, none⟩)] 187, .row (.slice (some ⟨gr, 0, none⟩) ranks ranks) 86 2 ranks (List.flatMap bukL (rs.set i (bfill (rs.getD i (0, 0)) n))), .blk t #[sv, .int .i64 ((room : Nat) : Int), .func (.func 103) #[] #[]] 228, .row (sv) 230 3 (List.length xs) (List.flatMap pairLB xs)] rfl (by simp only [List.length_cons, List.length_nil]; omega) (by kernel_rfl) (setFlat bukLen (by omega) (bfill (rs.getD i (0, 0)) n)) rfl (by kernel_rfl) rfl (by kernel_rfl) (by kernel_rfl) (by kernel_rfl) ?_
    clear H
    intro v6 H
    refine x_nil ?_
    refine x_then ?_
    refine ⟨fun w' => Hs (fps [.blk p #[.int .i64 rL, .int .i64 rE, .int .i64 pL, .int .i64 pE, .int .i64 ((room : Nat) : Int), .int .i64 hv, .slice (some ⟨gr, 0, none⟩) ranks ranks, .pointer (some ⟨t, 0, none⟩)] 187, .row (.slice (some ⟨gr, 0, none⟩) ranks ranks) 86 2 ranks (List.flatMap bukL rs), .blk t #[sv, .int .i64 ((room : Nat) : Int), .func (.func 103) #[] #[]] 228, .row (sv) 230 3 (List.length xs) (List.flatMap pairLB xs)]) w0 w' [.blk g1 #[.bool false, .bool false] 90, .blk p #[.int .i64 rL, .int .i64 rE, .int .i64 pL, .int .i64 pE, .int .i64 ((room : Nat) : Int), .int .i64 hv, .slice (some ⟨gr, 0, none⟩) ranks ranks, .pointer (some ⟨t, 0, none⟩)] 187, .row (.slice (some ⟨gr, 0, none⟩) ranks ranks) 86 2 ranks (List.flatMap bukL (rs.set i (bfill (rs.getD i (0, 0)) n))), .blk t #[sv, .int .i64 ((room : Nat) : Int), .func (.func 103) #[] #[]] 228, .row (sv) 230 3 (List.length xs) (List.flatMap pairLB xs)], fun w' => Hs (fps [.blk p #[.int .i64 rL, .int .i64 rE, .int .i64 pL, .int .i64 pE, .int .i64 ((room : Nat) : Int), .int .i64 hv, .slice (some ⟨gr, 0, none⟩) ranks ranks, .pointer (some ⟨t, 0, none⟩)] 187, .row (.slice (some ⟨gr, 0, none⟩) ranks ranks) 86 2 ranks (List.flatMap bukL rs), .blk t #[sv, .int .i64 ((room : Nat) : Int), .func (.func 103) #[] #[]] 228, .row (sv) 230 3 (List.length xs) (List.flatMap pairLB xs)]) w0 w' [.blk g2 #[.bool false, .bool false] 90, .blk g1 #[.bool false, .bool false] 90, .blk p #[.int .i64 rL, .int .i64 rE, .int .i64 pL, .int .i64 pE, .int .i64 ((room : Nat) : Int), .int .i64 hv, .slice (some ⟨gr, 0, none⟩) ranks ranks, .pointer (some ⟨t, 0, none⟩)] 187, .row (.slice (some ⟨gr, 0, none⟩) ranks ranks) 86 2 ranks (List.flatMap bukL (rs.set i (bfill (rs.getD i (0, 0)) n))), .blk t #[sv, .int .i64 ((room : Nat) : Int), .func (.func 103) #[] #[]] 228, .row (sv) 230 3 (List.length xs) (List.flatMap pairLB xs)], H, hsShut, fun _ h => h.pick [1, 2, 3, 4, 5] _ (by decide) (by kernel_rfl), fun _ h => h.pick [0, 1, 3, 4] _ (by decide) (by kernel_rfl), ?_⟩
    refine s_quiet 24 rfl (by kernel_rfl) (y_val (.pointer (some ⟨g2, 0, none⟩)) (by kernel_rfl) (fun _ => by kernel_rfl)) ?_
    refine s_one 25 rfl (by kernel_rfl) rfl ?_
    clear H
    intro v7 H
    refine x_store (t := 4) (v := .bool (bcross rL (rs.getD i (0, 0)) n)) H 0 g2 0 _ #[.bool (bcross rL (rs.getD i (0, 0)) n), .bool false] 90 [.bool (bcross rL (rs.getD i (0, 0)) n)] _ rfl rfl (by kernel_rfl) (by kernel_rfl) (by kernel_rfl) rfl (by kernel_rfl) (by kernel_rfl) (by kernel_rfl) (by kernel_rfl) ?_
    clear H
    intro v8 H
    refine x_nil ?_
    refine x_then ?_
    refine ⟨fun w' => Hs (fps [.blk p #[.int .i64 rL, .int .i64 rE, .int .i64 pL, .int .i64 pE, .int .i64 ((room : Nat) : Int), .int .i64 hv, .slice (some ⟨gr, 0, none⟩) ranks ranks, .pointer (some ⟨t, 0, none⟩)] 187, .row (.slice (some ⟨gr, 0, none⟩) ranks ranks) 86 2 ranks (List.flatMap bukL rs), .blk t #[sv, .int .i64 ((room : Nat) : Int), .func (.func 103) #[] #[]] 228, .row (sv) 230 3 (List.length xs) (List.flatMap pairLB xs)]) w0 w' [.blk g2 #[.bool (bcross rL (rs.getD i (0, 0)) n), .bool false] 90, .blk g1 #[.bool false, .bool false] 90, .blk p #[.int .i64 rL, .int .i64 rE, .int .i64 pL, .int .i64 pE, .int .i64 ((room : Nat) : Int), .int .i64 hv, .slice (some ⟨gr, 0, none⟩) ranks ranks, .pointer (some ⟨t, 0, none⟩)] 187, .row (.slice (some ⟨gr, 0, none⟩) ranks ranks) 86 2 ranks (List.flatMap bukL (rs.set i (bfill (rs.getD i (0, 0)) n))), .blk t #[sv, .int .i64 ((room : Nat) : Int), .func (.func 103) #[] #[]] 228, .row (sv) 230 3 (List.length xs) (List.flatMap pairLB xs)], fun w' => Hs (fps [.blk p #[.int .i64 rL, .int .i64 rE, .int .i64 pL, .int .i64 pE, .int .i64 ((room : Nat) : Int), .int .i64 hv, .slice (some ⟨gr, 0, none⟩) ranks ranks, .pointer (some ⟨t, 0, none⟩)] 187, .row (.slice (some ⟨gr, 0, none⟩) ranks ranks) 86 2 ranks (List.flatMap bukL rs), .blk t #[sv, .int .i64 ((room : Nat) : Int), .func (.func 103) #[] #[]] 228, .row (sv) 230 3 (List.length xs) (List.flatMap pairLB xs)]) w0 w' [.blk g2 #[.bool (bcross rL (rs.getD i (0, 0)) n), .bool false] 90, .blk g1 #[.bool false, .bool false] 90, .blk p #[.int .i64 rL, .int .i64 rE, .int .i64 pL, .int .i64 pE, .int .i64 ((room : Nat) : Int), .int .i64 hv, .slice (some ⟨gr, 0, none⟩) ranks ranks, .pointer (some ⟨t, 0, none⟩)] 187, .row (.slice (some ⟨gr, 0, none⟩) ranks ranks) 86 2 ranks (List.flatMap bukL (rs.set i (bfill (rs.getD i (0, 0)) n))), .blk t #[sv, .int .i64 ((room : Nat) : Int), .func (.func 103) #[] #[]] 228, .row (sv) 230 3 (List.length xs) (List.flatMap pairLB xs)], H, hsShut, fun _ h => h.pick [0, 1, 2, 3, 4, 5] _ (by decide) (by kernel_rfl), fun _ h => h.pick [1, 2, 3, 4, 5] _ (by decide) (by kernel_rfl), ?_⟩
    refine s_done (by kernel_rfl) ?_
    clear H
    intro v9 H
    refine x_then ?_
    refine x_seq ?_
    refine x_region ?_
    refine x_val (.pointer (some ⟨p, 0, none⟩)) (by kernel_rfl) rfl (by kernel_rfl) ?_
    refine x_val (.pointer (some ⟨p, 0, none⟩)) (by kernel_rfl) rfl (by kernel_rfl) ?_
    refine x_val (.pointer (some ⟨p, 7, none⟩)) (by kernel_rfl) rfl (by kernel_rfl) ?_
    refine x_load1 H 2 p 7 _ _ (.pointer (some ⟨t, 0, none⟩)) rfl (by kernel_rfl) (by kernel_rfl) rfl (by kernel_rfl) ?_
    refine x_val (.int .i64 page) (by kernel_rfl) rfl (by kernel_rfl) ?_
    refine x_callB (.tuple #[.agg #[.int .i64 ((getB xs page).1), .int .i64 ((getB xs page).2)], .bool (decide (fkB xs page < List.length xs))]) H (by kernel_rfl) rfl (by kernel_rfl) (Get_B page (by omega) _ (H.roOf [4, 5] [.blk t #[sv, .int .i64 ((room : Nat) : Int), .func (.func 103) #[] #[]] 228, .row (sv) 230 3 (List.length xs) (List.flatMap pairLB xs)] (by kernel_rfl))) ?_
    clear H
    intro v10 H
    refine x_val (.tuple #[.agg #[.int .i64 ((getB xs page).1), .int .i64 ((getB xs page).2)], .bool (decide (fkB xs page < List.length xs))]) (by kernel_rfl) rfl (by kernel_rfl) ?_
    refine x_val (.agg #[.int .i64 ((getB xs page).1), .int .i64 ((getB xs page).2)]) (by kernel_rfl) rfl (by kernel_rfl) ?_
    refine x_val (.bool (decide (fkB xs page < List.length xs))) (by kernel_rfl) rfl (by kernel_rfl) ?_
    refine x_box H #[.int .i64 0, .int .i64 0] 86 (by kernel_rfl) rfl (by kernel_rfl) ?_
    clear H
    intro v11 g3 H
    refine x_store (t := 86) (v := .agg #[.int .i64 ((getB xs page).1), .int .i64 ((getB xs page).2)]) H 0 g3 0 _ #[.int .i64 ((getB xs page).1), .int .i64 ((getB xs page).2)] 86 [.int .i64 ((getB xs page).1), .int .i64 ((getB xs page).2)] _ rfl rfl (by kernel_rfl) (by kernel_rfl) (by kernel_rfl) rfl (by kernel_rfl) (by kernel_rfl) (by kernel_rfl) (by kernel_rfl) ?_
    clear H
    intro v12 H
    refine x_val (.bool (decide (fkB xs page < List.length xs))) (by kernel_rfl) rfl (by kernel_rfl) ?_
    refine x_nil ?_
    refine x_then ?_
    refine x_seq ?_
    refine x_region_s 14 (fun w' => Hs (fps [.blk p #[.int .i64 rL, .int .i64 rE, .int .i64 pL, .int .i64 pE, .int .i64 ((room : Nat) : Int), .int .i64 hv, .slice (some ⟨gr, 0, none⟩) ranks ranks, .pointer (some ⟨t, 0, none⟩)] 187, .row (.slice (some ⟨gr, 0, none⟩) ranks ranks) 86 2 ranks (List.flatMap bukL rs), .blk t #[sv, .int .i64 ((room : Nat) : Int), .func (.func 103) #[] #[]] 228, .row (sv) 230 3 (List.length xs) (List.flatMap pairLB xs)]) w0 w' [.blk g1 #[.bool false, .bool false] 90, .blk p #[.int .i64 rL, .int .i64 rE, .int .i64 pL, .int .i64 pE, .int .i64 ((room : Nat) : Int), .int .i64 hv, .slice (some ⟨gr, 0, none⟩) ranks ranks, .pointer (some ⟨t, 0, none⟩)] 187, .row (.slice (some ⟨gr, 0, none⟩) ranks ranks) 86 2 ranks (List.flatMap bukL (rs.set i (bfill (rs.getD i (0, 0)) n))), .blk t #[sv, .int .i64 ((room : Nat) : Int), .func (.func 103) #[] #[]] 228, .row (sv) 230 3 (List.length xs) (List.flatMap pairLB xs)]) (fun w' => Hs (fps [.blk p #[.int .i64 rL, .int .i64 rE, .int .i64 pL, .int .i64 pE, .int .i64 ((room : Nat) : Int), .int .i64 hv, .slice (some ⟨gr, 0, none⟩) ranks ranks, .pointer (some ⟨t, 0, none⟩)] 187, .row (.slice (some ⟨gr, 0, none⟩) ranks ranks) 86 2 ranks (List.flatMap bukL rs), .blk t #[sv, .int .i64 ((room : Nat) : Int), .func (.func 103) #[] #[]] 228, .row (sv) 230 3 (List.length xs) (List.flatMap pairLB xs)]) w0 w' [.blk g3 #[.int .i64 ((getB xs page).1), .int .i64 ((getB xs page).2)] 86, .blk g2 #[.bool (bcross rL (rs.getD i (0, 0)) n), .bool false] 90, .blk g1 #[.bool false, .bool false] 90, .blk p #[.int .i64 rL, .int .i64 rE, .int .i64 pL, .int .i64 pE, .int .i64 ((room : Nat) : Int), .int .i64 hv, .slice (some ⟨gr, 0, none⟩) ranks ranks, .pointer (some ⟨t, 0, none⟩)] 187, .row (.slice (some ⟨gr, 0, none⟩) ranks ranks) 86 2 ranks (List.flatMap bukL (rs.set i (bfill (rs.getD i (0, 0)) n))), .blk t #[sv, .int .i64 ((room : Nat) : Int), .func (.func 103) #[] #[]] 228, .row (sv) 230 3 (List.length xs) (List.flatMap pairLB xs)]) (by kernel_rfl) (by kernel_rfl) (by kernel_rfl) hsShut (fun _ h => h.pick [2, 3, 4, 5, 6] _ (by decide) (by kernel_rfl)) H.drew ?_
    refine s_quiet 1 rfl (by kernel_rfl) (y_val (.pointer (some ⟨p, 0, none⟩)) (by kernel_rfl) (fun _ => by kernel_rfl)) ?_
    refine s_quiet 2 rfl (by kernel_rfl) (y_val (.pointer (some ⟨p, 0, none⟩)) (by kernel_rfl) (fun _ => by kernel_rfl)) ?_
    refine s_quiet 3 rfl (by kernel_rfl) (y_val (.pointer (some ⟨p, 0, none⟩)) (by kernel_rfl) (fun _ => by kernel_rfl)) ?_
    refine s_quiet 4 rfl (by kernel_rfl) (y_val (.pointer (some ⟨p, 2, none⟩)) (by kernel_rfl) (fun _ => by kernel_rfl)) ?_
    refine s_quiet 5 rfl (by kernel_rfl) (y_loadn (t := 78) 1 p 2 #[.int .i64 rL, .int .i64 rE, .int .i64 pL, .int .i64 pE, .int .i64 ((room : Nat) : Int), .int .i64 hv, .slice (some ⟨gr, 0, none⟩) ranks ranks, .pointer (some ⟨t, 0, none⟩)] 187 [.int .i64 pL, .int .i64 pE] (by kernel_rfl) (by kernel_rfl) (by kernel_rfl) (by kernel_rfl) (by kernel_rfl)) ?_
    refine s_quiet 6 rfl (by kernel_rfl) (y_val (.int .i64 n) (by kernel_rfl) (fun _ => by kernel_rfl)) ?_
    refine s_one 0 rfl (by kernel_rfl) rfl ?_
    clear H
    intro v13 H
    refine x_loadn (t := 86) H 0 g3 0 _ _ [.int .i64 ((getB xs page).1), .int .i64 ((getB xs page).2)] rfl (by kernel_rfl) (by kernel_rfl) rfl (by kernel_rfl) (by kernel_rfl) ?_
    refine x_nil ?_
    refine x_then ?_
    refine ⟨fun w' => Hs (fps [.blk p #[.int .i64 rL, .int .i64 rE, .int .i64 pL, .int .i64 pE, .int .i64 ((room : Nat) : Int), .int .i64 hv, .slice (some ⟨gr, 0, none⟩) ranks ranks, .pointer (some ⟨t, 0, none⟩)] 187, .row (.slice (some ⟨gr, 0, none⟩) ranks ranks) 86 2 ranks (List.flatMap bukL rs), .blk t #[sv, .int .i64 ((room : Nat) : Int), .func (.func 103) #[] #[]] 228, .row (sv) 230 3 (List.length xs) (List.flatMap pairLB xs)]) w0 w' [.blk g1 #[.bool false, .bool false] 90, .blk p #[.int .i64 rL, .int .i64 rE, .int .i64 pL, .int .i64 pE, .int .i64 ((room : Nat) : Int), .int .i64 hv, .slice (some ⟨gr, 0, none⟩) ranks ranks, .pointer (some ⟨t, 0, none⟩)] 187, .row (.slice (some ⟨gr, 0, none⟩) ranks ranks) 86 2 ranks (List.flatMap bukL (rs.set i (bfill (rs.getD i (0, 0)) n))), .blk t #[sv, .int .i64 ((room : Nat) : Int), .func (.func 103) #[] #[]] 228, .row (sv) 230 3 (List.length xs) (List.flatMap pairLB xs)], fun w' => Hs (fps [.blk p #[.int .i64 rL, .int .i64 rE, .int .i64 pL, .int .i64 pE, .int .i64 ((room : Nat) : Int), .int .i64 hv, .slice (some ⟨gr, 0, none⟩) ranks ranks, .pointer (some ⟨t, 0, none⟩)] 187, .row (.slice (some ⟨gr, 0, none⟩) ranks ranks) 86 2 ranks (List.flatMap bukL rs), .blk t #[sv, .int .i64 ((room : Nat) : Int), .func (.func 103) #[] #[]] 228, .row (sv) 230 3 (List.length xs) (List.flatMap pairLB xs)]) w0 w' [.blk g3 #[.int .i64 ((getB xs page).1), .int .i64 ((getB xs page).2)] 86, .blk g2 #[.bool (bcross rL (rs.getD i (0, 0)) n), .bool false] 90, .blk g1 #[.bool false, .bool false] 90, .blk p #[.int .i64 rL, .int .i64 rE, .int .i64 pL, .int .i64 pE, .int .i64 ((room : Nat) : Int), .int .i64 hv, .slice (some ⟨gr, 0, none⟩) ranks ranks, .pointer (some ⟨t, 0, none⟩)] 187, .row (.slice (some ⟨gr, 0, none⟩) ranks ranks) 86 2 ranks (List.flatMap bukL (rs.set i (bfill (rs.getD i (0, 0)) n))), .blk t #[sv, .int .i64 ((room : Nat) : Int), .func (.func 103) #[] #[]] 228, .row (sv) 230 3 (List.length xs) (List.flatMap pairLB xs)], H, hsShut, fun _ h => h.pick [2, 3, 4, 5, 6] _ (by decide) (by kernel_rfl), fun _ h => h.pick [0, 1, 2, 3, 4] _ (by decide) (by kernel_rfl), ?_⟩
    refine s_quiet 7 rfl (by kernel_rfl) (y_callB (.tuple #[.agg #[.int .i64 ((bfill (getB xs page) n).1), .int .i64 ((bfill (getB xs page) n).2)], .bool (bcross pL (getB xs page) n)]) (by kernel_rfl) (fun _ => by kernel_rfl) (fun _ => (Fill_ok pL pE ((getB xs page).1) ((getB xs page).2) n hp (getB_ok hp.2.2.1 hc page) hn _))) ?_
    refine s_quiet 8 rfl (by kernel_rfl) (y_val (.tuple #[.agg #[.int .i64 ((bfill (getB xs page) n).1), .int .i64 ((bfill (getB xs page) n).2)], .bool (bcross pL (getB xs page) n)]) (by kernel_rfl) (fun _ => by kernel_rfl)) ?_
    refine s_quiet 9 rfl (by kernel_rfl) (y_val (.agg #[.int .i64 ((bfill (getB xs page) n).1), .int .i64 ((bfill (getB xs page) n).2)]) (by kernel_rfl) (fun _ => by kernel_rfl)) ?_
    refine s_quiet 10 rfl (by kernel_rfl) (y_val (.bool (bcross pL (getB xs page) n)) (by kernel_rfl) (fun _ => by kernel_rfl)) ?_
    refine s_one 11 rfl (by kernel_rfl) rfl ?_
    clear H
    intro v14 H
    refine x_store (t := 86) (v := .agg #[.int .i64 ((bfill (getB xs page) n).1), .int .i64 ((bfill (getB xs page) n).2)]) H 0 g3 0 _ #[.int .i64 ((bfill (getB xs page) n).1), .int .i64 ((bfill (getB xs page) n).2)] 86 [.int .i64 ((bfill (getB xs page) n).1), .int .i64 ((bfill (getB xs page) n).2)] _ rfl rfl (by kernel_rfl) (by kernel_rfl) (by kernel_rfl) rfl (by kernel_rfl) (by kernel_rfl) (by kernel_rfl) (by kernel_rfl) ?_
    clear H
    intro v15 H
    refine x_nil ?_
    refine x_then ?_
    refine ⟨fun w' => Hs (fps [.blk p #[.int .i64 rL, .int .i64 rE, .int .i64 pL, .int .i64 pE, .int .i64 ((room : Nat) : Int), .int .i64 hv, .slice (some ⟨gr, 0, none⟩) ranks ranks, .pointer (some ⟨t, 0, none⟩)] 187, .row (.slice (some ⟨gr, 0, none⟩) ranks ranks) 86 2 ranks (List.flatMap bukL rs), .blk t #[sv, .int .i64 ((room : Nat) : Int), .func (.func 103) #[] #[]] 228, .row (sv) 230 3 (List.length xs) (List.flatMap pairLB xs)]) w0 w' [.blk g3 #[.int .i64 ((bfill (getB xs page) n).1), .int .i64 ((bfill (getB xs page) n).2)] 86, .blk g1 #[.bool false, .bool false] 90, .blk p #[.int .i64 rL, .int .i64 rE, .int .i64 pL, .int .i64 pE, .int .i64 ((room : Nat) : Int), .int .i64 hv, .slice (some ⟨gr, 0, none⟩) ranks ranks, .pointer (some ⟨t, 0, none⟩)] 187, .row (.slice (some ⟨gr, 0, none⟩) ranks ranks) 86 2 ranks (List.flatMap bukL (rs.set i (bfill (rs.getD i (0, 0)) n))), .blk t #[sv, .int .i64 ((room : Nat) : Int), .func (.func 103) #[] #[]] 228, .row (sv) 230 3 (List.length xs) (List.flatMap pairLB xs)], fun w' => Hs (fps [.blk p #[.int .i64 rL, .int .i64 rE, .int .i64 pL, .int .i64 pE, .int .i64 ((room : Nat) : Int), .int .i64 hv, .slice (some ⟨gr, 0, none⟩) ranks ranks, .pointer (some ⟨t, 0, none⟩)] 187, .row (.slice (some ⟨gr, 0, none⟩) ranks ranks) 86 2 ranks (List.flatMap bukL rs), .blk t #[sv, .int .i64 ((room : Nat) : Int), .func (.func 103) #[] #[]] 228, .row (sv) 230 3 (List.length xs) (List.flatMap pairLB xs)]) w0 w' [.blk g3 #[.int .i64 ((bfill (getB xs page) n).1), .int .i64 ((bfill (getB xs page) n).2)] 86, .blk g2 #[.bool (bcross rL (rs.getD i (0, 0)) n), .bool false] 90, .blk g1 #[.bool false, .bool false] 90, .blk p #[.int .i64 rL, .int .i64 rE, .int .i64 pL, .int .i64 pE, .int .i64 ((room : Nat) : Int), .int .i64 hv, .slice (some ⟨gr, 0, none⟩) ranks ranks, .pointer (some ⟨t, 0, none⟩)] 187, .row (.slice (some ⟨gr, 0, none⟩) ranks ranks) 86 2 ranks (List.flatMap bukL (rs.set i (bfill (rs.getD i (0, 0)) n))), .blk t #[sv, .int .i64 ((room : Nat) : Int), .func (.func 103) #[] #[]] 228, .row (sv) 230 3 (List.length xs) (List.flatMap pairLB xs)], H, hsShut, fun _ h => h.pick [0, 2, 3, 4, 5, 6] _ (by decide) (by kernel_rfl), fun _ h => h.pick [1, 2, 3, 4, 5] _ (by decide) (by kernel_rfl), ?_⟩
    refine s_quiet 12 rfl (by kernel_rfl) (y_val (.pointer (some ⟨g2, 1, none⟩)) (by kernel_rfl) (fun _ => by kernel_rfl)) ?_
    refine s_one 13 rfl (by kernel_rfl) rfl ?_
    clear H
    intro v16 H
    refine x_store (t := 4) (v := .bool (bcross pL (getB xs page) n)) H 1 g2 1 _ #[.bool (bcross rL (rs.getD i (0, 0)) n), .bool (bcross pL (getB xs page) n)] 90 [.bool (bcross pL (getB xs page) n)] _ rfl rfl (by kernel_rfl) (by kernel_rfl) (by kernel_rfl) rfl (by kernel_rfl) (by kernel_rfl) (by kernel_rfl) (by kernel_rfl) ?_
    clear H
    intro v17 H
    refine x_nil ?_
    refine x_then ?_
    refine ⟨fun w' => Hs (fps [.blk p #[.int .i64 rL, .int .i64 rE, .int .i64 pL, .int .i64 pE, .int .i64 ((room : Nat) : Int), .int .i64 hv, .slice (some ⟨gr, 0, none⟩) ranks ranks, .pointer (some ⟨t, 0, none⟩)] 187, .row (.slice (some ⟨gr, 0, none⟩) ranks ranks) 86 2 ranks (List.flatMap bukL rs), .blk t #[sv, .int .i64 ((room : Nat) : Int), .func (.func 103) #[] #[]] 228, .row (sv) 230 3 (List.length xs) (List.flatMap pairLB xs)]) w0 w' [.blk g3 #[.int .i64 ((bfill (getB xs page) n).1), .int .i64 ((bfill (getB xs page) n).2)] 86, .blk g2 #[.bool (bcross rL (rs.getD i (0, 0)) n), .bool (bcross pL (getB xs page) n)] 90, .blk g1 #[.bool false, .bool false] 90, .blk p #[.int .i64 rL, .int .i64 rE, .int .i64 pL, .int .i64 pE, .int .i64 ((room : Nat) : Int), .int .i64 hv, .slice (some ⟨gr, 0, none⟩) ranks ranks, .pointer (some ⟨t, 0, none⟩)] 187, .row (.slice (some ⟨gr, 0, none⟩) ranks ranks) 86 2 ranks (List.flatMap bukL (rs.set i (bfill (rs.getD i (0, 0)) n))), .blk t #[sv, .int .i64 ((room : Nat) : Int), .func (.func 103) #[] #[]] 228, .row (sv) 230 3 (List.length xs) (List.flatMap pairLB xs)], fun w' => Hs (fps [.blk p #[.int .i64 rL, .int .i64 rE, .int .i64 pL, .int .i64 pE, .int .i64 ((room : Nat) : Int), .int .i64 hv, .slice (some ⟨gr, 0, none⟩) ranks ranks, .pointer (some ⟨t, 0, none⟩)] 187, .row (.slice (some ⟨gr, 0, none⟩) ranks ranks) 86 2 ranks (List.flatMap bukL rs), .blk t #[sv, .int .i64 ((room : Nat) : Int), .func (.func 103) #[] #[]] 228, .row (sv) 230 3 (List.length xs) (List.flatMap pairLB xs)]) w0 w' [.blk g3 #[.int .i64 ((bfill (getB xs page) n).1), .int .i64 ((bfill (getB xs page) n).2)] 86, .blk g2 #[.bool (bcross rL (rs.getD i (0, 0)) n), .bool (bcross pL (getB xs page) n)] 90, .blk g1 #[.bool false, .bool false] 90, .blk p #[.int .i64 rL, .int .i64 rE, .int .i64 pL, .int .i64 pE, .int .i64 ((room : Nat) : Int), .int .i64 hv, .slice (some ⟨gr, 0, none⟩) ranks ranks, .pointer (some ⟨t, 0, none⟩)] 187, .row (.slice (some ⟨gr, 0, none⟩) ranks ranks) 86 2 ranks (List.flatMap bukL (rs.set i (bfill (rs.getD i (0, 0)) n))), .blk t #[sv, .int .i64 ((room : Nat) : Int), .func (.func 103) #[] #[]] 228, .row (sv) 230 3 (List.length xs) (List.flatMap pairLB xs)], H, hsShut, fun _ h => h.pick [0, 1, 2, 3, 4, 5, 6] _ (by decide) (by kernel_rfl), fun _ h => h.pick [0, 2, 3, 4, 5, 6] _ (by decide) (by kernel_rfl), ?_⟩
    refine s_done (by kernel_rfl) ?_
    clear H
    intro v18 H
    refine x_frame' { tmps := #[.pointer (some ⟨p, 0, none⟩), .int .i64 ((i : Nat) : Int), .int .i64 page, .int .i64 n, undef, undef, undef, undef, .pointer (some ⟨g1, 0, none⟩), .int .i64 0, .pointer (some ⟨g2, 0, none⟩), .pointer (some ⟨g3, 0, none⟩), .bool (decide (fkB xs page < List.length xs)), .pointer (some ⟨p, 0, none⟩), .int .i64 ((i : Nat) : Int), .bool true, .bool false, .bool false, .int .i64 n, .bool false, .bool false, undef, .tuple #[.agg #[.int .i64 ((bfill (rs.getD i (0, 0)) n).1), .int .i64 ((bfill (rs.getD i (0, 0)) n).2)], .bool (bcross rL (rs.getD i (0, 0)) n)], .pointer (some ⟨p, 0, none⟩), .pointer (some ⟨p, 0, none⟩), .pointer (some ⟨p, 6, none⟩), .slice (some ⟨gr, 0, none⟩) ranks ranks, .int .i64 ((i : Nat) : Int), .pointer (some ⟨p, 0, none⟩), .pointer (some ⟨p, 0, none⟩), .pointer (some ⟨p, 6, none⟩), .slice (some ⟨gr, 0, none⟩) ranks ranks, .int .i64 ((i : Nat) : Int), .pointer (some ⟨gr, i * 2, none⟩), .agg #[.int .i64 ((rs.getD i (0, 0)).1), .int .i64 ((rs.getD i (0, 0)).2)], .pointer (some ⟨p, 0, none⟩), .pointer (some ⟨p, 0, none⟩), .pointer (some ⟨p, 0, none⟩), .pointer (some ⟨p, 0, none⟩), .agg #[.int .i64 rL, .int .i64 rE], .int .i64 n, .tuple #[.agg #[.int .i64 ((bfill (rs.getD i (0, 0)) n).1), .int .i64 ((bfill (rs.getD i (0, 0)) n).2)], .bool (bcross rL (rs.getD i (0, 0)) n)], .agg #[.int .i64 ((bfill (rs.getD i (0, 0)) n).1), .int .i64 ((bfill (rs.getD i (0, 0)) n).2)], .bool (bcross rL (rs.getD i (0, 0)) n), .pointer (some ⟨gr, i * 2, none⟩), .pointer (some ⟨g2, 0, none⟩), .tuple #[.agg #[.int .i64 ((getB xs page).1), .int .i64 ((getB xs page).2)], .bool (decide (fkB xs page < List.length xs))], .pointer (some ⟨p, 0, none⟩), .pointer (some ⟨p, 0, none⟩), .pointer (some ⟨p, 7, none⟩), .pointer (some ⟨t, 0, none⟩), .int .i64 page, .tuple #[.agg #[.int .i64 ((getB xs page).1), .int .i64 ((getB xs page).2)], .bool (decide (fkB xs page < List.length xs))], .agg #[.int .i64 ((getB xs page).1), .int .i64 ((getB xs page).2)], .bool (decide (fkB xs page < List.length xs)), .tuple #[.agg #[.int .i64 ((bfill (getB xs page) n).1), .int .i64 ((bfill (getB xs page) n).2)], .bool (bcross pL (getB xs page) n)], .agg #[.int .i64 ((getB xs page).1), .int .i64 ((getB xs page).2)], .pointer (some ⟨p, 0, none⟩), .pointer (some ⟨p, 0, none⟩), .pointer (some ⟨p, 0, none⟩), .pointer (some ⟨p, 2, none⟩), .agg #[.int .i64 pL, .int .i64 pE], .int .i64 n, .tuple #[.agg #[.int .i64 ((bfill (getB xs page) n).1), .int .i64 ((bfill (getB xs page) n).2)], .bool (bcross pL (getB xs page) n)], .agg #[.int .i64 ((bfill (getB xs page) n).1), .int .i64 ((bfill (getB xs page) n).2)], .bool (bcross pL (getB xs page) n), .pointer (some ⟨g2, 1, none⟩), undef, undef, undef, undef, undef, undef, undef, undef], defers := [] } (by kernel_rfl) ?_
    refine x_then ?_
    refine x_seq ?_
    refine x_region_s 7 (fun w' => Hs (fps [.blk p #[.int .i64 rL, .int .i64 rE, .int .i64 pL, .int .i64 pE, .int .i64 ((room : Nat) : Int), .int .i64 hv, .slice (some ⟨gr, 0, none⟩) ranks ranks, .pointer (some ⟨t, 0, none⟩)] 187, .row (.slice (some ⟨gr, 0, none⟩) ranks ranks) 86 2 ranks (List.flatMap bukL rs), .blk t #[sv, .int .i64 ((room : Nat) : Int), .func (.func 103) #[] #[]] 228, .row (sv) 230 3 (List.length xs) (List.flatMap pairLB xs)]) w0 w' [.blk g3 #[.int .i64 ((bfill (getB xs page) n).1), .int .i64 ((bfill (getB xs page) n).2)] 86, .blk g2 #[.bool (bcross rL (rs.getD i (0, 0)) n), .bool (bcross pL (getB xs page) n)] 90, .blk g1 #[.bool false, .bool false] 90, .blk p #[.int .i64 rL, .int .i64 rE, .int .i64 pL, .int .i64 pE, .int .i64 ((room : Nat) : Int), .int .i64 hv, .slice (some ⟨gr, 0, none⟩) ranks ranks, .pointer (some ⟨t, 0, none⟩)] 187, .row (.slice (some ⟨gr, 0, none⟩) ranks ranks) 86 2 ranks (List.flatMap bukL (rs.set i (bfill (rs.getD i (0, 0)) n)))]) (fun w' => Hs (fps [.blk p #[.int .i64 rL, .int .i64 rE, .int .i64 pL, .int .i64 pE, .int .i64 ((room : Nat) : Int), .int .i64 hv, .slice (some ⟨gr, 0, none⟩) ranks ranks, .pointer (some ⟨t, 0, none⟩)] 187, .row (.slice (some ⟨gr, 0, none⟩) ranks ranks) 86 2 ranks (List.flatMap bukL rs), .blk t #[sv, .int .i64 ((room : Nat) : Int), .func (.func 103) #[] #[]] 228, .row (sv) 230 3 (List.length xs) (List.flatMap pairLB xs)]) w0 w' [.blk g3 #[.int .i64 ((bfill (getB xs page) n).1), .int .i64 ((bfill (getB xs page) n).2)] 86, .blk g2 #[.bool (bcross rL (rs.getD i (0, 0)) n), .bool (bcross pL (getB xs page) n)] 90, .blk g1 #[.bool false, .bool false] 90, .blk p #[.int .i64 rL, .int .i64 rE, .int .i64 pL, .int .i64 pE, .int .i64 ((room : Nat) : Int), .int .i64 hv, .slice (some ⟨gr, 0, none⟩) ranks ranks, .pointer (some ⟨t, 0, none⟩)] 187, .row (.slice (some ⟨gr, 0, none⟩) ranks ranks) 86 2 ranks (List.flatMap bukL (rs.set i (bfill (rs.getD i (0, 0)) n))), .blk t #[sv, .int .i64 ((room : Nat) : Int), .func (.func 103) #[] #[]] 228, .row (sv) 230 3 (List.length xs) (List.flatMap pairLB xs)]) (by kernel_rfl) (by kernel_rfl) (by kernel_rfl) hsShut (fun _ h => h.pick [0, 1, 2, 3, 4] _ (by decide) (by kernel_rfl)) H.drew ?_
    refine s_quiet 0 rfl (by kernel_rfl) (y_val (.pointer (some ⟨p, 0, none⟩)) (by kernel_rfl) (fun _ => by kernel_rfl)) ?_
    refine s_quiet 1 rfl (by kernel_rfl) (y_val (.pointer (some ⟨p, 0, none⟩)) (by kernel_rfl) (fun _ => by kernel_rfl)) ?_
    refine s_quiet 2 rfl (by kernel_rfl) (y_val (.pointer (some ⟨p, 7, none⟩)) (by kernel_rfl) (fun _ => by kernel_rfl)) ?_
    refine s_quiet 3 rfl (by kernel_rfl) (y_load1 3 p 7 #[.int .i64 rL, .int .i64 rE, .int .i64 pL, .int .i64 pE, .int .i64 ((room : Nat) : Int), .int .i64 hv, .slice (some ⟨gr, 0, none⟩) ranks ranks, .pointer (some ⟨t, 0, none⟩)] 187 (.pointer (some ⟨t, 0, none⟩)) (by kernel_rfl) (by kernel_rfl) (by kernel_rfl) (fun _ => by kernel_rfl)) ?_
    refine s_quiet 4 rfl (by kernel_rfl) (y_val (.int .i64 page) (by kernel_rfl) (fun _ => by kernel_rfl)) ?_
    refine s_quiet 5 rfl (by kernel_rfl) (y_loadn (t := 86) 0 g3 0 #[.int .i64 ((bfill (getB xs page) n).1), .int .i64 ((bfill (getB xs page) n).2)] 86 [.int .i64 ((bfill (getB xs page) n).1), .int .i64 ((bfill (getB xs page) n).2)] (by kernel_rfl) (by kernel_rfl) (by kernel_rfl) (by kernel_rfl) (by kernel_rfl)) ?_
    refine s_one 6 rfl (by kernel_rfl) rfl ?_
    clear H
    intro v19 H
    refine x_call (by kernel_rfl) rfl (by kernel_rfl) (Hs.useE (A := [.blk t #[sv, .int .i64 ((room : Nat) : Int), .func (.func 103) #[] #[]] 228, .row (sv) 230 3 (List.length xs) (List.flatMap pairLB xs)]) (R := [.blk g3 #[.int .i64 ((bfill (getB xs page) n).1), .int .i64 ((bfill (getB xs page) n).2)] 86, .blk g2 #[.bool (bcross rL (rs.getD i (0, 0)) n), .bool (bcross pL (getB xs page) n)] 90, .blk g1 #[.bool false, .bool false] 90, .blk p #[.int .i64 rL, .int .i64 rE, .int .i64 pL, .int .i64 pE, .int .i64 ((room : Nat) : Int), .int .i64 hv, .slice (some ⟨gr, 0, none⟩) ranks ranks, .pointer (some ⟨t, 0, none⟩)] 187, .row (.slice (some ⟨gr, 0, none⟩) ranks ranks) 86 2 ranks (List.flatMap bukL (rs.set i (bfill (rs.getD i (0, 0)) n)))]) (fun svp => [.blk t #[svp, .int .i64 ((room : Nat) : Int), .func (.func 103) #[] #[]] 228, .row (svp) 230 3 (List.length ((putB room xs page (bfill (getB xs page) n)).1)) (List.flatMap pairLB ((putB room xs page (bfill (getB xs page) n)).1))]) (fun _ => .tuple #[.int .i64 ((putB room xs page (bfill (getB xs page) n)).2.1), .bool ((putB room xs page (bfill (getB xs page) n)).2.2)]) (H.pick [5, 6, 0, 1, 2, 3, 4] _ (by decide) (by kernel_rfl)) (fun h => Put_B page (bfill (getB xs page) n) (by omega) (by omega) (by omega) _ h)) ?_
    rintro _ v20 ⟨svp, rfl, H'⟩
    refine ⟨_, rfl, ?_⟩
    clear H
    have H : Hs (fps [.blk p #[.int .i64 rL, .int .i64 rE, .int .i64 pL, .int .i64 pE, .int .i64 ((room : Nat) : Int), .int .i64 hv, .slice (some ⟨gr, 0, none⟩) ranks ranks, .pointer (some ⟨t, 0, none⟩)] 187, .row (.slice (some ⟨gr, 0, none⟩) ranks ranks) 86 2 ranks (List.flatMap bukL rs), .blk t #[sv, .int .i64 ((room : Nat) : Int), .func (.func 103) #[] #[]] 228, .row (sv) 230 3 (List.length xs) (List.flatMap pairLB xs)]) w0 _ [.blk t #[svp, .int .i64 ((room : Nat) : Int), .func (.func 103) #[] #[]] 228, .row (svp) 230 3 (List.length ((putB room xs page (bfill (getB xs page) n)).1)) (List.flatMap pairLB ((putB room xs page (bfill (getB xs page) n)).1)), .blk g3 #[.int .i64 ((bfill (getB xs page) n).1), .int .i64 ((bfill (getB xs page) n).2)] 86, .blk g2 #[.bool (bcross rL (rs.getD i (0, 0)) n), .bool (bcross pL (getB xs page) n)] 90, .blk g1 #[.bool false, .bool false] 90, .blk p #[.int .i64 rL, .int .i64 rE, .int .i64 pL, .int .i64 pE, .int .i64 ((room : Nat) : Int), .int .i64 hv, .slice (some ⟨gr, 0, none⟩) ranks ranks, .pointer (some ⟨t, 0, none⟩)] 187, .row (.slice (some ⟨gr, 0, none⟩) ranks ranks) 86 2 ranks (List.flatMap bukL (rs.set i (bfill (rs.getD i (0, 0)) n)))] := H'
    clear H'
    refine x_nil ?_
    refine x_then ?_
    refine ⟨fun w' => Hs (fps [.blk p #[.int .i64 rL, .int .i64 rE, .int .i64 pL, .int .i64 pE, .int .i64 ((room : Nat) : Int), .int .i64 hv, .slice (some ⟨gr, 0, none⟩) ranks ranks, .pointer (some ⟨t, 0, none⟩)] 187, .row (.slice (some ⟨gr, 0, none⟩) ranks ranks) 86 2 ranks (List.flatMap bukL rs), .blk t #[sv, .int .i64 ((room : Nat) : Int), .func (.func 103) #[] #[]] 228, .row (sv) 230 3 (List.length xs) (List.flatMap pairLB xs)]) w0 w' [.blk t #[svp, .int .i64 ((room : Nat) : Int), .func (.func 103) #[] #[]] 228, .row (svp) 230 3 (List.length ((putB room xs page (bfill (getB xs page) n)).1)) (List.flatMap pairLB ((putB room xs page (bfill (getB xs page) n)).1)), .blk g3 #[.int .i64 ((bfill (getB xs page) n).1), .int .i64 ((bfill (getB xs page) n).2)] 86, .blk g2 #[.bool (bcross rL (rs.getD i (0, 0)) n), .bool (bcross pL (getB xs page) n)] 90, .blk g1 #[.bool false, .bool false] 90, .blk p #[.int .i64 rL, .int .i64 rE, .int .i64 pL, .int .i64 pE, .int .i64 ((room : Nat) : Int), .int .i64 hv, .slice (some ⟨gr, 0, none⟩) ranks ranks, .pointer (some ⟨t, 0, none⟩)] 187, .row (.slice (some ⟨gr, 0, none⟩) ranks ranks) 86 2 ranks (List.flatMap bukL (rs.set i (bfill (rs.getD i (0, 0)) n)))], fun w' => Hs (fps [.blk p #[.int .i64 rL, .int .i64 rE, .int .i64 pL, .int .i64 pE, .int .i64 ((room : Nat) : Int), .int .i64 hv, .slice (some ⟨gr, 0, none⟩) ranks ranks, .pointer (some ⟨t, 0, none⟩)] 187, .row (.slice (some ⟨gr, 0, none⟩) ranks ranks) 86 2 ranks (List.flatMap bukL rs), .blk t #[sv, .int .i64 ((room : Nat) : Int), .func (.func 103) #[] #[]] 228, .row (sv) 230 3 (List.length xs) (List.flatMap pairLB xs)]) w0 w' [.blk t #[svp, .int .i64 ((room : Nat) : Int), .func (.func 103) #[] #[]] 228, .row (svp) 230 3 (List.length ((putB room xs page (bfill (getB xs page) n)).1)) (List.flatMap pairLB ((putB room xs page (bfill (getB xs page) n)).1)), .blk g3 #[.int .i64 ((bfill (getB xs page) n).1), .int .i64 ((bfill (getB xs page) n).2)] 86, .blk g2 #[.bool (bcross rL (rs.getD i (0, 0)) n), .bool (bcross pL (getB xs page) n)] 90, .blk g1 #[.bool false, .bool false] 90, .blk p #[.int .i64 rL, .int .i64 rE, .int .i64 pL, .int .i64 pE, .int .i64 ((room : Nat) : Int), .int .i64 hv, .slice (some ⟨gr, 0, none⟩) ranks ranks, .pointer (some ⟨t, 0, none⟩)] 187, .row (.slice (some ⟨gr, 0, none⟩) ranks ranks) 86 2 ranks (List.flatMap bukL (rs.set i (bfill (rs.getD i (0, 0)) n)))], H, hsShut, fun _ h => h.pick [0, 1, 2, 3, 4, 5, 6] _ (by decide) (by kernel_rfl), fun _ h => h.pick [2, 3, 4, 5, 6] _ (by decide) (by kernel_rfl), ?_⟩
    refine s_done (by kernel_rfl) ?_
    clear H
    intro v21 H
    refine x_then ?_
    refine x_seq ?_
    refine x_region ?_
    refine x_loadn (t := 90) H 3 g2 0 _ _ [.bool (bcross rL (rs.getD i (0, 0)) n), .bool (bcross pL (getB xs page) n)] rfl (by kernel_rfl) (by kernel_rfl) rfl (by kernel_rfl) (by kernel_rfl) ?_
    refine x_store (t := 90) (v := .agg #[.bool (bcross rL (rs.getD i (0, 0)) n), .bool (bcross pL (getB xs page) n)]) H 4 g1 0 _ #[.bool (bcross rL (rs.getD i (0, 0)) n), .bool (bcross pL (getB xs page) n)] 90 [.bool (bcross rL (rs.getD i (0, 0)) n), .bool (bcross pL (getB xs page) n)] _ rfl rfl (by kernel_rfl) (by kernel_rfl) (by kernel_rfl) rfl (by kernel_rfl) (by kernel_rfl) (by kernel_rfl) (by kernel_rfl) ?_
    clear H
    intro v22 H
    refine x_val (.int .i64 0) (by kernel_rfl) rfl (by kernel_rfl) ?_
    refine x_nil ?_
    refine x_then ?_
    refine x_retc ?_
    refine x_ret (.tuple #[.agg #[.bool (bcross rL (rs.getD i (0, 0)) n), .bool (bcross pL (getB xs page) n)], .int .i64 0]) (by kernel_rfl) (x_rescell H 4 g1 0 #[.bool (bcross rL (rs.getD i (0, 0)) n), .bool (bcross pL (getB xs page) n)] 90 [.bool (bcross rL (rs.getD i (0, 0)) n), .bool (bcross pL (getB xs page) n)] (fun x => .tuple #[x, .int .i64 0]) (by kernel_rfl) (by kernel_rfl) (by kernel_rfl)) ?_
    replace H := H.pick [5, 6, 0, 1] [.blk p #[.int .i64 rL, .int .i64 rE, .int .i64 pL, .int .i64 pE, .int .i64 ((room : Nat) : Int), .int .i64 hv, .slice (some ⟨gr, 0, none⟩) ranks ranks, .pointer (some ⟨t, 0, none⟩)] 187, .row (.slice (some ⟨gr, 0, none⟩) ranks ranks) 86 2 ranks (List.flatMap bukL (rs.set i (bfill (rs.getD i (0, 0)) n))), .blk t #[svp, .int .i64 ((room : Nat) : Int), .func (.func 103) #[] #[]] 228, .row (svp) 230 3 (List.length ((putB room xs page (bfill (getB xs page) n)).1)) (List.flatMap pairLB ((putB room xs page (bfill (getB xs page) n)).1))] (by decide) (by kernel_rfl)
    exact ⟨_, rfl, H⟩
  · skip
    have h1p := of_decide_eq_true h1
    exfalso; omega

end Go.Proofs.Ytgpalgbdacoagaa
