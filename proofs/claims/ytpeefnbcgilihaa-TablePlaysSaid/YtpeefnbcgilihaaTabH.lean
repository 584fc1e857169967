/- A table held against the document's list. -/
import Derived.Test.YtpeefnbcgilihaaTabG
namespace Go.Proofs.Ytpeefnbcgilihaa
open Go Go.RowKit
set_option linter.unusedVariables false
set_option linter.unusedSimpArgs false

/-- No two keys are alike. -/
def Unl (xs : List PairI) : Prop := (xs.map Prod.fst).Nodup
theorem Unl.own {xs : List PairI} (h : Unl xs) {c : Nat} (hc : c < xs.length) : fkI xs (xs.getD c (0, 0)).1 = c := by
  have e : ∀ j, j < xs.length → (xs.getD j (0, 0)).1 = (xs.map Prod.fst).getD j 0 := fun j hj => by simp [List.getD, hj]
  refine find_hit hc (fun j hj he => ?_) rfl
  rw [e j (by omega), e c hc] at he
  have hl : (xs.map Prod.fst).length = xs.length := by simp
  have e1 : (xs.map Prod.fst).getD j 0 = (xs.map Prod.fst)[j]'(by omega) := by simp [List.getD, show j < xs.length by omega]
  have e2 : (xs.map Prod.fst).getD c 0 = (xs.map Prod.fst)[c]'(by omega) := by simp [List.getD, hc]
  rw [e1, e2] at he
  have := (List.getElem_inj h).1 he
  omega
theorem Unl.erase {xs : List PairI} (h : Unl xs) (q : Nat) : Unl (xs.eraseIdx q) := by
  unfold Unl; exact h.sublist ((List.eraseIdx_sublist xs q).map Prod.fst)
theorem Unl.xor {xs : List PairI} (h : Unl xs) (V : Int) : Unl (xorI V xs) := by
  unfold Unl xorI; rw [List.map_map]; exact h
theorem Unl.snoc {xs : List PairI} (h : Unl xs) {k v : Int} (hk : ∀ x ∈ xs, x.1 ≠ k) : Unl (xs ++ [(k, v)]) := by
  unfold Unl
  rw [List.map_append, List.nodup_append]
  refine ⟨h, by simp, ?_⟩
  intro a ha b hb
  simp only [List.map_cons, List.map_nil, List.mem_singleton] at hb
  obtain ⟨x, hx, rfl⟩ := List.mem_map.1 ha
  rw [hb]; exact hk x hx
theorem fk_none {xs : List PairI} {k : Int} (h : ¬ fkI xs k < xs.length) : ∀ x ∈ xs, x.1 ≠ k := fun x hx e => by
  apply h
  unfold fkI
  exact List.findIdx_lt_length_of_exists ⟨x, hx, by simp [eqkI, e]⟩
theorem Unl.put {xs : List PairI} (h : Unl xs) (room : Nat) (k v : Int) : Unl (putI room xs k v).1 := by
  unfold putI
  split
  · rename_i hq
    unfold Unl
    rw [List.map_set]
    have e : (xs.map Prod.fst)[fkI xs k]'(by simpa using hq) = (xs.getD (fkI xs k) (0, 0)).1 := by simp [List.getD, hq]
    show (List.set (xs.map Prod.fst) (fkI xs k) (xs.getD (fkI xs k) (0, 0)).1).Nodup
    rw [← e, List.set_getElem_self]; exact h
  · rename_i hq
    split
    · exact h.snoc (fk_none hq)
    · exact (h.erase _).snoc fun x hx => fk_none hq x (List.mem_of_mem_eraseIdx hx)
theorem put_len {room : Nat} {xs : List PairI} (h : xs.length ≤ room) (h1 : 1 ≤ room) (k v : Int) : (putI room xs k v).1.length ≤ room := by
  unfold putI
  split
  · simpa using h
  · split
    · simp; omega
    · rename_i hq hr
      have hl := lt_ltI xs xs.length (by omega)
      simp only [List.length_append, List.length_eraseIdx, if_pos hl, List.length_cons, List.length_nil]; omega
theorem Unl.step {xs : List PairI} (h : Unl xs) (room : Nat) (o k v : Int) : Unl (stepI room xs o k v) := by
  unfold stepI dropI
  split
  · exact h.put _ _ _
  split
  · split
    · exact h.erase _
    · exact h
  split
  · exact h.xor _
  · exact h
theorem step_len {room : Nat} {xs : List PairI} (h : xs.length ≤ room) (h1 : 1 ≤ room) (o k v : Int) : (stepI room xs o k v).length ≤ room := by
  unfold stepI dropI
  split
  · exact put_len h h1 _ _
  split
  · split
    · have := List.length_eraseIdx_le xs (fkI xs k); omega
    · exact h
  split
  · rw [xorI_len]; exact h
  · exact h

set_option maxRecDepth 100000 in
set_option maxHeartbeats 4000000 in
theorem same_yes {t room : Nat} {sv xv : Value} {xs : List PairI} (hn : xs.length ≤ room) (h2 : room ≤ 4096) (hu : Unl xs) (w0 : World) (H0 : Hs (fps [.blk t #[sv, .int .i64 ((room : Nat) : Int), .func (.func 26) #[] #[]] 90, .row (sv) 92 2 (List.length xs) (List.flatMap pairLI xs), .row (xv) 77 2 (List.length xs) (List.flatMap pairLI xs)]) w0 w0 [.blk t #[sv, .int .i64 ((room : Nat) : Int), .func (.func 26) #[] #[]] 90, .row (sv) 92 2 (List.length xs) (List.flatMap pairLI xs), .row (xv) 77 2 (List.length xs) (List.flatMap pairLI xs)]) :
    Calls Try.prog 32 #[.pointer (some ⟨t, 0, none⟩), xv, .int .i64 ((room : Nat) : Int)] w0 fun e w' => e = .returned (.bool true) ∧ Hs (fps [.blk t #[sv, .int .i64 ((room : Nat) : Int), .func (.func 26) #[] #[]] 90, .row (sv) 92 2 (List.length xs) (List.flatMap pairLI xs), .row (xv) 77 2 (List.length xs) (List.flatMap pairLI xs)]) w0 w' [.blk t #[sv, .int .i64 ((room : Nat) : Int), .func (.func 26) #[] #[]] 90, .row (sv) 92 2 (List.length xs) (List.flatMap pairLI xs), .row (xv) 77 2 (List.length xs) (List.flatMap pairLI xs)] := by
  refine x_enterM Try.func32 rfl #[.pointer (some ⟨t, 0, none⟩), xv, .int .i64 ((room : Nat) : Int), undef, undef, undef, undef, undef, undef, undef, undef, undef, undef, undef, undef, undef, undef, undef, undef, undef, undef, undef, undef, undef, undef, undef, undef, undef, undef, undef, undef, undef, undef, undef, undef, undef, undef, undef, undef, undef, undef, undef, undef, undef, undef, undef, undef, undef, undef, undef, undef, undef, undef, undef, undef, undef, undef, undef, undef, undef, undef, undef, undef, undef, undef, undef, undef, undef, undef, undef, undef, undef, undef, undef] (by kernel_rfl) ?_
  have H := H0
  refine x_seq ?_
  refine x_region ?_
  refine x_box H #[.pointer (some ⟨t, 0, none⟩)] 56 (by kernel_rfl) rfl (by kernel_rfl) ?_
  clear H
  intro v1 g1 H
  have h1c := H.rowCel 3 rfl
  refine x_box H #[xv] 70 (by kernel_rfl) rfl (by rw [← h1c]; kernel_rfl) ?_
  clear H
  intro v2 g2 H
  refine x_box H #[.bool false] 4 (by kernel_rfl) rfl (by kernel_rfl) ?_
  clear H
  intro v3 g3 H
  refine x_nil ?_
  refine x_then ?_
  refine x_seq ?_
  refine x_region ?_
  refine x_box H #[.int .i64 0] 3 (by kernel_rfl) rfl (by kernel_rfl) ?_
  clear H
  intro v4 g4 H
  refine x_store (t := 3) (v := .int .i64 0) H 0 g4 0 #[.int .i64 0] #[.int .i64 0] 3 [.int .i64 0] [.blk g4 #[.int .i64 0] 3, .blk g3 #[.bool false] 4, .blk g2 #[xv] 70, .blk g1 #[.pointer (some ⟨t, 0, none⟩)] 56, .blk t #[sv, .int .i64 ((room : Nat) : Int), .func (.func 26) #[] #[]] 90, .row (sv) 92 2 (List.length xs) (List.flatMap pairLI xs), .row (xv) 77 2 (List.length xs) (List.flatMap pairLI xs)] (by kernel_rfl) rfl (by kernel_rfl) (by kernel_rfl) (by kernel_rfl) (by kernel_rfl) (by kernel_rfl) (by kernel_rfl) (by kernel_rfl) (by kernel_rfl) ?_
  clear H
  intro v5 H
  refine x_nil ?_
  refine x_then ?_
  refine x_seq ?_
  refine x_seq ?_
  refine x_region ?_
  refine x_load1 H 3 g1 0 #[.pointer (some ⟨t, 0, none⟩)] 56 (.pointer (some ⟨t, 0, none⟩)) (by kernel_rfl) (by kernel_rfl) (by kernel_rfl) rfl (by kernel_rfl) ?_
  refine x_call (by kernel_rfl) rfl (by kernel_rfl) (TAll_of t _) ?_
  rintro _ v6 ⟨q, rfl, hN'⟩
  refine ⟨_, rfl, ?_⟩
  replace H := H.more hN'
  clear hN'
  replace H : Hs (fps [.blk t #[sv, .int .i64 ((room : Nat) : Int), .func (.func 26) #[] #[]] 90, .row (sv) 92 2 (List.length xs) (List.flatMap pairLI xs), .row (xv) 77 2 (List.length xs) (List.flatMap pairLI xs)]) w0 _ [.blk q #[.pointer (some ⟨t, 0, none⟩)] 56, .blk g4 #[.int .i64 0] 3, .blk g3 #[.bool false] 4, .blk g2 #[xv] 70, .blk g1 #[.pointer (some ⟨t, 0, none⟩)] 56, .blk t #[sv, .int .i64 ((room : Nat) : Int), .func (.func 26) #[] #[]] 90, .row (sv) 92 2 (List.length xs) (List.flatMap pairLI xs), .row (xv) 77 2 (List.length xs) (List.flatMap pairLI xs)] := H
  refine x_nil ?_
  refine x_then ?_
  refine x_block ?_
  rcases H.rowForm 7 rfl with ⟨rfl, h0⟩ | ⟨gw, cw, rfl, hcw, -⟩
  · skip
    replace H := H.pick [1, 0, 5, 6, 4, 3, 7, 2] [.blk g4 #[.int .i64 0] 3, .blk q #[.pointer (some ⟨t, 0, none⟩)] 56, .blk t #[sv, .int .i64 ((room : Nat) : Int), .func (.func 26) #[] #[]] 90, .row (sv) 92 2 (List.length xs) (List.flatMap pairLI xs), .blk g1 #[.pointer (some ⟨t, 0, none⟩)] 56, .blk g2 #[.slice none 0 0] 70, .row (.slice none 0 0) 77 2 (List.length xs) (List.flatMap pairLI xs), .blk g3 #[.bool false] 4] (by decide) (by kernel_rfl)
    replace H : Hs (fps [.blk t #[sv, .int .i64 ((room : Nat) : Int), .func (.func 26) #[] #[]] 90, .row (sv) 92 2 (List.length xs) (List.flatMap pairLI xs), .row (.slice none 0 0) 77 2 (List.length xs) (List.flatMap pairLI xs)]) w0 _ [.blk g4 #[.int .i64 ((0 : Nat) : Int)] 3, .blk q #[.pointer (some ⟨t, 0, none⟩)] 56, .blk t #[sv, .int .i64 ((room : Nat) : Int), .func (.func 26) #[] #[]] 90, .row (sv) 92 2 (List.length xs) (List.flatMap pairLI xs), .blk g1 #[.pointer (some ⟨t, 0, none⟩)] 56, .blk g2 #[.slice none 0 0] 70, .row (.slice none 0 0) 77 2 (List.length xs) (List.flatMap pairLI xs), .blk g3 #[.bool false] 4] := H
    refine x_rangeB (α := PairI) (G := Nat) xs (fun x => #[.int .i64 x.1, .int .i64 x.2]) [.blk q #[.pointer (some ⟨t, 0, none⟩)] 56, .blk t #[sv, .int .i64 ((room : Nat) : Int), .func (.func 26) #[] #[]] 90, .row (sv) 92 2 (List.length xs) (List.flatMap pairLI xs)] [1, 2, 3] (fps [.blk g4 #[.int .i64 ((0 : Nat) : Int)] 3, .blk q #[.pointer (some ⟨t, 0, none⟩)] 56, .blk t #[sv, .int .i64 ((room : Nat) : Int), .func (.func 26) #[] #[]] 90, .row (sv) 92 2 (List.length xs) (List.flatMap pairLI xs), .blk g1 #[.pointer (some ⟨t, 0, none⟩)] 56, .blk g2 #[.slice none 0 0] 70, .row (.slice none 0 0) 77 2 (List.length xs) (List.flatMap pairLI xs), .blk g3 #[.bool false] 4]) (fun pre (c : Nat) => c = List.length pre) (fun pre (c : Nat) => [.blk g4 #[.int .i64 ((c : Nat) : Int)] 3, .blk q #[.pointer (some ⟨t, 0, none⟩)] 56, .blk t #[sv, .int .i64 ((room : Nat) : Int), .func (.func 26) #[] #[]] 90, .row (sv) 92 2 (List.length xs) (List.flatMap pairLI xs), .blk g1 #[.pointer (some ⟨t, 0, none⟩)] 56, .blk g2 #[.slice none 0 0] 70, .row (.slice none 0 0) 77 2 (List.length xs) (List.flatMap pairLI xs), .blk g3 #[.bool false] 4]) (fun cd pre (c : Nat) => (cd = .ret ∧ (¬ (pre <+: xs)))) (fun x b => []) (fun x b => { tmps := #[.pointer (some ⟨t, 0, none⟩), .slice none 0 0, .int .i64 ((room : Nat) : Int), .pointer (some ⟨g1, 0, none⟩), .pointer (some ⟨g2, 0, none⟩), undef, .pointer (some ⟨g3, 0, none⟩), .pointer (some ⟨g4, 0, none⟩), .int .i64 x.1, .int .i64 x.2, undef, undef, .pointer (some ⟨t, 0, none⟩), .func (.func 43) #[] #[.pointer (some ⟨q, 0, none⟩)], .int .i64 x.1, .int .i64 x.2, undef, undef, undef, undef, undef, undef, undef, undef, undef, undef, undef, undef, undef, undef, undef, undef, undef, undef, undef, undef, undef, undef, undef, undef, undef, undef, undef, undef, undef, undef, undef, undef, undef, undef, undef, undef, undef, undef, undef, undef, undef, undef, undef, undef, undef, undef, undef, undef, undef, undef, undef, undef, undef, undef, undef, undef, undef, undef], defers := [] }) 0 (by kernel_rfl) (enters_of Try.func43 (by kernel_rfl) rfl) (tvals_of (by omega) _ (H.roOf [1, 2, 3] _ (by kernel_rfl))) (fun _ => rfl) rfl (by rintro _ c; rfl) (by rintro _ c; rfl) (by rintro _ c; rfl) (fun _ _ => rfl) (fun _ _ => rfl) H rfl ?_ ?_ ?_ ?_
    · skip
      clear H
      rintro lrnd pre x c W1 hI H
      refine x_at (b := { tmps := #[.pointer (some ⟨t, 0, none⟩), .slice none 0 0, .int .i64 ((room : Nat) : Int), .pointer (some ⟨g1, 0, none⟩), .pointer (some ⟨g2, 0, none⟩), undef, .pointer (some ⟨g3, 0, none⟩), .pointer (some ⟨g4, 0, none⟩), undef, undef, undef, undef, .pointer (some ⟨t, 0, none⟩), .func (.func 43) #[] #[.pointer (some ⟨q, 0, none⟩)], .int .i64 x.1, .int .i64 x.2, undef, undef, undef, undef, undef, undef, undef, undef, undef, undef, undef, undef, undef, undef, undef, undef, undef, undef, undef, undef, undef, undef, undef, undef, undef, undef, undef, undef, undef, undef, undef, undef, undef, undef, undef, undef, undef, undef, undef, undef, undef, undef, undef, undef, undef, undef, undef, undef, undef, undef, undef, undef, undef, undef, undef, undef, undef, undef], defers := [] }) (by kernel_rfl) ?_
      refine x_seq ?_
      refine x_region ?_
      refine x_val (.int .i64 x.1) (by kernel_rfl) rfl (by kernel_rfl) ?_
      refine x_nil ?_
      refine x_then ?_
      refine x_region ?_
      refine x_val (.int .i64 x.2) (by kernel_rfl) rfl (by kernel_rfl) ?_
      refine x_nil ?_
      refine x_then ?_
      exact ⟨0, (by kernel_rfl), H⟩
    · skip
      clear H
      rintro lrnd pre x c b W1 hI hlen H
      replace H : Hs (fps [] ++ (fps [.blk g4 #[.int .i64 ((0 : Nat) : Int)] 3, .blk q #[.pointer (some ⟨t, 0, none⟩)] 56, .blk t #[sv, .int .i64 ((room : Nat) : Int), .func (.func 26) #[] #[]] 90, .row (sv) 92 2 (List.length xs) (List.flatMap pairLI xs), .blk g1 #[.pointer (some ⟨t, 0, none⟩)] 56, .blk g2 #[.slice none 0 0] 70, .row (.slice none 0 0) 77 2 (List.length xs) (List.flatMap pairLI xs), .blk g3 #[.bool false] 4])) W1 W1 [.blk g4 #[.int .i64 ((c : Nat) : Int)] 3, .blk q #[.pointer (some ⟨t, 0, none⟩)] 56, .blk t #[sv, .int .i64 ((room : Nat) : Int), .func (.func 26) #[] #[]] 90, .row (sv) 92 2 (List.length xs) (List.flatMap pairLI xs), .blk g1 #[.pointer (some ⟨t, 0, none⟩)] 56, .blk g2 #[.slice none 0 0] 70, .row (.slice none 0 0) 77 2 (List.length xs) (List.flatMap pairLI xs), .blk g3 #[.bool false] 4] := H
      have hI' : c = List.length pre := hI
      refine x_block ?_
      refine x_seq ?_
      refine x_seq ?_
      refine x_region ?_
      refine x_load1 H 0 g4 0 #[.int .i64 ((c : Nat) : Int)] 3 (.int .i64 ((c : Nat) : Int)) (by kernel_rfl) (by kernel_rfl) (by kernel_rfl) rfl (by kernel_rfl) ?_
      refine x_load1 H 5 g2 0 #[.slice none 0 0] 70 (.slice none 0 0) (by kernel_rfl) (by kernel_rfl) (by kernel_rfl) rfl (by kernel_rfl) ?_
      refine x_val (.int .i64 0) (by kernel_rfl) rfl (by kernel_rfl) ?_
      refine x_val (.bool (decide (0 ≤ ((c : Nat) : Int)))) (by kernel_rfl) rfl (by kernel_rfl) ?_
      refine x_val (.bool (decide (0 ≤ ((c : Nat) : Int)))) (by kernel_rfl) rfl (by kernel_rfl) ?_
      cases h2 : decide (0 ≤ ((c : Nat) : Int))
      · skip
        have h2p := of_decide_eq_false h2
        exact absurd h2p (by omega)
      · skip
        have h2p := of_decide_eq_true h2
        refine x_skip (by kernel_rfl) ?_
        refine x_skip (by kernel_rfl) ?_
        refine x_skip (by kernel_rfl) ?_
        refine x_skip (by kernel_rfl) ?_
        refine x_skip (by kernel_rfl) ?_
        refine x_skip (by kernel_rfl) ?_
        refine x_skip (by kernel_rfl) ?_
        refine x_val (.bool true) (by kernel_rfl) rfl (by kernel_rfl) ?_
        refine x_val (.bool true) (by kernel_rfl) rfl (by kernel_rfl) ?_
        refine x_skip (by kernel_rfl) ?_
        refine x_skip (by kernel_rfl) ?_
        refine x_skip (by kernel_rfl) ?_
        refine x_skip (by kernel_rfl) ?_
        refine x_skip (by kernel_rfl) ?_
        refine x_skip (by kernel_rfl) ?_
        refine x_skip (by kernel_rfl) ?_
        refine x_val (.bool true) (by kernel_rfl) rfl (by kernel_rfl) ?_
        refine x_nil ?_
        refine x_then ?_
        refine x_t (by kernel_rfl) ?_
        refine x_seq ?_
        refine x_region ?_
        refine x_store (t := 4) (v := .bool false) H 7 g3 0 #[.bool false] #[.bool false] 4 [.bool false] [.blk g4 #[.int .i64 ((c : Nat) : Int)] 3, .blk q #[.pointer (some ⟨t, 0, none⟩)] 56, .blk t #[sv, .int .i64 ((room : Nat) : Int), .func (.func 26) #[] #[]] 90, .row (sv) 92 2 (List.length xs) (List.flatMap pairLI xs), .blk g1 #[.pointer (some ⟨t, 0, none⟩)] 56, .blk g2 #[.slice none 0 0] 70, .row (.slice none 0 0) 77 2 (List.length xs) (List.flatMap pairLI xs), .blk g3 #[.bool false] 4] (by kernel_rfl) rfl (by kernel_rfl) (by kernel_rfl) (by kernel_rfl) (by kernel_rfl) (by kernel_rfl) (by kernel_rfl) (by kernel_rfl) (by kernel_rfl) ?_
        clear H
        intro v7 H
        refine x_nil ?_
        refine x_then ?_
        refine x_retc ?_
        refine x_then_ret ?_
        refine x_blk_ret ?_
        replace H := H.pick [0, 1, 2, 3, 4, 5, 6, 7] [.blk g4 #[.int .i64 ((c : Nat) : Int)] 3, .blk q #[.pointer (some ⟨t, 0, none⟩)] 56, .blk t #[sv, .int .i64 ((room : Nat) : Int), .func (.func 26) #[] #[]] 90, .row (sv) 92 2 (List.length xs) (List.flatMap pairLI xs), .blk g1 #[.pointer (some ⟨t, 0, none⟩)] 56, .blk g2 #[.slice none 0 0] 70, .row (.slice none 0 0) 77 2 (List.length xs) (List.flatMap pairLI xs), .blk g3 #[.bool false] 4] (by decide) (by kernel_rfl)
        exact ⟨c, ⟨rfl, (fun hp => by have q := prefix_getP hp; omega)⟩, H⟩
    · skip
      clear H
      rintro D c W1 hI H
      have hI2 : c = List.length xs := hI
      refine x_blk ?_
      refine x_then ?_
      refine x_seq ?_
      refine x_region_head 21 (fun w' => Hs (fps [.blk t #[sv, .int .i64 ((room : Nat) : Int), .func (.func 26) #[] #[]] 90, .row (sv) 92 2 (List.length xs) (List.flatMap pairLI xs), .row (.slice none 0 0) 77 2 (List.length xs) (List.flatMap pairLI xs)]) w0 w' [.obj D ((.deferred (some []))), .blk g4 #[.int .i64 ((c : Nat) : Int)] 3, .blk q #[.pointer (some ⟨t, 0, none⟩)] 56, .blk t #[sv, .int .i64 ((room : Nat) : Int), .func (.func 26) #[] #[]] 90, .row (sv) 92 2 (List.length xs) (List.flatMap pairLI xs), .blk g1 #[.pointer (some ⟨t, 0, none⟩)] 56, .blk g2 #[.slice none 0 0] 70, .row (.slice none 0 0) 77 2 (List.length xs) (List.flatMap pairLI xs), .blk g3 #[.bool false] 4]) (by kernel_rfl) (by kernel_rfl) (by kernel_rfl) H.drew ?_
      simp only [List.take_succ_cons, List.take_zero, List.drop_succ_cons, List.drop_zero]
      refine q_load1 1 g4 0 #[.int .i64 ((c : Nat) : Int)] 3 (.int .i64 ((c : Nat) : Int)) (by kernel_rfl) (by kernel_rfl) (by kernel_rfl) (fun _ => by kernel_rfl) ?_
      refine q_load1 6 g2 0 #[.slice none 0 0] 70 (.slice none 0 0) (by kernel_rfl) (by kernel_rfl) (by kernel_rfl) (fun _ => by kernel_rfl) ?_
      refine q_val (.int .i64 0) (by kernel_rfl) (fun _ => by kernel_rfl) ?_
      refine q_val (.bool (decide (((c : Nat) : Int) = 0))) (by kernel_rfl) (fun _ => by kernel_rfl) ?_
      refine q_val (.bool (decide (((c : Nat) : Int) = 0))) (by kernel_rfl) (fun _ => by kernel_rfl) ?_
      cases h3 : decide (((c : Nat) : Int) = 0)
      · skip
        have h3p := of_decide_eq_false h3
        exact absurd h3p (by omega)
      · skip
        have h3p := of_decide_eq_true h3
        refine q_load1 5 g1 0 #[.pointer (some ⟨t, 0, none⟩)] 56 (.pointer (some ⟨t, 0, none⟩)) (by kernel_rfl) (by kernel_rfl) (by kernel_rfl) (fun _ => by kernel_rfl) ?_
        refine q_callR (.int .i64 (((List.length xs) : Nat) : Int)) (by kernel_rfl) (fun _ => by kernel_rfl) (fun _ H => (TLenI _ (H.roOf [3, 4] [.blk t #[sv, .int .i64 ((room : Nat) : Int), .func (.func 26) #[] #[]] 90, .row (sv) 92 2 (List.length xs) (List.flatMap pairLI xs)] (by kernel_rfl)))) ?_
        refine q_load1 1 g4 0 #[.int .i64 ((c : Nat) : Int)] 3 (.int .i64 ((c : Nat) : Int)) (by kernel_rfl) (by kernel_rfl) (by kernel_rfl) (fun _ => by kernel_rfl) ?_
        refine q_val (.bool (decide ((((List.length xs) : Nat) : Int) = ((c : Nat) : Int)))) (by kernel_rfl) (fun _ => by kernel_rfl) ?_
        refine q_val (.bool (decide ((((List.length xs) : Nat) : Int) = ((c : Nat) : Int)))) (by kernel_rfl) (fun _ => by kernel_rfl) ?_
        refine q_val (.bool (decide ((((List.length xs) : Nat) : Int) = ((c : Nat) : Int)))) (by kernel_rfl) (fun _ => by kernel_rfl) ?_
        cases h4 : decide ((((List.length xs) : Nat) : Int) = ((c : Nat) : Int))
        · skip
          have h4p := of_decide_eq_false h4
          exact absurd h4p (by omega)
        · skip
          have h4p := of_decide_eq_true h4
          refine q_load1 5 g1 0 #[.pointer (some ⟨t, 0, none⟩)] 56 (.pointer (some ⟨t, 0, none⟩)) (by kernel_rfl) (by kernel_rfl) (by kernel_rfl) (fun _ => by kernel_rfl) ?_
          refine q_callR (.int .i64 ((room : Nat) : Int)) (by kernel_rfl) (fun _ => by kernel_rfl) (fun _ H => (TRoom _ (H.roOf [3, 4] [.blk t #[sv, .int .i64 ((room : Nat) : Int), .func (.func 26) #[] #[]] 90, .row (sv) 92 2 (List.length xs) (List.flatMap pairLI xs)] (by kernel_rfl)))) ?_
          refine q_val (.int .i64 ((room : Nat) : Int)) (by kernel_rfl) (fun _ => by kernel_rfl) ?_
          refine q_eq (.bool true) (show Value.bool (decide (((room : Nat) : Int) = ((room : Nat) : Int))) = Value.bool true by simp) (by kernel_rfl) (fun _ => by kernel_rfl) ?_
          refine q_val (.bool true) (by kernel_rfl) (fun _ => by kernel_rfl) ?_
          refine q_val (.bool true) (by kernel_rfl) (fun _ => by kernel_rfl) ?_
          refine q_load1 1 g4 0 #[.int .i64 ((c : Nat) : Int)] 3 (.int .i64 ((c : Nat) : Int)) (by kernel_rfl) (by kernel_rfl) (by kernel_rfl) (fun _ => by kernel_rfl) ?_
          refine q_val (.int .i64 ((room : Nat) : Int)) (by kernel_rfl) (fun _ => by kernel_rfl) ?_
          refine q_val (.bool (decide (((c : Nat) : Int) ≤ ((room : Nat) : Int)))) (by kernel_rfl) (fun _ => by kernel_rfl) ?_
          refine q_val (.bool (decide (((c : Nat) : Int) ≤ ((room : Nat) : Int)))) (by kernel_rfl) (fun _ => by kernel_rfl) ?_
          refine q_nil ?_
          clear H
          intro v8 H
          refine x_store (t := 4) (v := .bool (decide (((c : Nat) : Int) ≤ ((room : Nat) : Int)))) H 8 g3 0 #[.bool false] #[.bool (decide (((c : Nat) : Int) ≤ ((room : Nat) : Int)))] 4 [.bool (decide (((c : Nat) : Int) ≤ ((room : Nat) : Int)))] [.obj D ((.deferred (some []))), .blk g4 #[.int .i64 ((c : Nat) : Int)] 3, .blk q #[.pointer (some ⟨t, 0, none⟩)] 56, .blk t #[sv, .int .i64 ((room : Nat) : Int), .func (.func 26) #[] #[]] 90, .row (sv) 92 2 (List.length xs) (List.flatMap pairLI xs), .blk g1 #[.pointer (some ⟨t, 0, none⟩)] 56, .blk g2 #[.slice none 0 0] 70, .row (.slice none 0 0) 77 2 (List.length xs) (List.flatMap pairLI xs), .blk g3 #[.bool (decide (((c : Nat) : Int) ≤ ((room : Nat) : Int)))] 4] (by kernel_rfl) rfl (by kernel_rfl) (by kernel_rfl) (by kernel_rfl) (by kernel_rfl) (by kernel_rfl) (by kernel_rfl) (by kernel_rfl) (by kernel_rfl) ?_
          clear H
          intro v9 H
          refine x_nil ?_
          refine x_then ?_
          refine x_retc ?_
          refine x_retM1 [0, 1, 2, 3, 4, 5, 6, 7, 8] [.blk g4 #[.int .i64 ((c : Nat) : Int)] 3, .blk q #[.pointer (some ⟨t, 0, none⟩)] 56, .blk t #[sv, .int .i64 ((room : Nat) : Int), .func (.func 26) #[] #[]] 90, .row (sv) 92 2 (List.length xs) (List.flatMap pairLI xs), .blk g1 #[.pointer (some ⟨t, 0, none⟩)] 56, .blk g2 #[.slice none 0 0] 70, .row (.slice none 0 0) 77 2 (List.length xs) (List.flatMap pairLI xs), .blk g3 #[.bool (decide (((c : Nat) : Int) ≤ ((room : Nat) : Int)))] 4] (.bool (decide (((c : Nat) : Int) ≤ ((room : Nat) : Int)))) H (by kernel_rfl) rfl (by decide) (fun _ H => (x_rescell1 H 7 g3 0 #[.bool (decide (((c : Nat) : Int) ≤ ((room : Nat) : Int)))] 4 (.bool (decide (((c : Nat) : Int) ≤ ((room : Nat) : Int)))) (fun x => x) (by kernel_rfl) (by kernel_rfl) (by kernel_rfl))) ?_
          clear H
          intro v10 H
          replace H := H.pick [2, 3, 6] [.blk t #[sv, .int .i64 ((room : Nat) : Int), .func (.func 26) #[] #[]] 90, .row (sv) 92 2 (List.length xs) (List.flatMap pairLI xs), .row (.slice none 0 0) 77 2 (List.length xs) (List.flatMap pairLI xs)] (by decide) (by kernel_rfl)
          exact ⟨by rw [show (decide (((c : Nat) : Int) ≤ ((room : Nat) : Int))) = true from decide_eq_true (by omega)], H⟩
    · skip
      clear H
      rintro D c pre c W1 hpre hJ H
      rcases hJ with ⟨rfl, hJ⟩
      · skip
        exact absurd hpre hJ
  · skip
    replace H := H.pick [1, 0, 5, 6, 4, 3, 7, 2] [.blk g4 #[.int .i64 0] 3, .blk q #[.pointer (some ⟨t, 0, none⟩)] 56, .blk t #[sv, .int .i64 ((room : Nat) : Int), .func (.func 26) #[] #[]] 90, .row (sv) 92 2 (List.length xs) (List.flatMap pairLI xs), .blk g1 #[.pointer (some ⟨t, 0, none⟩)] 56, .blk g2 #[.slice (some ⟨gw, 0, none⟩) (List.length xs) cw] 70, .row (.slice (some ⟨gw, 0, none⟩) (List.length xs) cw) 77 2 (List.length xs) (List.flatMap pairLI xs), .blk g3 #[.bool false] 4] (by decide) (by kernel_rfl)
    replace H : Hs (fps [.blk t #[sv, .int .i64 ((room : Nat) : Int), .func (.func 26) #[] #[]] 90, .row (sv) 92 2 (List.length xs) (List.flatMap pairLI xs), .row (.slice (some ⟨gw, 0, none⟩) (List.length xs) cw) 77 2 (List.length xs) (List.flatMap pairLI xs)]) w0 _ [.blk g4 #[.int .i64 ((0 : Nat) : Int)] 3, .blk q #[.pointer (some ⟨t, 0, none⟩)] 56, .blk t #[sv, .int .i64 ((room : Nat) : Int), .func (.func 26) #[] #[]] 90, .row (sv) 92 2 (List.length xs) (List.flatMap pairLI xs), .blk g1 #[.pointer (some ⟨t, 0, none⟩)] 56, .blk g2 #[.slice (some ⟨gw, 0, none⟩) (List.length xs) cw] 70, .row (.slice (some ⟨gw, 0, none⟩) (List.length xs) cw) 77 2 (List.length xs) (List.flatMap pairLI xs), .blk g3 #[.bool false] 4] := H
    refine x_rangeB (α := PairI) (G := Nat) xs (fun x => #[.int .i64 x.1, .int .i64 x.2]) [.blk q #[.pointer (some ⟨t, 0, none⟩)] 56, .blk t #[sv, .int .i64 ((room : Nat) : Int), .func (.func 26) #[] #[]] 90, .row (sv) 92 2 (List.length xs) (List.flatMap pairLI xs)] [1, 2, 3] (fps [.blk g4 #[.int .i64 ((0 : Nat) : Int)] 3, .blk q #[.pointer (some ⟨t, 0, none⟩)] 56, .blk t #[sv, .int .i64 ((room : Nat) : Int), .func (.func 26) #[] #[]] 90, .row (sv) 92 2 (List.length xs) (List.flatMap pairLI xs), .blk g1 #[.pointer (some ⟨t, 0, none⟩)] 56, .blk g2 #[.slice (some ⟨gw, 0, none⟩) (List.length xs) cw] 70, .row (.slice (some ⟨gw, 0, none⟩) (List.length xs) cw) 77 2 (List.length xs) (List.flatMap pairLI xs), .blk g3 #[.bool false] 4]) (fun pre (c : Nat) => c = List.length pre) (fun pre (c : Nat) => [.blk g4 #[.int .i64 ((c : Nat) : Int)] 3, .blk q #[.pointer (some ⟨t, 0, none⟩)] 56, .blk t #[sv, .int .i64 ((room : Nat) : Int), .func (.func 26) #[] #[]] 90, .row (sv) 92 2 (List.length xs) (List.flatMap pairLI xs), .blk g1 #[.pointer (some ⟨t, 0, none⟩)] 56, .blk g2 #[.slice (some ⟨gw, 0, none⟩) (List.length xs) cw] 70, .row (.slice (some ⟨gw, 0, none⟩) (List.length xs) cw) 77 2 (List.length xs) (List.flatMap pairLI xs), .blk g3 #[.bool false] 4]) (fun cd pre (c : Nat) => (cd = .ret ∧ (¬ (pre <+: xs)))) (fun x b => []) (fun x b => { tmps := #[.pointer (some ⟨t, 0, none⟩), .slice (some ⟨gw, 0, none⟩) (List.length xs) cw, .int .i64 ((room : Nat) : Int), .pointer (some ⟨g1, 0, none⟩), .pointer (some ⟨g2, 0, none⟩), undef, .pointer (some ⟨g3, 0, none⟩), .pointer (some ⟨g4, 0, none⟩), .int .i64 x.1, .int .i64 x.2, undef, undef, .pointer (some ⟨t, 0, none⟩), .func (.func 43) #[] #[.pointer (some ⟨q, 0, none⟩)], .int .i64 x.1, .int .i64 x.2, undef, undef, undef, undef, undef, undef, undef, undef, undef, undef, undef, undef, undef, undef, undef, undef, undef, undef, undef, undef, undef, undef, undef, undef, undef, undef, undef, undef, undef, undef, undef, undef, undef, undef, undef, undef, undef, undef, undef, undef, undef, undef, undef, undef, undef, undef, undef, undef, undef, undef, undef, undef, undef, undef, undef, undef, undef, undef], defers := [] }) 0 (by kernel_rfl) (enters_of Try.func43 (by kernel_rfl) rfl) (tvals_of (by omega) _ (H.roOf [1, 2, 3] _ (by kernel_rfl))) (fun _ => rfl) rfl (by rintro _ c; rfl) (by rintro _ c; rfl) (by rintro _ c; rfl) (fun _ _ => rfl) (fun _ _ => rfl) H rfl ?_ ?_ ?_ ?_
    · skip
      clear H
      rintro lrnd pre x c W2 hI H
      refine x_at (b := { tmps := #[.pointer (some ⟨t, 0, none⟩), .slice (some ⟨gw, 0, none⟩) (List.length xs) cw, .int .i64 ((room : Nat) : Int), .pointer (some ⟨g1, 0, none⟩), .pointer (some ⟨g2, 0, none⟩), undef, .pointer (some ⟨g3, 0, none⟩), .pointer (some ⟨g4, 0, none⟩), undef, undef, undef, undef, .pointer (some ⟨t, 0, none⟩), .func (.func 43) #[] #[.pointer (some ⟨q, 0, none⟩)], .int .i64 x.1, .int .i64 x.2, undef, undef, undef, undef, undef, undef, undef, undef, undef, undef, undef, undef, undef, undef, undef, undef, undef, undef, undef, undef, undef, undef, undef, undef, undef, undef, undef, undef, undef, undef, undef, undef, undef, undef, undef, undef, undef, undef, undef, undef, undef, undef, undef, undef, undef, undef, undef, undef, undef, undef, undef, undef, undef, undef, undef, undef, undef, undef], defers := [] }) (by kernel_rfl) ?_
      refine x_seq ?_
      refine x_region ?_
      refine x_val (.int .i64 x.1) (by kernel_rfl) rfl (by kernel_rfl) ?_
      refine x_nil ?_
      refine x_then ?_
      refine x_region ?_
      refine x_val (.int .i64 x.2) (by kernel_rfl) rfl (by kernel_rfl) ?_
      refine x_nil ?_
      refine x_then ?_
      exact ⟨0, (by kernel_rfl), H⟩
    · skip
      clear H
      rintro lrnd pre x c b W2 hI hlen H
      replace H : Hs (fps [] ++ (fps [.blk g4 #[.int .i64 ((0 : Nat) : Int)] 3, .blk q #[.pointer (some ⟨t, 0, none⟩)] 56, .blk t #[sv, .int .i64 ((room : Nat) : Int), .func (.func 26) #[] #[]] 90, .row (sv) 92 2 (List.length xs) (List.flatMap pairLI xs), .blk g1 #[.pointer (some ⟨t, 0, none⟩)] 56, .blk g2 #[.slice (some ⟨gw, 0, none⟩) (List.length xs) cw] 70, .row (.slice (some ⟨gw, 0, none⟩) (List.length xs) cw) 77 2 (List.length xs) (List.flatMap pairLI xs), .blk g3 #[.bool false] 4])) W2 W2 [.blk g4 #[.int .i64 ((c : Nat) : Int)] 3, .blk q #[.pointer (some ⟨t, 0, none⟩)] 56, .blk t #[sv, .int .i64 ((room : Nat) : Int), .func (.func 26) #[] #[]] 90, .row (sv) 92 2 (List.length xs) (List.flatMap pairLI xs), .blk g1 #[.pointer (some ⟨t, 0, none⟩)] 56, .blk g2 #[.slice (some ⟨gw, 0, none⟩) (List.length xs) cw] 70, .row (.slice (some ⟨gw, 0, none⟩) (List.length xs) cw) 77 2 (List.length xs) (List.flatMap pairLI xs), .blk g3 #[.bool false] 4] := H
      have hI' : c = List.length pre := hI
      refine x_block ?_
      refine x_seq ?_
      refine x_seq ?_
      refine x_region ?_
      refine x_load1 H 0 g4 0 #[.int .i64 ((c : Nat) : Int)] 3 (.int .i64 ((c : Nat) : Int)) (by kernel_rfl) (by kernel_rfl) (by kernel_rfl) rfl (by kernel_rfl) ?_
      refine x_load1 H 5 g2 0 #[.slice (some ⟨gw, 0, none⟩) (List.length xs) cw] 70 (.slice (some ⟨gw, 0, none⟩) (List.length xs) cw) (by kernel_rfl) (by kernel_rfl) (by kernel_rfl) rfl (by kernel_rfl) ?_
      refine x_val (.int .i64 (((List.length xs) : Nat) : Int)) (by kernel_rfl) rfl (by kernel_rfl) ?_
      refine x_val (.bool (decide ((((List.length xs) : Nat) : Int) ≤ ((c : Nat) : Int)))) (by kernel_rfl) rfl (by kernel_rfl) ?_
      refine x_val (.bool (decide ((((List.length xs) : Nat) : Int) ≤ ((c : Nat) : Int)))) (by kernel_rfl) rfl (by kernel_rfl) ?_
      cases h5 : decide ((((List.length xs) : Nat) : Int) ≤ ((c : Nat) : Int))
      · skip
        have h5p := of_decide_eq_false h5
        refine x_load1 H 5 g2 0 #[.slice (some ⟨gw, 0, none⟩) (List.length xs) cw] 70 (.slice (some ⟨gw, 0, none⟩) (List.length xs) cw) (by kernel_rfl) (by kernel_rfl) (by kernel_rfl) rfl (by kernel_rfl) ?_
        refine x_load1 H 0 g4 0 #[.int .i64 ((c : Nat) : Int)] 3 (.int .i64 ((c : Nat) : Int)) (by kernel_rfl) (by kernel_rfl) (by kernel_rfl) rfl (by kernel_rfl) ?_
        refine x_ix (t := 70) gw 0 c (List.length xs) cw 77 2 (c * 2) (by omega) (by omega) (by kernel_rfl) (by kernel_rfl) (by kernel_rfl) rfl (by kernel_rfl) ?_
        refine x_val (.pointer (some ⟨gw, c * 2, none⟩)) (by kernel_rfl) rfl (by kernel_rfl) ?_
        refine x_loadc gw (c * 2) (.int .i64 ((xs.getD c (0, 0)).1)) ((H.rowCells 6 rfl (c * 2) (flatAt pairLenI (0, 0) _ (by omega))) 0 _ rfl) (by kernel_rfl) rfl (by kernel_rfl) ?_
        refine x_val (.int .i64 x.1) (by kernel_rfl) rfl (by kernel_rfl) ?_
        refine x_val (.bool (!(decide (((xs.getD c (0, 0)).1) = x.1)))) (by kernel_rfl) rfl (by kernel_rfl) ?_
        refine x_val (.bool (!(decide (((xs.getD c (0, 0)).1) = x.1)))) (by kernel_rfl) rfl (by kernel_rfl) ?_
        refine x_val (.bool (!(decide (((xs.getD c (0, 0)).1) = x.1)))) (by kernel_rfl) rfl (by kernel_rfl) ?_
        cases h6 : decide (((xs.getD c (0, 0)).1) = x.1)
        · skip
          have h6p := of_decide_eq_false h6
          refine x_skip (by kernel_rfl) ?_
          refine x_skip (by kernel_rfl) ?_
          refine x_skip (by kernel_rfl) ?_
          refine x_skip (by kernel_rfl) ?_
          refine x_skip (by kernel_rfl) ?_
          refine x_skip (by kernel_rfl) ?_
          refine x_skip (by kernel_rfl) ?_
          refine x_val (.bool true) (by kernel_rfl) rfl (by kernel_rfl) ?_
          refine x_nil ?_
          refine x_then ?_
          refine x_t (by kernel_rfl) ?_
          refine x_seq ?_
          refine x_region ?_
          refine x_store (t := 4) (v := .bool false) H 7 g3 0 #[.bool false] #[.bool false] 4 [.bool false] [.blk g4 #[.int .i64 ((c : Nat) : Int)] 3, .blk q #[.pointer (some ⟨t, 0, none⟩)] 56, .blk t #[sv, .int .i64 ((room : Nat) : Int), .func (.func 26) #[] #[]] 90, .row (sv) 92 2 (List.length xs) (List.flatMap pairLI xs), .blk g1 #[.pointer (some ⟨t, 0, none⟩)] 56, .blk g2 #[.slice (some ⟨gw, 0, none⟩) (List.length xs) cw] 70, .row (.slice (some ⟨gw, 0, none⟩) (List.length xs) cw) 77 2 (List.length xs) (List.flatMap pairLI xs), .blk g3 #[.bool false] 4] (by kernel_rfl) rfl (by kernel_rfl) (by kernel_rfl) (by kernel_rfl) (by kernel_rfl) (by kernel_rfl) (by kernel_rfl) (by kernel_rfl) (by kernel_rfl) ?_
          clear H
          intro v11 H
          refine x_nil ?_
          refine x_then ?_
          refine x_retc ?_
          refine x_then_ret ?_
          refine x_blk_ret ?_
          replace H := H.pick [0, 1, 2, 3, 4, 5, 6, 7] [.blk g4 #[.int .i64 ((c : Nat) : Int)] 3, .blk q #[.pointer (some ⟨t, 0, none⟩)] 56, .blk t #[sv, .int .i64 ((room : Nat) : Int), .func (.func 26) #[] #[]] 90, .row (sv) 92 2 (List.length xs) (List.flatMap pairLI xs), .blk g1 #[.pointer (some ⟨t, 0, none⟩)] 56, .blk g2 #[.slice (some ⟨gw, 0, none⟩) (List.length xs) cw] 70, .row (.slice (some ⟨gw, 0, none⟩) (List.length xs) cw) 77 2 (List.length xs) (List.flatMap pairLI xs), .blk g3 #[.bool false] 4] (by decide) (by kernel_rfl)
          exact ⟨c, ⟨rfl, (fun hp => by have q := prefix_getP hp; rw [← hI'] at q; exact absurd (congrArg Prod.fst q.1) (of_decide_eq_false h6))⟩, H⟩
        · skip
          have h6p := of_decide_eq_true h6
          refine x_load1 H 5 g2 0 #[.slice (some ⟨gw, 0, none⟩) (List.length xs) cw] 70 (.slice (some ⟨gw, 0, none⟩) (List.length xs) cw) (by kernel_rfl) (by kernel_rfl) (by kernel_rfl) rfl (by kernel_rfl) ?_
          refine x_load1 H 0 g4 0 #[.int .i64 ((c : Nat) : Int)] 3 (.int .i64 ((c : Nat) : Int)) (by kernel_rfl) (by kernel_rfl) (by kernel_rfl) rfl (by kernel_rfl) ?_
          refine x_ix (t := 70) gw 0 c (List.length xs) cw 77 2 (c * 2) (by omega) (by omega) (by kernel_rfl) (by kernel_rfl) (by kernel_rfl) rfl (by kernel_rfl) ?_
          refine x_val (.pointer (some ⟨gw, c * 2 + 1, none⟩)) (by kernel_rfl) rfl (by kernel_rfl) ?_
          refine x_loadc gw (c * 2 + 1) (.int .i64 ((xs.getD c (0, 0)).2)) ((H.rowCells 6 rfl (c * 2) (flatAt pairLenI (0, 0) _ (by omega))) 1 _ rfl) (by kernel_rfl) rfl (by kernel_rfl) ?_
          refine x_val (.int .i64 x.2) (by kernel_rfl) rfl (by kernel_rfl) ?_
          refine x_val (.bool (!(decide (((xs.getD c (0, 0)).2) = x.2)))) (by kernel_rfl) rfl (by kernel_rfl) ?_
          refine x_val (.bool (!(decide (((xs.getD c (0, 0)).2) = x.2)))) (by kernel_rfl) rfl (by kernel_rfl) ?_
          refine x_nil ?_
          refine x_then ?_
          cases h7 : decide (((xs.getD c (0, 0)).2) = x.2)
          · skip
            have h7p := of_decide_eq_false h7
            refine x_t (by kernel_rfl) ?_
            refine x_seq ?_
            refine x_region ?_
            refine x_store (t := 4) (v := .bool false) H 7 g3 0 #[.bool false] #[.bool false] 4 [.bool false] [.blk g4 #[.int .i64 ((c : Nat) : Int)] 3, .blk q #[.pointer (some ⟨t, 0, none⟩)] 56, .blk t #[sv, .int .i64 ((room : Nat) : Int), .func (.func 26) #[] #[]] 90, .row (sv) 92 2 (List.length xs) (List.flatMap pairLI xs), .blk g1 #[.pointer (some ⟨t, 0, none⟩)] 56, .blk g2 #[.slice (some ⟨gw, 0, none⟩) (List.length xs) cw] 70, .row (.slice (some ⟨gw, 0, none⟩) (List.length xs) cw) 77 2 (List.length xs) (List.flatMap pairLI xs), .blk g3 #[.bool false] 4] (by kernel_rfl) rfl (by kernel_rfl) (by kernel_rfl) (by kernel_rfl) (by kernel_rfl) (by kernel_rfl) (by kernel_rfl) (by kernel_rfl) (by kernel_rfl) ?_
            clear H
            intro v12 H
            refine x_nil ?_
            refine x_then ?_
            refine x_retc ?_
            refine x_then_ret ?_
            refine x_blk_ret ?_
            replace H := H.pick [0, 1, 2, 3, 4, 5, 6, 7] [.blk g4 #[.int .i64 ((c : Nat) : Int)] 3, .blk q #[.pointer (some ⟨t, 0, none⟩)] 56, .blk t #[sv, .int .i64 ((room : Nat) : Int), .func (.func 26) #[] #[]] 90, .row (sv) 92 2 (List.length xs) (List.flatMap pairLI xs), .blk g1 #[.pointer (some ⟨t, 0, none⟩)] 56, .blk g2 #[.slice (some ⟨gw, 0, none⟩) (List.length xs) cw] 70, .row (.slice (some ⟨gw, 0, none⟩) (List.length xs) cw) 77 2 (List.length xs) (List.flatMap pairLI xs), .blk g3 #[.bool false] 4] (by decide) (by kernel_rfl)
            exact ⟨c, ⟨rfl, (fun hp => by have q := prefix_getP hp; rw [← hI'] at q; exact absurd (congrArg Prod.snd q.1) (of_decide_eq_false h7))⟩, H⟩
          · skip
            have h7p := of_decide_eq_true h7
            refine x_f (by kernel_rfl) ?_
            refine x_skipc ?_
            refine x_then ?_
            refine x_seq ?_
            refine x_seq ?_
            refine x_region ?_
            refine x_load1 H 4 g1 0 #[.pointer (some ⟨t, 0, none⟩)] 56 (.pointer (some ⟨t, 0, none⟩)) (by kernel_rfl) (by kernel_rfl) (by kernel_rfl) rfl (by kernel_rfl) ?_
            refine x_val (.int .i64 x.1) (by kernel_rfl) rfl (by kernel_rfl) ?_
            have hcl : c < xs.length := by omega
            have hxe : x.1 = (xs.getD c (0, 0)).1 ∧ x.2 = (xs.getD c (0, 0)).2 := by constructor <;> omega
            refine x_callB (.tuple #[.int .i64 x.2, .bool true]) H (by kernel_rfl) rfl (by kernel_rfl) (by have q := Get_yes (room := room) x.1 (by omega) (by rw [hxe.1, hu.own hcl]; exact hcl) _ (H.roOf [2, 3] [.blk t #[sv, .int .i64 ((room : Nat) : Int), .func (.func 26) #[] #[]] 90, .row (sv) 92 2 (List.length xs) (List.flatMap pairLI xs)] (by kernel_rfl)); rw [show (xs.getD (fkI xs x.1) (0, 0)).2 = x.2 by rw [hxe.1, hu.own hcl, hxe.2]] at q; exact q) ?_
            clear H
            intro v13 H
            refine x_val (.tuple #[.int .i64 x.2, .bool true]) (by kernel_rfl) rfl (by kernel_rfl) ?_
            refine x_val (.int .i64 x.2) (by kernel_rfl) rfl (by kernel_rfl) ?_
            refine x_val (.bool true) (by kernel_rfl) rfl (by kernel_rfl) ?_
            refine x_val (.int .i64 x.2) (by kernel_rfl) rfl (by kernel_rfl) ?_
            refine x_val (.bool true) (by kernel_rfl) rfl (by kernel_rfl) ?_
            refine x_nil ?_
            refine x_frame' { tmps := #[.pointer (some ⟨t, 0, none⟩), .slice (some ⟨gw, 0, none⟩) (List.length xs) cw, .int .i64 ((room : Nat) : Int), .pointer (some ⟨g1, 0, none⟩), .pointer (some ⟨g2, 0, none⟩), undef, .pointer (some ⟨g3, 0, none⟩), .pointer (some ⟨g4, 0, none⟩), .int .i64 x.1, .int .i64 x.2, .int .i64 x.2, .bool true, .pointer (some ⟨t, 0, none⟩), .func (.func 43) #[] #[.pointer (some ⟨q, 0, none⟩)], .int .i64 x.1, .int .i64 x.2, .int .i64 ((c : Nat) : Int), .slice (some ⟨gw, 0, none⟩) (List.length xs) cw, .int .i64 (((List.length xs) : Nat) : Int), .bool false, .bool false, .slice (some ⟨gw, 0, none⟩) (List.length xs) cw, .int .i64 ((c : Nat) : Int), .pointer (some ⟨gw, c * 2, none⟩), .pointer (some ⟨gw, c * 2, none⟩), .int .i64 ((xs.getD c (0, 0)).1), .int .i64 x.1, .bool false, .bool false, .bool false, .slice (some ⟨gw, 0, none⟩) (List.length xs) cw, .int .i64 ((c : Nat) : Int), .pointer (some ⟨gw, c * 2, none⟩), .pointer (some ⟨gw, c * 2 + 1, none⟩), .int .i64 ((xs.getD c (0, 0)).2), .int .i64 x.2, .bool false, .bool false, .tuple #[.int .i64 x.2, .bool true], .pointer (some ⟨t, 0, none⟩), .int .i64 x.1, .tuple #[.int .i64 x.2, .bool true], .int .i64 x.2, .bool true, undef, undef, undef, undef, undef, undef, undef, undef, undef, undef, undef, undef, undef, undef, undef, undef, undef, undef, undef, undef, undef, undef, undef, undef, undef, undef, undef, undef, undef, undef], defers := [] } (by kernel_rfl) ?_
            refine x_then ?_
            refine x_seq ?_
            refine x_region ?_
            refine x_val (.int .i64 x.2) (by kernel_rfl) rfl (by kernel_rfl) ?_
            refine x_val (.int .i64 x.2) (by kernel_rfl) rfl (by kernel_rfl) ?_
            refine x_eq (.bool false) (show Value.bool (!decide (x.2 = x.2)) = Value.bool false by simp) (by kernel_rfl) rfl (by kernel_rfl) ?_
            refine x_val (.bool false) (by kernel_rfl) rfl (by kernel_rfl) ?_
            refine x_val (.bool true) (by kernel_rfl) rfl (by kernel_rfl) ?_
            refine x_val (.bool false) (by kernel_rfl) rfl (by kernel_rfl) ?_
            refine x_val (.bool false) (by kernel_rfl) rfl (by kernel_rfl) ?_
            refine x_nil ?_
            refine x_then ?_
            refine x_f (by kernel_rfl) ?_
            refine x_skipc ?_
            refine x_then ?_
            refine x_region ?_
            refine x_load1 H 0 g4 0 #[.int .i64 ((c : Nat) : Int)] 3 (.int .i64 ((c : Nat) : Int)) (by kernel_rfl) (by kernel_rfl) (by kernel_rfl) rfl (by kernel_rfl) ?_
            refine x_ar (((c : Nat) : Int) + 1) ⟨by omega, by omega⟩ (by kernel_rfl) rfl (by kernel_rfl) ?_
            refine x_store (t := 3) (v := .int .i64 (((c : Nat) : Int) + 1)) H 0 g4 0 #[.int .i64 ((c : Nat) : Int)] #[.int .i64 (((c : Nat) : Int) + 1)] 3 [.int .i64 (((c : Nat) : Int) + 1)] [.blk g4 #[.int .i64 (((c : Nat) : Int) + 1)] 3, .blk q #[.pointer (some ⟨t, 0, none⟩)] 56, .blk t #[sv, .int .i64 ((room : Nat) : Int), .func (.func 26) #[] #[]] 90, .row (sv) 92 2 (List.length xs) (List.flatMap pairLI xs), .blk g1 #[.pointer (some ⟨t, 0, none⟩)] 56, .blk g2 #[.slice (some ⟨gw, 0, none⟩) (List.length xs) cw] 70, .row (.slice (some ⟨gw, 0, none⟩) (List.length xs) cw) 77 2 (List.length xs) (List.flatMap pairLI xs), .blk g3 #[.bool false] 4] (by kernel_rfl) rfl (by kernel_rfl) (by kernel_rfl) (by kernel_rfl) (by kernel_rfl) (by kernel_rfl) (by kernel_rfl) (by kernel_rfl) (by kernel_rfl) ?_
            clear H
            intro v14 H
            refine x_nil ?_
            refine x_blk ?_
            replace H := H.pick [0, 1, 2, 3, 4, 5, 6, 7] [.blk g4 #[.int .i64 (((c : Nat) : Int) + 1)] 3, .blk q #[.pointer (some ⟨t, 0, none⟩)] 56, .blk t #[sv, .int .i64 ((room : Nat) : Int), .func (.func 26) #[] #[]] 90, .row (sv) 92 2 (List.length xs) (List.flatMap pairLI xs), .blk g1 #[.pointer (some ⟨t, 0, none⟩)] 56, .blk g2 #[.slice (some ⟨gw, 0, none⟩) (List.length xs) cw] 70, .row (.slice (some ⟨gw, 0, none⟩) (List.length xs) cw) 77 2 (List.length xs) (List.flatMap pairLI xs), .blk g3 #[.bool false] 4] (by decide) (by kernel_rfl)
            exact ⟨(c + 1), (by show _ = List.length (pre ++ [x]); simp; exact hI), H⟩
      · skip
        have h5p := of_decide_eq_true h5
        refine x_skip (by kernel_rfl) ?_
        refine x_skip (by kernel_rfl) ?_
        refine x_skip (by kernel_rfl) ?_
        refine x_skip (by kernel_rfl) ?_
        refine x_skip (by kernel_rfl) ?_
        refine x_skip (by kernel_rfl) ?_
        refine x_skip (by kernel_rfl) ?_
        refine x_val (.bool true) (by kernel_rfl) rfl (by kernel_rfl) ?_
        refine x_val (.bool true) (by kernel_rfl) rfl (by kernel_rfl) ?_
        refine x_skip (by kernel_rfl) ?_
        refine x_skip (by kernel_rfl) ?_
        refine x_skip (by kernel_rfl) ?_
        refine x_skip (by kernel_rfl) ?_
        refine x_skip (by kernel_rfl) ?_
        refine x_skip (by kernel_rfl) ?_
        refine x_skip (by kernel_rfl) ?_
        refine x_val (.bool true) (by kernel_rfl) rfl (by kernel_rfl) ?_
        refine x_nil ?_
        refine x_then ?_
        refine x_t (by kernel_rfl) ?_
        refine x_seq ?_
        refine x_region ?_
        refine x_store (t := 4) (v := .bool false) H 7 g3 0 #[.bool false] #[.bool false] 4 [.bool false] [.blk g4 #[.int .i64 ((c : Nat) : Int)] 3, .blk q #[.pointer (some ⟨t, 0, none⟩)] 56, .blk t #[sv, .int .i64 ((room : Nat) : Int), .func (.func 26) #[] #[]] 90, .row (sv) 92 2 (List.length xs) (List.flatMap pairLI xs), .blk g1 #[.pointer (some ⟨t, 0, none⟩)] 56, .blk g2 #[.slice (some ⟨gw, 0, none⟩) (List.length xs) cw] 70, .row (.slice (some ⟨gw, 0, none⟩) (List.length xs) cw) 77 2 (List.length xs) (List.flatMap pairLI xs), .blk g3 #[.bool false] 4] (by kernel_rfl) rfl (by kernel_rfl) (by kernel_rfl) (by kernel_rfl) (by kernel_rfl) (by kernel_rfl) (by kernel_rfl) (by kernel_rfl) (by kernel_rfl) ?_
        clear H
        intro v15 H
        refine x_nil ?_
        refine x_then ?_
        refine x_retc ?_
        refine x_then_ret ?_
        refine x_blk_ret ?_
        replace H := H.pick [0, 1, 2, 3, 4, 5, 6, 7] [.blk g4 #[.int .i64 ((c : Nat) : Int)] 3, .blk q #[.pointer (some ⟨t, 0, none⟩)] 56, .blk t #[sv, .int .i64 ((room : Nat) : Int), .func (.func 26) #[] #[]] 90, .row (sv) 92 2 (List.length xs) (List.flatMap pairLI xs), .blk g1 #[.pointer (some ⟨t, 0, none⟩)] 56, .blk g2 #[.slice (some ⟨gw, 0, none⟩) (List.length xs) cw] 70, .row (.slice (some ⟨gw, 0, none⟩) (List.length xs) cw) 77 2 (List.length xs) (List.flatMap pairLI xs), .blk g3 #[.bool false] 4] (by decide) (by kernel_rfl)
        exact ⟨c, ⟨rfl, (fun hp => by have q := prefix_getP hp; omega)⟩, H⟩
    · skip
      clear H
      rintro D c W2 hI H
      have hI2 : c = List.length xs := hI
      refine x_blk ?_
      refine x_then ?_
      refine x_seq ?_
      refine x_region_head 21 (fun w' => Hs (fps [.blk t #[sv, .int .i64 ((room : Nat) : Int), .func (.func 26) #[] #[]] 90, .row (sv) 92 2 (List.length xs) (List.flatMap pairLI xs), .row (.slice (some ⟨gw, 0, none⟩) (List.length xs) cw) 77 2 (List.length xs) (List.flatMap pairLI xs)]) w0 w' [.obj D ((.deferred (some []))), .blk g4 #[.int .i64 ((c : Nat) : Int)] 3, .blk q #[.pointer (some ⟨t, 0, none⟩)] 56, .blk t #[sv, .int .i64 ((room : Nat) : Int), .func (.func 26) #[] #[]] 90, .row (sv) 92 2 (List.length xs) (List.flatMap pairLI xs), .blk g1 #[.pointer (some ⟨t, 0, none⟩)] 56, .blk g2 #[.slice (some ⟨gw, 0, none⟩) (List.length xs) cw] 70, .row (.slice (some ⟨gw, 0, none⟩) (List.length xs) cw) 77 2 (List.length xs) (List.flatMap pairLI xs), .blk g3 #[.bool false] 4]) (by kernel_rfl) (by kernel_rfl) (by kernel_rfl) H.drew ?_
      simp only [List.take_succ_cons, List.take_zero, List.drop_succ_cons, List.drop_zero]
      refine q_load1 1 g4 0 #[.int .i64 ((c : Nat) : Int)] 3 (.int .i64 ((c : Nat) : Int)) (by kernel_rfl) (by kernel_rfl) (by kernel_rfl) (fun _ => by kernel_rfl) ?_
      refine q_load1 6 g2 0 #[.slice (some ⟨gw, 0, none⟩) (List.length xs) cw] 70 (.slice (some ⟨gw, 0, none⟩) (List.length xs) cw) (by kernel_rfl) (by kernel_rfl) (by kernel_rfl) (fun _ => by kernel_rfl) ?_
      refine q_val (.int .i64 (((List.length xs) : Nat) : Int)) (by kernel_rfl) (fun _ => by kernel_rfl) ?_
      refine q_val (.bool (decide (((c : Nat) : Int) = (((List.length xs) : Nat) : Int)))) (by kernel_rfl) (fun _ => by kernel_rfl) ?_
      refine q_val (.bool (decide (((c : Nat) : Int) = (((List.length xs) : Nat) : Int)))) (by kernel_rfl) (fun _ => by kernel_rfl) ?_
      cases h8 : decide (((c : Nat) : Int) = (((List.length xs) : Nat) : Int))
      · skip
        have h8p := of_decide_eq_false h8
        exact absurd h8p (by omega)
      · skip
        have h8p := of_decide_eq_true h8
        refine q_load1 5 g1 0 #[.pointer (some ⟨t, 0, none⟩)] 56 (.pointer (some ⟨t, 0, none⟩)) (by kernel_rfl) (by kernel_rfl) (by kernel_rfl) (fun _ => by kernel_rfl) ?_
        refine q_callR (.int .i64 (((List.length xs) : Nat) : Int)) (by kernel_rfl) (fun _ => by kernel_rfl) (fun _ H => (TLenI _ (H.roOf [3, 4] [.blk t #[sv, .int .i64 ((room : Nat) : Int), .func (.func 26) #[] #[]] 90, .row (sv) 92 2 (List.length xs) (List.flatMap pairLI xs)] (by kernel_rfl)))) ?_
        refine q_load1 1 g4 0 #[.int .i64 ((c : Nat) : Int)] 3 (.int .i64 ((c : Nat) : Int)) (by kernel_rfl) (by kernel_rfl) (by kernel_rfl) (fun _ => by kernel_rfl) ?_
        refine q_val (.bool (decide ((((List.length xs) : Nat) : Int) = ((c : Nat) : Int)))) (by kernel_rfl) (fun _ => by kernel_rfl) ?_
        refine q_val (.bool (decide ((((List.length xs) : Nat) : Int) = ((c : Nat) : Int)))) (by kernel_rfl) (fun _ => by kernel_rfl) ?_
        refine q_val (.bool (decide ((((List.length xs) : Nat) : Int) = ((c : Nat) : Int)))) (by kernel_rfl) (fun _ => by kernel_rfl) ?_
        cases h9 : decide ((((List.length xs) : Nat) : Int) = ((c : Nat) : Int))
        · skip
          have h9p := of_decide_eq_false h9
          exact absurd h9p (by omega)
        · skip
          have h9p := of_decide_eq_true h9
          refine q_load1 5 g1 0 #[.pointer (some ⟨t, 0, none⟩)] 56 (.pointer (some ⟨t, 0, none⟩)) (by kernel_rfl) (by kernel_rfl) (by kernel_rfl) (fun _ => by kernel_rfl) ?_
          refine q_callR (.int .i64 ((room : Nat) : Int)) (by kernel_rfl) (fun _ => by kernel_rfl) (fun _ H => (TRoom _ (H.roOf [3, 4] [.blk t #[sv, .int .i64 ((room : Nat) : Int), .func (.func 26) #[] #[]] 90, .row (sv) 92 2 (List.length xs) (List.flatMap pairLI xs)] (by kernel_rfl)))) ?_
          refine q_val (.int .i64 ((room : Nat) : Int)) (by kernel_rfl) (fun _ => by kernel_rfl) ?_
          refine q_eq (.bool true) (show Value.bool (decide (((room : Nat) : Int) = ((room : Nat) : Int))) = Value.bool true by simp) (by kernel_rfl) (fun _ => by kernel_rfl) ?_
          refine q_val (.bool true) (by kernel_rfl) (fun _ => by kernel_rfl) ?_
          refine q_val (.bool true) (by kernel_rfl) (fun _ => by kernel_rfl) ?_
          refine q_load1 1 g4 0 #[.int .i64 ((c : Nat) : Int)] 3 (.int .i64 ((c : Nat) : Int)) (by kernel_rfl) (by kernel_rfl) (by kernel_rfl) (fun _ => by kernel_rfl) ?_
          refine q_val (.int .i64 ((room : Nat) : Int)) (by kernel_rfl) (fun _ => by kernel_rfl) ?_
          refine q_val (.bool (decide (((c : Nat) : Int) ≤ ((room : Nat) : Int)))) (by kernel_rfl) (fun _ => by kernel_rfl) ?_
          refine q_val (.bool (decide (((c : Nat) : Int) ≤ ((room : Nat) : Int)))) (by kernel_rfl) (fun _ => by kernel_rfl) ?_
          refine q_nil ?_
          clear H
          intro v16 H
          refine x_store (t := 4) (v := .bool (decide (((c : Nat) : Int) ≤ ((room : Nat) : Int)))) H 8 g3 0 #[.bool false] #[.bool (decide (((c : Nat) : Int) ≤ ((room : Nat) : Int)))] 4 [.bool (decide (((c : Nat) : Int) ≤ ((room : Nat) : Int)))] [.obj D ((.deferred (some []))), .blk g4 #[.int .i64 ((c : Nat) : Int)] 3, .blk q #[.pointer (some ⟨t, 0, none⟩)] 56, .blk t #[sv, .int .i64 ((room : Nat) : Int), .func (.func 26) #[] #[]] 90, .row (sv) 92 2 (List.length xs) (List.flatMap pairLI xs), .blk g1 #[.pointer (some ⟨t, 0, none⟩)] 56, .blk g2 #[.slice (some ⟨gw, 0, none⟩) (List.length xs) cw] 70, .row (.slice (some ⟨gw, 0, none⟩) (List.length xs) cw) 77 2 (List.length xs) (List.flatMap pairLI xs), .blk g3 #[.bool (decide (((c : Nat) : Int) ≤ ((room : Nat) : Int)))] 4] (by kernel_rfl) rfl (by kernel_rfl) (by kernel_rfl) (by kernel_rfl) (by kernel_rfl) (by kernel_rfl) (by kernel_rfl) (by kernel_rfl) (by kernel_rfl) ?_
          clear H
          intro v17 H
          refine x_nil ?_
          refine x_then ?_
          refine x_retc ?_
          refine x_retM1 [0, 1, 2, 3, 4, 5, 6, 7, 8] [.blk g4 #[.int .i64 ((c : Nat) : Int)] 3, .blk q #[.pointer (some ⟨t, 0, none⟩)] 56, .blk t #[sv, .int .i64 ((room : Nat) : Int), .func (.func 26) #[] #[]] 90, .row (sv) 92 2 (List.length xs) (List.flatMap pairLI xs), .blk g1 #[.pointer (some ⟨t, 0, none⟩)] 56, .blk g2 #[.slice (some ⟨gw, 0, none⟩) (List.length xs) cw] 70, .row (.slice (some ⟨gw, 0, none⟩) (List.length xs) cw) 77 2 (List.length xs) (List.flatMap pairLI xs), .blk g3 #[.bool (decide (((c : Nat) : Int) ≤ ((room : Nat) : Int)))] 4] (.bool (decide (((c : Nat) : Int) ≤ ((room : Nat) : Int)))) H (by kernel_rfl) rfl (by decide) (fun _ H => (x_rescell1 H 7 g3 0 #[.bool (decide (((c : Nat) : Int) ≤ ((room : Nat) : Int)))] 4 (.bool (decide (((c : Nat) : Int) ≤ ((room : Nat) : Int)))) (fun x => x) (by kernel_rfl) (by kernel_rfl) (by kernel_rfl))) ?_
          clear H
          intro v18 H
          replace H := H.pick [2, 3, 6] [.blk t #[sv, .int .i64 ((room : Nat) : Int), .func (.func 26) #[] #[]] 90, .row (sv) 92 2 (List.length xs) (List.flatMap pairLI xs), .row (.slice (some ⟨gw, 0, none⟩) (List.length xs) cw) 77 2 (List.length xs) (List.flatMap pairLI xs)] (by decide) (by kernel_rfl)
          exact ⟨by rw [show (decide (((c : Nat) : Int) ≤ ((room : Nat) : Int))) = true from decide_eq_true (by omega)], H⟩
    · skip
      clear H
      rintro D c pre c W2 hpre hJ H
      rcases hJ with ⟨rfl, hJ⟩
      · skip
        exact absurd hpre hJ
end Go.Proofs.Ytpeefnbcgilihaa
