/- The iterator of a table; the law TableRoom, walked. -/
import Derived.Test.YtpeefnbcgilihaaTabC
namespace Go.Proofs.Ytpeefnbcgilihaa
open Go Go.RowKit
set_option linter.unusedVariables false
set_option linter.unusedSimpArgs false

set_option maxRecDepth 100000 in
set_option maxHeartbeats 4000000 in
theorem TAll_of (t : Nat) (w0 : World) :
    Calls Try.prog 30 #[.pointer (some ⟨t, 0, none⟩)] w0 fun e w' => ∃ q, e = .returned (.func (.func 43) #[] #[.pointer (some ⟨q, 0, none⟩)]) ∧ Hs [] w0 w' [.blk q #[.pointer (some ⟨t, 0, none⟩)] 56] := by
  refine x_enter Try.func30 rfl #[.pointer (some ⟨t, 0, none⟩), undef, undef, undef] (by kernel_rfl) ?_
  have H := Hs.nil w0
  refine x_seq ?_
  refine x_region ?_
  refine x_box H #[.pointer (some ⟨t, 0, none⟩)] 56 (by kernel_rfl) rfl (by kernel_rfl) ?_
  clear H
  intro v1 g1 H
  refine x_val (.nilFunc) (by kernel_rfl) rfl (by kernel_rfl) ?_
  refine x_nil ?_
  refine x_then ?_
  refine x_seq ?_
  refine x_region ?_
  refine x_val (.func (.func 43) #[] #[.pointer (some ⟨g1, 0, none⟩)]) (by kernel_rfl) rfl (by kernel_rfl) ?_
  refine x_val (.func (.func 43) #[] #[.pointer (some ⟨g1, 0, none⟩)]) (by kernel_rfl) rfl (by kernel_rfl) ?_
  refine x_nil ?_
  refine x_then ?_
  refine x_retc ?_
  refine x_ret (.func (.func 43) #[] #[.pointer (some ⟨g1, 0, none⟩)]) (by kernel_rfl) (by kernel_rfl) ?_
  exact ⟨_, rfl, H⟩

theorem take_nextP (xs : List PairI) (k : Nat) (h : k < xs.length) : xs.take (k + 1) = xs.take k ++ [xs.getD k (0, 0)] := by
  rw [List.take_succ_eq_append_getElem h]; simp [List.getD, h]
theorem prefix_getP {pre xs : List PairI} {x : PairI} (h : pre ++ [x] <+: xs) : xs.getD pre.length (0, 0) = x ∧ pre.length < xs.length := by
  obtain ⟨r, rfl⟩ := h
  constructor
  · simp [List.getD]
  · simp

set_option maxRecDepth 100000 in
set_option maxHeartbeats 2000000 in
theorem tvals_s {t q room : Nat} {g cap : Nat} {xs : List PairI} (hn : xs.length ≤ 4096) (W0 : World) (hR : Ro W0 [.blk q #[.pointer (some ⟨t, 0, none⟩)] 56, .blk t #[.slice (some ⟨g, 0, none⟩) (List.length xs) cap, .int .i64 ((room : Nat) : Int), .func (.func 26) #[] #[]] 90, .row (.slice (some ⟨g, 0, none⟩) (List.length xs) cap) 92 2 (List.length xs) (List.flatMap pairLI xs)]) :
    SeqStopsK (FW none) 0 Try.prog 43 #[.pointer (some ⟨q, 0, none⟩)] (fun x : PairI => #[.int .i64 x.1, .int .i64 x.2]) (KpOf [.blk q #[.pointer (some ⟨t, 0, none⟩)] 56, .blk t #[.slice (some ⟨g, 0, none⟩) (List.length xs) cap, .int .i64 ((room : Nat) : Int), .func (.func 26) #[] #[]] 90, .row (.slice (some ⟨g, 0, none⟩) (List.length xs) cap) 92 2 (List.length xs) (List.flatMap pairLI xs)]) (fun ys => ys = xs) (fun pre => pre <+: xs) xs.length W0 := fun l J Jx W hW hJ hJx hY h0 => callsFW.2 (by
  refine x_enter Try.func43 rfl #[.func (.yield l) #[] #[], .pointer (some ⟨q, 0, none⟩), undef, undef, undef, undef, undef, undef, undef, undef, undef, undef, undef, undef, undef, undef, undef, undef, undef, undef, undef, undef] (by kernel_rfl) ?_
  have H := Hs.nil W
  have R0 : Ro W [.blk q #[.pointer (some ⟨t, 0, none⟩)] 56, .blk t #[.slice (some ⟨g, 0, none⟩) (List.length xs) cap, .int .i64 ((room : Nat) : Int), .func (.func 26) #[] #[]] 90, .row (.slice (some ⟨g, 0, none⟩) (List.length xs) cap) 92 2 (List.length xs) (List.flatMap pairLI xs)] := fun i r hi => Res.keep (hR i r hi) fun g hg => hW.block g (Res.lt (hR i r hi) g hg)
  refine x_seq ?_
  refine x_region ?_
  refine x_loadc q 0 (.pointer (some ⟨t, 0, none⟩)) ((H.ro R0).cell 0 rfl 0 rfl) (by kernel_rfl) rfl (by kernel_rfl) ?_
  refine x_val (.pointer (some ⟨t, 0, none⟩)) (by kernel_rfl) rfl (by kernel_rfl) ?_
  refine x_val (.pointer (some ⟨t, 0, none⟩)) (by kernel_rfl) rfl (by kernel_rfl) ?_
  refine x_loadc t 0 (.slice (some ⟨g, 0, none⟩) (List.length xs) cap) ((H.ro R0).cell 1 rfl 0 rfl) (by kernel_rfl) rfl (by kernel_rfl) ?_
  refine x_val (.int .i64 (((List.length xs) : Nat) : Int)) (by kernel_rfl) rfl (by kernel_rfl) ?_
  refine x_val (.int .i64 0) (by kernel_rfl) rfl (by kernel_rfl) ?_
  refine x_nil ?_
  refine x_then ?_
  refine x_block ?_
  refine x_loop (G := Nat × World) (fun gh a w' => match gh with | (k, wb) => ∃ uf1 : Nat → Value, a = { tmps := #[.func (.yield l) #[] #[], .pointer (some ⟨q, 0, none⟩), undef, undef, (uf1 0), .pointer (some ⟨t, 0, none⟩), .pointer (some ⟨t, 0, none⟩), .pointer (some ⟨t, 0, none⟩), .slice (some ⟨g, 0, none⟩) (List.length xs) cap, .int .i64 (((List.length xs) : Nat) : Int), .int .i64 ((k : Nat) : Int), (uf1 1), (uf1 2), (uf1 3), (uf1 4), (uf1 5), (uf1 6), (uf1 7), (uf1 8), (uf1 9), (uf1 10), (uf1 11)], defers := [] } ∧ Hs [] wb w' [] ∧ (k ≤ xs.length) ∧ (J (xs.take k) wb) ∧ (Ro wb [.blk q #[.pointer (some ⟨t, 0, none⟩)] 56, .blk t #[.slice (some ⟨g, 0, none⟩) (List.length xs) cap, .int .i64 ((room : Nat) : Int), .func (.func 26) #[] #[]] 90, .row (.slice (some ⟨g, 0, none⟩) (List.length xs) cap) 92 2 (List.length xs) (List.flatMap pairLI xs)])) (fun gh => match gh with | (k, wb) => xs.length - k) (0, W) ⟨(nthV [undef, undef, undef, undef, undef, undef, undef, undef, undef, undef, undef, undef]), (by kernel_rfl), H, (Nat.zero_le _), (by simpa using h0), R0⟩ ?_
  clear H
  rintro ⟨k, wb⟩ _ v1 ⟨uf1, rfl, H, r1, r2, r3⟩
  have hJ1 := r2
  have R0 := r3
  refine x_seq ?_
  refine x_region ?_
  refine x_val (.bool (decide (((k : Nat) : Int) < (((List.length xs) : Nat) : Int)))) (by kernel_rfl) rfl (by kernel_rfl) ?_
  refine x_nil ?_
  refine x_then ?_
  refine x_seq ?_
  cases h1 : decide (((k : Nat) : Int) < (((List.length xs) : Nat) : Int))
  · skip
    have h1p := of_decide_eq_false h1
    refine x_f (by kernel_rfl) ?_
    refine x_exit ?_
    refine x_then_exit ?_
    refine x_then_exit ?_
    refine x_blk_exit ?_
    refine x_end (.tuple #[]) (by kernel_rfl) (by kernel_rfl) ?_
    have hk : k = xs.length := by omega
    have HJ2 := hJ _ _ _ none hJ1 (below_grown H.below) (fun r e => by cases e)
    rw [hk, List.take_length] at HJ2
    exact ⟨⟨_, rfl⟩, .inl ⟨_, rfl, HJ2⟩⟩
  · skip
    have h1p := of_decide_eq_true h1
    refine x_t (by kernel_rfl) ?_
    refine x_skipc ?_
    refine x_then ?_
    refine x_seq ?_
    refine x_block ?_
    refine x_seq ?_
    refine x_region ?_
    refine x_ix (t := 88) g 0 k (List.length xs) cap 92 2 (k * 2) (by omega) (by omega) (by kernel_rfl) (by kernel_rfl) (by kernel_rfl) rfl (by kernel_rfl) ?_
    refine x_loadcn (t := 92) g (k * 2) [.int .i64 ((xs.getD k (0, 0)).1), .int .i64 ((xs.getD k (0, 0)).2)] ((H.ro R0).rowCells 2 rfl (k * 2) (flatAt pairLenI (0, 0) _ (by omega))) (by kernel_rfl) rfl (by kernel_rfl) (by kernel_rfl) ?_
    refine x_box H #[.int .i64 0, .int .i64 0] 92 (by kernel_rfl) rfl (by kernel_rfl) ?_
    clear H
    intro v2 g1 H
    refine x_store (t := 92) (v := .agg #[.int .i64 ((xs.getD k (0, 0)).1), .int .i64 ((xs.getD k (0, 0)).2)]) H 0 g1 0 #[.int .i64 0, .int .i64 0] #[.int .i64 ((xs.getD k (0, 0)).1), .int .i64 ((xs.getD k (0, 0)).2)] 92 [.int .i64 ((xs.getD k (0, 0)).1), .int .i64 ((xs.getD k (0, 0)).2)] [.blk g1 #[.int .i64 ((xs.getD k (0, 0)).1), .int .i64 ((xs.getD k (0, 0)).2)] 92] (by kernel_rfl) rfl (by kernel_rfl) (by kernel_rfl) (by kernel_rfl) (by kernel_rfl) (by kernel_rfl) (by kernel_rfl) (by kernel_rfl) (by kernel_rfl) ?_
    clear H
    intro v3 H
    refine x_nil ?_
    refine x_then ?_
    refine x_seq ?_
    refine x_region ?_
    refine x_val (.func (.yield l) #[] #[]) (by kernel_rfl) rfl (by kernel_rfl) ?_
    refine x_val (.pointer (some ⟨g1, 0, none⟩)) (by kernel_rfl) rfl (by kernel_rfl) ?_
    refine x_load1 H 0 g1 0 #[.int .i64 ((xs.getD k (0, 0)).1), .int .i64 ((xs.getD k (0, 0)).2)] 92 (.int .i64 ((xs.getD k (0, 0)).1)) (by kernel_rfl) (by kernel_rfl) (by kernel_rfl) rfl (by kernel_rfl) ?_
    refine x_val (.pointer (some ⟨g1, 1, none⟩)) (by kernel_rfl) rfl (by kernel_rfl) ?_
    refine x_load1 H 0 g1 1 #[.int .i64 ((xs.getD k (0, 0)).1), .int .i64 ((xs.getD k (0, 0)).2)] 92 (.int .i64 ((xs.getD k (0, 0)).2)) (by kernel_rfl) (by kernel_rfl) (by kernel_rfl) rfl (by kernel_rfl) ?_
    have HJ2 := hJ _ _ _ none hJ1 (below_grown H.below) (fun r e => by cases e)
    refine x_yield (hY _ (xs.getD k (0, 0)) _ HJ2 (by rw [List.length_take]; omega)) (by kernel_rfl) rfl (by kernel_rfl) ?_
    rintro e v2 (⟨rfl, hJ3, hKp⟩ | ⟨rfl, hJx3⟩)
    · skip
      refine ⟨_, rfl, ?_⟩
      have R3 := hKp (H.ro R0)
      clear H
      have H := Hs.nil v2
      refine x_val (.bool false) (by kernel_rfl) rfl (by kernel_rfl) ?_
      refine x_nil ?_
      refine x_then ?_
      refine x_f (by kernel_rfl) ?_
      refine x_skipc ?_
      refine x_blk ?_
      refine x_then ?_
      refine x_region ?_
      refine x_ar (((k : Nat) : Int) + 1) ⟨by omega, by omega⟩ (by kernel_rfl) rfl (by kernel_rfl) ?_
      refine x_val (.int .i64 (((k : Nat) : Int) + 1)) (by kernel_rfl) rfl (by kernel_rfl) ?_
      refine x_nil ?_
      refine x_then ?_
      exact ⟨(k + 1, v2), (by dsimp only; omega), (nthV [.pointer (some ⟨g1, 0, none⟩), .bool true, .pointer (some ⟨g, k * 2, none⟩), .agg #[.int .i64 ((xs.getD k (0, 0)).1), .int .i64 ((xs.getD k (0, 0)).2)], .func (.yield l) #[] #[], .pointer (some ⟨g1, 0, none⟩), .int .i64 ((xs.getD k (0, 0)).1), .pointer (some ⟨g1, 1, none⟩), .int .i64 ((xs.getD k (0, 0)).2), .bool true, .bool false, .int .i64 (((k : Nat) : Int) + 1)]), (by kernel_rfl), H, (by omega), (by rw [take_nextP xs k (by omega)]; exact hJ3), R3⟩
    · skip
      refine ⟨_, rfl, ?_⟩
      clear H
      have H := Hs.nil v2
      refine x_val (.bool true) (by kernel_rfl) rfl (by kernel_rfl) ?_
      refine x_nil ?_
      refine x_then ?_
      refine x_t (by kernel_rfl) ?_
      refine x_retc ?_
      refine x_blk_ret ?_
      refine x_then_ret ?_
      refine x_then_ret ?_
      refine x_blk_ret ?_
      refine x_ret (.tuple #[]) (by kernel_rfl) (by kernel_rfl) ?_
      exact ⟨⟨_, rfl⟩, .inr ⟨_, by rw [← take_nextP xs k (by omega)]; exact List.take_prefix _ _, hJx3⟩⟩)

set_option maxRecDepth 100000 in
set_option maxHeartbeats 2000000 in
theorem tvals_n {t q room : Nat} {xs : List PairI} (hn : xs.length ≤ 4096) (W0 : World) (hR : Ro W0 [.blk q #[.pointer (some ⟨t, 0, none⟩)] 56, .blk t #[.slice none 0 0, .int .i64 ((room : Nat) : Int), .func (.func 26) #[] #[]] 90, .row (.slice none 0 0) 92 2 (List.length xs) (List.flatMap pairLI xs)]) :
    SeqStopsK (FW none) 0 Try.prog 43 #[.pointer (some ⟨q, 0, none⟩)] (fun x : PairI => #[.int .i64 x.1, .int .i64 x.2]) (KpOf [.blk q #[.pointer (some ⟨t, 0, none⟩)] 56, .blk t #[.slice none 0 0, .int .i64 ((room : Nat) : Int), .func (.func 26) #[] #[]] 90, .row (.slice none 0 0) 92 2 (List.length xs) (List.flatMap pairLI xs)]) (fun ys => ys = xs) (fun pre => pre <+: xs) xs.length W0 := fun l J Jx W hW hJ hJx hY h0 => callsFW.2 (by
  refine x_enter Try.func43 rfl #[.func (.yield l) #[] #[], .pointer (some ⟨q, 0, none⟩), undef, undef, undef, undef, undef, undef, undef, undef, undef, undef, undef, undef, undef, undef, undef, undef, undef, undef, undef, undef] (by kernel_rfl) ?_
  have H := Hs.nil W
  have R0 : Ro W [.blk q #[.pointer (some ⟨t, 0, none⟩)] 56, .blk t #[.slice none 0 0, .int .i64 ((room : Nat) : Int), .func (.func 26) #[] #[]] 90, .row (.slice none 0 0) 92 2 (List.length xs) (List.flatMap pairLI xs)] := fun i r hi => Res.keep (hR i r hi) fun g hg => hW.block g (Res.lt (hR i r hi) g hg)
  have hx0 : xs.length = 0 := by rcases rowForm (hR 2 _ rfl : W0.ownsRow 0 _ 2 _ _ _) with ⟨_, h⟩ | ⟨g, cap, h, _⟩ <;> first | exact h | simp at h
  refine x_seq ?_
  refine x_region ?_
  refine x_loadc q 0 (.pointer (some ⟨t, 0, none⟩)) ((H.ro R0).cell 0 rfl 0 rfl) (by kernel_rfl) rfl (by kernel_rfl) ?_
  refine x_val (.pointer (some ⟨t, 0, none⟩)) (by kernel_rfl) rfl (by kernel_rfl) ?_
  refine x_val (.pointer (some ⟨t, 0, none⟩)) (by kernel_rfl) rfl (by kernel_rfl) ?_
  refine x_loadc t 0 (.slice none 0 0) ((H.ro R0).cell 1 rfl 0 rfl) (by kernel_rfl) rfl (by kernel_rfl) ?_
  refine x_val (.int .i64 0) (by kernel_rfl) rfl (by kernel_rfl) ?_
  refine x_val (.int .i64 0) (by kernel_rfl) rfl (by kernel_rfl) ?_
  refine x_nil ?_
  refine x_then ?_
  refine x_block ?_
  refine x_loop (G := Nat × World) (fun gh a w' => match gh with | (k, wb) => ∃ uf1 : Nat → Value, a = { tmps := #[.func (.yield l) #[] #[], .pointer (some ⟨q, 0, none⟩), undef, undef, (uf1 0), .pointer (some ⟨t, 0, none⟩), .pointer (some ⟨t, 0, none⟩), .pointer (some ⟨t, 0, none⟩), .slice none 0 0, .int .i64 0, .int .i64 ((k : Nat) : Int), (uf1 1), (uf1 2), (uf1 3), (uf1 4), (uf1 5), (uf1 6), (uf1 7), (uf1 8), (uf1 9), (uf1 10), (uf1 11)], defers := [] } ∧ Hs [] wb w' [] ∧ (k ≤ xs.length) ∧ (J (xs.take k) wb) ∧ (Ro wb [.blk q #[.pointer (some ⟨t, 0, none⟩)] 56, .blk t #[.slice none 0 0, .int .i64 ((room : Nat) : Int), .func (.func 26) #[] #[]] 90, .row (.slice none 0 0) 92 2 (List.length xs) (List.flatMap pairLI xs)])) (fun gh => match gh with | (k, wb) => xs.length - k) (0, W) ⟨(nthV [undef, undef, undef, undef, undef, undef, undef, undef, undef, undef, undef, undef]), (by kernel_rfl), H, (Nat.zero_le _), (by simpa using h0), R0⟩ ?_
  clear H
  rintro ⟨k, wb⟩ _ v1 ⟨uf1, rfl, H, r1, r2, r3⟩
  have hJ1 := r2
  have R0 := r3
  refine x_seq ?_
  refine x_region ?_
  refine x_val (.bool (decide (((k : Nat) : Int) < 0))) (by kernel_rfl) rfl (by kernel_rfl) ?_
  refine x_nil ?_
  refine x_then ?_
  refine x_seq ?_
  cases h1 : decide (((k : Nat) : Int) < 0)
  · skip
    have h1p := of_decide_eq_false h1
    refine x_f (by kernel_rfl) ?_
    refine x_exit ?_
    refine x_then_exit ?_
    refine x_then_exit ?_
    refine x_blk_exit ?_
    refine x_end (.tuple #[]) (by kernel_rfl) (by kernel_rfl) ?_
    have hk : k = xs.length := by omega
    have HJ2 := hJ _ _ _ none hJ1 (below_grown H.below) (fun r e => by cases e)
    rw [hk, List.take_length] at HJ2
    exact ⟨⟨_, rfl⟩, .inl ⟨_, rfl, HJ2⟩⟩
  · skip
    have h1p := of_decide_eq_true h1
    exact absurd h1p (by omega))

theorem tvals_of {t q room : Nat} {sv : Value} {xs : List PairI} (hn : xs.length ≤ 4096) (W0 : World) (hR : Ro W0 [.blk q #[.pointer (some ⟨t, 0, none⟩)] 56, .blk t #[sv, .int .i64 ((room : Nat) : Int), .func (.func 26) #[] #[]] 90, .row (sv) 92 2 (List.length xs) (List.flatMap pairLI xs)]) :
    SeqStopsK (FW none) 0 Try.prog 43 #[.pointer (some ⟨q, 0, none⟩)] (fun x : PairI => #[.int .i64 x.1, .int .i64 x.2]) (KpOf [.blk q #[.pointer (some ⟨t, 0, none⟩)] 56, .blk t #[sv, .int .i64 ((room : Nat) : Int), .func (.func 26) #[] #[]] 90, .row (sv) 92 2 (List.length xs) (List.flatMap pairLI xs)]) (fun ys => ys = xs) (fun pre => pre <+: xs) xs.length W0 := by
  rcases rowForm (hR 2 _ rfl : W0.ownsRow 0 _ 2 sv _ _) with ⟨rfl, h0⟩ | ⟨g, cap, rfl, hc, _⟩
  · exact tvals_n hn W0 hR
  · exact tvals_s hn W0 hR
/-- All keys, each of the weight 7. -/
def seven (ks : List Int) : List PairI := ks.map fun a => (a, 7)
theorem seven_len (ks : List Int) : (seven ks).length = ks.length := by simp [seven]
theorem seven_get (ks : List Int) (j : Nat) (h : j < ks.length) : (seven ks).getD j (0, 0) = (ks.getD j 0, 7) := by simp [seven, List.getD, h]
theorem lt7 (ks : List Int) : ∀ k, k ≤ ks.length → (ltI (seven ks) k).1 = 0 ∧ (0 < k → (ltI (seven ks) k).2 = 7)
  | 0, _ => ⟨rfl, fun h => absurd h (Nat.lt_irrefl _)⟩
  | k + 1, h => by
    have ih := lt7 ks k (by omega)
    have e : ((seven ks).getD k (0, 0)).2 = 7 := by rw [seven_get ks k (by omega)]
    rw [ltI]
    by_cases hk : k = 0
    · rw [if_pos (.inl hk)]; exact ⟨hk, fun _ => e⟩
    · rw [if_neg (by rintro (q | q); exact hk q; rw [e, ih.2 (by omega)] at q; omega)]
      exact ⟨ih.1, fun _ => ih.2 (by omega)⟩
theorem put7_has {room : Nat} {ks : List Int} {k : Int} (h : fkI (seven ks) k < (seven ks).length) : putI room (seven ks) k 7 = (seven ks, 0, false) := by
  unfold putI
  rw [if_pos h]
  congr 1
  have e := seven_get ks (fkI (seven ks) k) (by rw [← seven_len]; exact h)
  have e2 : (seven ks)[fkI (seven ks) k] = ((ks.getD (fkI (seven ks) k) 0), 7) := by rw [← e]; simp [List.getD, h]
  rw [e]
  show (seven ks).set _ ((ks.getD (fkI (seven ks) k) 0), 7) = seven ks
  rw [← e2, List.set_getElem_self]
theorem put7_room {room : Nat} {ks : List Int} {k : Int} (h : ¬ fkI (seven ks) k < (seven ks).length) (hr : ks.length < room) : putI room (seven ks) k 7 = (seven (ks ++ [k]), 0, false) := by
  unfold putI
  rw [if_neg h, if_pos (by rw [seven_len]; exact hr)]
  simp [seven]
theorem put7_full {room : Nat} {ks : List Int} {k : Int} (h : ¬ fkI (seven ks) k < (seven ks).length) (hr : ks.length = room) (h1 : 1 ≤ room) : putI room (seven ks) k 7 = (seven (ks.drop 1 ++ [k]), ks.getD 0 0, true) := by
  unfold putI
  rw [if_neg h, if_neg (by rw [seven_len]; omega), (lt7 ks (seven ks).length (by rw [seven_len]; exact Nat.le_refl _)).1]
  cases ks with
  | nil => simp at hr; omega
  | cons a r => simp [seven, List.getD]

set_option maxRecDepth 100000 in
set_option maxHeartbeats 4000000 in
theorem room_no (room : Int) (ad : Option Addr) (nA cA : Nat) (hroom : room < 1 ∨ 256 < room) (w0 : World) :
    Calls Try.prog 7 #[.int .i64 room, .slice ad nA cA] w0 fun e w' => e = .returned (.bool true) ∧ Below w0.heap.size w0 w' := by
  refine x_enterM Try.func7 rfl #[.int .i64 room, .slice ad nA cA, undef, undef, undef, undef, undef, undef, undef, undef, undef, undef, undef, undef, undef, undef, undef, undef, undef, undef, undef, undef, undef, undef, undef, undef, undef, undef, undef, undef, undef, undef, undef, undef, undef, undef, undef, undef, undef, undef, undef, undef, undef, undef, undef, undef, undef, undef, undef, undef, undef, undef, undef, undef, undef, undef, undef, undef, undef, undef, undef, undef, undef, undef, undef, undef, undef, undef, undef, undef, undef, undef, undef, undef, undef, undef, undef, undef, undef, undef, undef, undef, undef, undef, undef, undef, undef, undef, undef, undef, undef, undef, undef, undef, undef, undef, undef, undef, undef, undef, undef, undef, undef, undef, undef, undef, undef, undef, undef, undef, undef, undef, undef, undef, undef, undef, undef, undef] (by kernel_rfl) ?_
  have H := Hs.nil w0
  refine x_seq ?_
  refine x_region ?_
  refine x_box H #[.bool false] 4 (by kernel_rfl) rfl (by kernel_rfl) ?_
  clear H
  intro v1 g1 H
  refine x_nil ?_
  refine x_then ?_
  refine x_seq ?_
  refine x_seq ?_
  refine x_region ?_
  refine x_callB (.bool true) H (by kernel_rfl) rfl (by kernel_rfl) (anchor16 _) ?_
  clear H
  intro v2 H
  refine x_val (.bool false) (by kernel_rfl) rfl (by kernel_rfl) ?_
  refine x_nil ?_
  refine x_then ?_
  refine x_f (by kernel_rfl) ?_
  refine x_skipc ?_
  refine x_then ?_
  refine x_seq ?_
  refine x_region ?_
  refine x_val (.int .i64 room) (by kernel_rfl) rfl (by kernel_rfl) ?_
  refine x_callB (.tuple #[.pointer none, .int .i64 12]) H (by kernel_rfl) rfl (by kernel_rfl) (TNewI_no room hroom _) ?_
  clear H
  intro v3 H
  refine x_val (.tuple #[.pointer none, .int .i64 12]) (by kernel_rfl) rfl (by kernel_rfl) ?_
  refine x_val (.pointer none) (by kernel_rfl) rfl (by kernel_rfl) ?_
  refine x_val (.int .i64 12) (by kernel_rfl) rfl (by kernel_rfl) ?_
  refine x_val (.pointer none) (by kernel_rfl) rfl (by kernel_rfl) ?_
  refine x_val (.int .i64 12) (by kernel_rfl) rfl (by kernel_rfl) ?_
  refine x_nil ?_
  refine x_then ?_
  refine x_seq ?_
  refine x_seq ?_
  refine x_region ?_
  refine x_val (.int .i64 12) (by kernel_rfl) rfl (by kernel_rfl) ?_
  refine x_val (.bool true) (by kernel_rfl) rfl (by kernel_rfl) ?_
  refine x_val (.bool true) (by kernel_rfl) rfl (by kernel_rfl) ?_
  refine x_skip (by kernel_rfl) ?_
  refine x_skip (by kernel_rfl) ?_
  refine x_val (.bool true) (by kernel_rfl) rfl (by kernel_rfl) ?_
  refine x_val (.bool true) (by kernel_rfl) rfl (by kernel_rfl) ?_
  refine x_skip (by kernel_rfl) ?_
  refine x_skip (by kernel_rfl) ?_
  refine x_skip (by kernel_rfl) ?_
  refine x_val (.bool true) (by kernel_rfl) rfl (by kernel_rfl) ?_
  refine x_nil ?_
  refine x_then ?_
  refine x_t (by kernel_rfl) ?_
  refine x_seq ?_
  refine x_region ?_
  refine x_val (.pointer none) (by kernel_rfl) rfl (by kernel_rfl) ?_
  refine x_val (.bool true) (by kernel_rfl) rfl (by kernel_rfl) ?_
  refine x_val (.bool true) (by kernel_rfl) rfl (by kernel_rfl) ?_
  refine x_skip (by kernel_rfl) ?_
  refine x_skip (by kernel_rfl) ?_
  refine x_skip (by kernel_rfl) ?_
  refine x_val (.bool true) (by kernel_rfl) rfl (by kernel_rfl) ?_
  refine x_store (t := 4) (v := .bool true) H 0 g1 0 #[.bool false] #[.bool true] 4 [.bool true] [.blk g1 #[.bool true] 4] (by kernel_rfl) rfl (by kernel_rfl) (by kernel_rfl) (by kernel_rfl) (by kernel_rfl) (by kernel_rfl) (by kernel_rfl) (by kernel_rfl) (by kernel_rfl) ?_
  clear H
  intro v4 H
  refine x_nil ?_
  refine x_then ?_
  refine x_retc ?_
  refine x_then_ret ?_
  refine x_ret0 (.bool true) (by kernel_rfl) (x_rescell1 H 0 g1 0 #[.bool true] 4 (.bool true) (fun x => x) (by kernel_rfl) (by kernel_rfl) (by kernel_rfl)) ?_
  exact ⟨rfl, H.below⟩

set_option maxRecDepth 100000 in
set_option maxHeartbeats 4000000 in
theorem room_yes (room : Nat) (ad : Option Addr) (nA cA : Nat) (kl : List Int) (h1 : 1 ≤ room) (h2 : room ≤ 256) (w0 : World) (hA : IntsAt w0 ad nA kl) :
    Calls Try.prog 7 #[.int .i64 ((room : Nat) : Int), .slice ad nA cA] w0 fun e w' => e = .returned (.bool true) ∧ Below w0.heap.size w0 w' := by
  refine x_enterM Try.func7 rfl #[.int .i64 ((room : Nat) : Int), .slice ad nA cA, undef, undef, undef, undef, undef, undef, undef, undef, undef, undef, undef, undef, undef, undef, undef, undef, undef, undef, undef, undef, undef, undef, undef, undef, undef, undef, undef, undef, undef, undef, undef, undef, undef, undef, undef, undef, undef, undef, undef, undef, undef, undef, undef, undef, undef, undef, undef, undef, undef, undef, undef, undef, undef, undef, undef, undef, undef, undef, undef, undef, undef, undef, undef, undef, undef, undef, undef, undef, undef, undef, undef, undef, undef, undef, undef, undef, undef, undef, undef, undef, undef, undef, undef, undef, undef, undef, undef, undef, undef, undef, undef, undef, undef, undef, undef, undef, undef, undef, undef, undef, undef, undef, undef, undef, undef, undef, undef, undef, undef, undef, undef, undef, undef, undef, undef, undef] (by kernel_rfl) ?_
  have H := Hs.nil w0
  refine x_seq ?_
  refine x_region ?_
  refine x_box H #[.bool false] 4 (by kernel_rfl) rfl (by kernel_rfl) ?_
  clear H
  intro v1 g1 H
  refine x_nil ?_
  refine x_then ?_
  refine x_seq ?_
  refine x_seq ?_
  refine x_region ?_
  refine x_callB (.bool true) H (by kernel_rfl) rfl (by kernel_rfl) (anchor16 _) ?_
  clear H
  intro v2 H
  refine x_val (.bool false) (by kernel_rfl) rfl (by kernel_rfl) ?_
  refine x_nil ?_
  refine x_then ?_
  refine x_f (by kernel_rfl) ?_
  refine x_skipc ?_
  refine x_then ?_
  refine x_seq ?_
  refine x_region ?_
  refine x_val (.int .i64 ((room : Nat) : Int)) (by kernel_rfl) rfl (by kernel_rfl) ?_
  refine x_call (by kernel_rfl) rfl (by kernel_rfl) (TNewI_yes room (by omega) (by omega) _) ?_
  rintro _ v3 ⟨t, rfl, hN'⟩
  refine ⟨_, rfl, ?_⟩
  replace H := H.more hN'
  clear hN'
  replace H : Hs [] w0 _ [.blk t #[.slice none 0 0, .int .i64 ((room : Nat) : Int), .func (.func 26) #[] #[]] 90, .row (.slice none 0 0) 92 2 (List.length (seven ([] : List Int))) (List.flatMap pairLI (seven ([] : List Int))), .blk g1 #[.bool false] 4] := H
  refine x_val (.tuple #[.pointer (some ⟨t, 0, none⟩), .int .i64 0]) (by kernel_rfl) rfl (by kernel_rfl) ?_
  refine x_val (.pointer (some ⟨t, 0, none⟩)) (by kernel_rfl) rfl (by kernel_rfl) ?_
  refine x_val (.int .i64 0) (by kernel_rfl) rfl (by kernel_rfl) ?_
  refine x_val (.pointer (some ⟨t, 0, none⟩)) (by kernel_rfl) rfl (by kernel_rfl) ?_
  refine x_val (.int .i64 0) (by kernel_rfl) rfl (by kernel_rfl) ?_
  refine x_nil ?_
  refine x_then ?_
  refine x_seq ?_
  refine x_seq ?_
  refine x_region ?_
  refine x_val (.int .i64 0) (by kernel_rfl) rfl (by kernel_rfl) ?_
  refine x_val (.bool false) (by kernel_rfl) rfl (by kernel_rfl) ?_
  refine x_val (.bool false) (by kernel_rfl) rfl (by kernel_rfl) ?_
  refine x_val (.pointer (some ⟨t, 0, none⟩)) (by kernel_rfl) rfl (by kernel_rfl) ?_
  refine x_val (.bool false) (by kernel_rfl) rfl (by kernel_rfl) ?_
  refine x_val (.bool false) (by kernel_rfl) rfl (by kernel_rfl) ?_
  refine x_val (.bool false) (by kernel_rfl) rfl (by kernel_rfl) ?_
  refine x_val (.slice ad nA cA) (by kernel_rfl) rfl (by kernel_rfl) ?_
  refine x_val (.int .i64 ((nA : Nat) : Int)) (by kernel_rfl) rfl (by kernel_rfl) ?_
  refine x_val (.bool (decide (400 < ((nA : Nat) : Int)))) (by kernel_rfl) rfl (by kernel_rfl) ?_
  refine x_val (.bool (decide (400 < ((nA : Nat) : Int)))) (by kernel_rfl) rfl (by kernel_rfl) ?_
  refine x_nil ?_
  refine x_then ?_
  cases h1 : decide (400 < ((nA : Nat) : Int))
  · skip
    have h1p := of_decide_eq_false h1
    refine x_f (by kernel_rfl) ?_
    refine x_skipc ?_
    refine x_then ?_
    refine x_seq ?_
    refine x_region ?_
    refine x_box H #[.slice none 0 0] 55 (by kernel_rfl) rfl (by kernel_rfl) ?_
    clear H
    intro v4 g2 H
    refine x_nil ?_
    refine x_then ?_
    refine x_seq ?_
    refine x_seq ?_
    refine x_region ?_
    refine x_val (.slice ad nA cA) (by kernel_rfl) rfl (by kernel_rfl) ?_
    refine x_val (.int .i64 ((nA : Nat) : Int)) (by kernel_rfl) rfl (by kernel_rfl) ?_
    refine x_val (.int .i64 0) (by kernel_rfl) rfl (by kernel_rfl) ?_
    refine x_nil ?_
    refine x_then ?_
    refine x_block ?_
    replace H := H.nilRow 3 1
    replace H : Hs [] w0 _ [.blk t #[.slice none 0 0, .int .i64 ((room : Nat) : Int), .func (.func 26) #[] #[]] 90, .row (.slice none 0 0) 92 2 (List.length (seven ([] : List Int))) (List.flatMap pairLI (seven ([] : List Int))), .blk g2 #[.slice none 0 0] 55, .row (.slice none 0 0) 3 1 (List.length ([] : List Int)) (List.map (Value.int .i64) ([] : List Int)), .blk g1 #[.bool false] 4] := H.pick [2, 3, 1, 0, 4] _ (by decide) (by kernel_rfl)
    refine x_loop (G := Nat × Value × Value × List Int) (fun gh a w' => match gh with | (k, sv, lv, ks) => ∃ uf1 : Nat → Value, a = { tmps := #[.int .i64 ((room : Nat) : Int), .slice ad nA cA, undef, undef, .pointer (some ⟨g1, 0, none⟩), .pointer (some ⟨t, 0, none⟩), .int .i64 0, .pointer (some ⟨g2, 0, none⟩), undef, (uf1 0), (uf1 1), (uf1 2), (uf1 3), (uf1 4), undef, undef, .bool true, .bool false, .tuple #[.pointer (some ⟨t, 0, none⟩), .int .i64 0], .int .i64 ((room : Nat) : Int), .tuple #[.pointer (some ⟨t, 0, none⟩), .int .i64 0], .pointer (some ⟨t, 0, none⟩), .int .i64 0, .int .i64 0, .bool false, .bool false, .pointer (some ⟨t, 0, none⟩), .bool false, .bool false, .bool false, .slice ad nA cA, .int .i64 ((nA : Nat) : Int), .bool false, .bool false, undef, undef, undef, undef, undef, undef, undef, .slice ad nA cA, .int .i64 ((nA : Nat) : Int), .int .i64 ((k : Nat) : Int), (uf1 5), (uf1 6), (uf1 7), (uf1 8), (uf1 9), (uf1 10), (uf1 11), (uf1 12), (uf1 13), (uf1 14), (uf1 15), (uf1 16), (uf1 17), (uf1 18), (uf1 19), (uf1 20), (uf1 21), (uf1 22), (uf1 23), (uf1 24), (uf1 25), (uf1 26), (uf1 27), (uf1 28), (uf1 29), (uf1 30), (uf1 31), (uf1 32), (uf1 33), (uf1 34), (uf1 35), (uf1 36), (uf1 37), (uf1 38), (uf1 39), (uf1 40), (uf1 41), (uf1 42), (uf1 43), (uf1 44), (uf1 45), (uf1 46), (uf1 47), (uf1 48), (uf1 49), (uf1 50), (uf1 51), (uf1 52), (uf1 53), (uf1 54), (uf1 55), (uf1 56), undef, undef, undef, undef, undef, undef, undef, undef, undef, undef, undef, undef, undef, undef, undef, undef, undef, undef, undef, undef, undef, undef], defers := [] } ∧ Hs [] w0 w' [.blk t #[sv, .int .i64 ((room : Nat) : Int), .func (.func 26) #[] #[]] 90, .row (sv) 92 2 (List.length (seven ks)) (List.flatMap pairLI (seven ks)), .blk g2 #[lv] 55, .row (lv) 3 1 (List.length ks) (List.map (Value.int .i64) ks), .blk g1 #[.bool false] 4] ∧ (k ≤ nA) ∧ (ks.length ≤ room)) (fun gh => match gh with | (k, sv, lv, ks) => nA - k) (0, .slice none 0 0, .slice none 0 0, ([] : List Int)) ⟨(nthV [undef, undef, undef, undef, undef, undef, undef, undef, undef, undef, undef, undef, undef, undef, undef, undef, undef, undef, undef, undef, undef, undef, undef, undef, undef, undef, undef, undef, undef, undef, undef, undef, undef, undef, undef, undef, undef, undef, undef, undef, undef, undef, undef, undef, undef, undef, undef, undef, undef, undef, undef, undef, undef, undef, undef, undef, undef]), (by kernel_rfl), H, (Nat.zero_le _), (Nat.zero_le _)⟩ ?_
    clear H
    rintro ⟨k, sv, lv, ks⟩ _ v5 ⟨uf1, rfl, H, r1, r2⟩
    refine x_seq ?_
    refine x_region ?_
    refine x_val (.bool (decide (((k : Nat) : Int) < ((nA : Nat) : Int)))) (by kernel_rfl) rfl (by kernel_rfl) ?_
    refine x_nil ?_
    refine x_then ?_
    refine x_seq ?_
    cases h2 : decide (((k : Nat) : Int) < ((nA : Nat) : Int))
    · skip
      have h2p := of_decide_eq_false h2
      refine x_f (by kernel_rfl) ?_
      refine x_exit ?_
      refine x_then_exit ?_
      refine x_then_exit ?_
      refine x_blk_exit ?_
      refine x_then ?_
      refine x_seq ?_
      refine x_region ?_
      refine x_box H #[.int .i64 0] 3 (by kernel_rfl) rfl (by kernel_rfl) ?_
      clear H
      intro v6 g3 H
      refine x_store (t := 3) (v := .int .i64 0) H 0 g3 0 #[.int .i64 0] #[.int .i64 0] 3 [.int .i64 0] [.blk g3 #[.int .i64 0] 3, .blk t #[sv, .int .i64 ((room : Nat) : Int), .func (.func 26) #[] #[]] 90, .row (sv) 92 2 (List.length (seven ks)) (List.flatMap pairLI (seven ks)), .blk g2 #[lv] 55, .row (lv) 3 1 (List.length ks) (List.map (Value.int .i64) ks), .blk g1 #[.bool false] 4] (by kernel_rfl) rfl (by kernel_rfl) (by kernel_rfl) (by kernel_rfl) (by kernel_rfl) (by kernel_rfl) (by kernel_rfl) (by kernel_rfl) (by kernel_rfl) ?_
      clear H
      intro v7 H
      refine x_nil ?_
      refine x_then ?_
      refine x_seq ?_
      refine x_seq ?_
      refine x_region ?_
      refine x_val (.pointer (some ⟨t, 0, none⟩)) (by kernel_rfl) rfl (by kernel_rfl) ?_
      refine x_call (by kernel_rfl) rfl (by kernel_rfl) (TAll_of t _) ?_
      rintro _ v8 ⟨q, rfl, hN'⟩
      refine ⟨_, rfl, ?_⟩
      replace H := H.more hN'
      clear hN'
      replace H : Hs [] w0 _ [.blk q #[.pointer (some ⟨t, 0, none⟩)] 56, .blk g3 #[.int .i64 0] 3, .blk t #[sv, .int .i64 ((room : Nat) : Int), .func (.func 26) #[] #[]] 90, .row (sv) 92 2 (List.length (seven ks)) (List.flatMap pairLI (seven ks)), .blk g2 #[lv] 55, .row (lv) 3 1 (List.length ks) (List.map (Value.int .i64) ks), .blk g1 #[.bool false] 4] := H
      refine x_nil ?_
      refine x_then ?_
      refine x_block ?_
      rcases H.rowForm 5 rfl with ⟨rfl, h0⟩ | ⟨gw, cw, rfl, hcw, -⟩
      · skip
        replace H := H.pick [1, 0, 2, 3, 4, 5, 6] [.blk g3 #[.int .i64 0] 3, .blk q #[.pointer (some ⟨t, 0, none⟩)] 56, .blk t #[sv, .int .i64 ((room : Nat) : Int), .func (.func 26) #[] #[]] 90, .row (sv) 92 2 (List.length (seven ks)) (List.flatMap pairLI (seven ks)), .blk g2 #[.slice none 0 0] 55, .row (.slice none 0 0) 3 1 (List.length ks) (List.map (Value.int .i64) ks), .blk g1 #[.bool false] 4] (by decide) (by kernel_rfl)
        replace H : Hs [] w0 _ [.blk g3 #[.int .i64 ((0 : Nat) : Int)] 3, .blk q #[.pointer (some ⟨t, 0, none⟩)] 56, .blk t #[sv, .int .i64 ((room : Nat) : Int), .func (.func 26) #[] #[]] 90, .row (sv) 92 2 (List.length (seven ks)) (List.flatMap pairLI (seven ks)), .blk g2 #[.slice none 0 0] 55, .row (.slice none 0 0) 3 1 (List.length ks) (List.map (Value.int .i64) ks), .blk g1 #[.bool false] 4] := H
        refine x_rangeB (α := PairI) (G := Nat) (seven ks) (fun x => #[.int .i64 x.1, .int .i64 x.2]) [.blk q #[.pointer (some ⟨t, 0, none⟩)] 56, .blk t #[sv, .int .i64 ((room : Nat) : Int), .func (.func 26) #[] #[]] 90, .row (sv) 92 2 (List.length (seven ks)) (List.flatMap pairLI (seven ks))] [1, 2, 3] (fps [.blk g3 #[.int .i64 ((0 : Nat) : Int)] 3, .blk q #[.pointer (some ⟨t, 0, none⟩)] 56, .blk t #[sv, .int .i64 ((room : Nat) : Int), .func (.func 26) #[] #[]] 90, .row (sv) 92 2 (List.length (seven ks)) (List.flatMap pairLI (seven ks)), .blk g2 #[.slice none 0 0] 55, .row (.slice none 0 0) 3 1 (List.length ks) (List.map (Value.int .i64) ks), .blk g1 #[.bool false] 4]) (fun pre (c : Nat) => c = List.length pre) (fun pre (c : Nat) => [.blk g3 #[.int .i64 ((c : Nat) : Int)] 3, .blk q #[.pointer (some ⟨t, 0, none⟩)] 56, .blk t #[sv, .int .i64 ((room : Nat) : Int), .func (.func 26) #[] #[]] 90, .row (sv) 92 2 (List.length (seven ks)) (List.flatMap pairLI (seven ks)), .blk g2 #[.slice none 0 0] 55, .row (.slice none 0 0) 3 1 (List.length ks) (List.map (Value.int .i64) ks), .blk g1 #[.bool false] 4]) (fun cd pre (c : Nat) => (cd = .ret ∧ (¬ (pre <+: seven ks)))) (fun x b => []) (fun x b => { tmps := #[.int .i64 ((room : Nat) : Int), .slice ad nA cA, undef, undef, .pointer (some ⟨g1, 0, none⟩), .pointer (some ⟨t, 0, none⟩), .int .i64 0, .pointer (some ⟨g2, 0, none⟩), undef, (uf1 0), (uf1 1), (uf1 2), (uf1 3), (uf1 4), .pointer (some ⟨g3, 0, none⟩), .int .i64 x.1, .bool true, .bool false, .tuple #[.pointer (some ⟨t, 0, none⟩), .int .i64 0], .int .i64 ((room : Nat) : Int), .tuple #[.pointer (some ⟨t, 0, none⟩), .int .i64 0], .pointer (some ⟨t, 0, none⟩), .int .i64 0, .int .i64 0, .bool false, .bool false, .pointer (some ⟨t, 0, none⟩), .bool false, .bool false, .bool false, .slice ad nA cA, .int .i64 ((nA : Nat) : Int), .bool false, .bool false, undef, undef, undef, undef, undef, undef, undef, .slice ad nA cA, .int .i64 ((nA : Nat) : Int), .int .i64 ((k : Nat) : Int), .bool false, (uf1 6), (uf1 7), (uf1 8), (uf1 9), (uf1 10), (uf1 11), (uf1 12), (uf1 13), (uf1 14), (uf1 15), (uf1 16), (uf1 17), (uf1 18), (uf1 19), (uf1 20), (uf1 21), (uf1 22), (uf1 23), (uf1 24), (uf1 25), (uf1 26), (uf1 27), (uf1 28), (uf1 29), (uf1 30), (uf1 31), (uf1 32), (uf1 33), (uf1 34), (uf1 35), (uf1 36), (uf1 37), (uf1 38), (uf1 39), (uf1 40), (uf1 41), (uf1 42), (uf1 43), (uf1 44), (uf1 45), (uf1 46), (uf1 47), (uf1 48), (uf1 49), (uf1 50), (uf1 51), (uf1 52), (uf1 53), (uf1 54), (uf1 55), (uf1 56), .pointer (some ⟨t, 0, none⟩), .func (.func 43) #[] #[.pointer (some ⟨q, 0, none⟩)], .int .i64 x.1, .int .i64 x.2, undef, undef, undef, undef, undef, undef, undef, undef, undef, undef, undef, undef, undef, undef, undef, undef, undef, undef], defers := [] }) 0 (by kernel_rfl) (enters_of Try.func43 (by kernel_rfl) rfl) (tvals_of (by rw [seven_len]; omega) _ (H.roOf [1, 2, 3] _ (by kernel_rfl))) (fun _ => rfl) rfl (by rintro _ c; rfl) (by rintro _ c; rfl) (by rintro _ c; rfl) (fun _ _ => rfl) (fun _ _ => rfl) H rfl ?_ ?_ ?_ ?_
        · skip
          clear H
          rintro lrnd pre x c W1 hI H
          refine x_at (b := { tmps := #[.int .i64 ((room : Nat) : Int), .slice ad nA cA, undef, undef, .pointer (some ⟨g1, 0, none⟩), .pointer (some ⟨t, 0, none⟩), .int .i64 0, .pointer (some ⟨g2, 0, none⟩), undef, (uf1 0), (uf1 1), (uf1 2), (uf1 3), (uf1 4), .pointer (some ⟨g3, 0, none⟩), undef, .bool true, .bool false, .tuple #[.pointer (some ⟨t, 0, none⟩), .int .i64 0], .int .i64 ((room : Nat) : Int), .tuple #[.pointer (some ⟨t, 0, none⟩), .int .i64 0], .pointer (some ⟨t, 0, none⟩), .int .i64 0, .int .i64 0, .bool false, .bool false, .pointer (some ⟨t, 0, none⟩), .bool false, .bool false, .bool false, .slice ad nA cA, .int .i64 ((nA : Nat) : Int), .bool false, .bool false, undef, undef, undef, undef, undef, undef, undef, .slice ad nA cA, .int .i64 ((nA : Nat) : Int), .int .i64 ((k : Nat) : Int), .bool false, (uf1 6), (uf1 7), (uf1 8), (uf1 9), (uf1 10), (uf1 11), (uf1 12), (uf1 13), (uf1 14), (uf1 15), (uf1 16), (uf1 17), (uf1 18), (uf1 19), (uf1 20), (uf1 21), (uf1 22), (uf1 23), (uf1 24), (uf1 25), (uf1 26), (uf1 27), (uf1 28), (uf1 29), (uf1 30), (uf1 31), (uf1 32), (uf1 33), (uf1 34), (uf1 35), (uf1 36), (uf1 37), (uf1 38), (uf1 39), (uf1 40), (uf1 41), (uf1 42), (uf1 43), (uf1 44), (uf1 45), (uf1 46), (uf1 47), (uf1 48), (uf1 49), (uf1 50), (uf1 51), (uf1 52), (uf1 53), (uf1 54), (uf1 55), (uf1 56), .pointer (some ⟨t, 0, none⟩), .func (.func 43) #[] #[.pointer (some ⟨q, 0, none⟩)], .int .i64 x.1, .int .i64 x.2, undef, undef, undef, undef, undef, undef, undef, undef, undef, undef, undef, undef, undef, undef, undef, undef, undef, undef], defers := [] }) (by kernel_rfl) ?_
          refine x_region ?_
          refine x_val (.int .i64 x.1) (by kernel_rfl) rfl (by kernel_rfl) ?_
          refine x_nil ?_
          refine x_then ?_
          exact ⟨0, (by kernel_rfl), H⟩
        · skip
          clear H
          rintro lrnd pre x c b W1 hI hlen H
          replace H : Hs (fps [] ++ (fps [.blk g3 #[.int .i64 ((0 : Nat) : Int)] 3, .blk q #[.pointer (some ⟨t, 0, none⟩)] 56, .blk t #[sv, .int .i64 ((room : Nat) : Int), .func (.func 26) #[] #[]] 90, .row (sv) 92 2 (List.length (seven ks)) (List.flatMap pairLI (seven ks)), .blk g2 #[.slice none 0 0] 55, .row (.slice none 0 0) 3 1 (List.length ks) (List.map (Value.int .i64) ks), .blk g1 #[.bool false] 4])) W1 W1 [.blk g3 #[.int .i64 ((c : Nat) : Int)] 3, .blk q #[.pointer (some ⟨t, 0, none⟩)] 56, .blk t #[sv, .int .i64 ((room : Nat) : Int), .func (.func 26) #[] #[]] 90, .row (sv) 92 2 (List.length (seven ks)) (List.flatMap pairLI (seven ks)), .blk g2 #[.slice none 0 0] 55, .row (.slice none 0 0) 3 1 (List.length ks) (List.map (Value.int .i64) ks), .blk g1 #[.bool false] 4] := H
          have hI' : c = List.length pre := hI
          rw [seven_len] at hlen
          refine x_block ?_
          refine x_seq ?_
          refine x_seq ?_
          refine x_region ?_
          refine x_load1 H 0 g3 0 #[.int .i64 ((c : Nat) : Int)] 3 (.int .i64 ((c : Nat) : Int)) (by kernel_rfl) (by kernel_rfl) (by kernel_rfl) rfl (by kernel_rfl) ?_
          refine x_load1 H 4 g2 0 #[.slice none 0 0] 55 (.slice none 0 0) (by kernel_rfl) (by kernel_rfl) (by kernel_rfl) rfl (by kernel_rfl) ?_
          refine x_val (.int .i64 0) (by kernel_rfl) rfl (by kernel_rfl) ?_
          refine x_val (.bool (decide (0 ≤ ((c : Nat) : Int)))) (by kernel_rfl) rfl (by kernel_rfl) ?_
          refine x_val (.bool (decide (0 ≤ ((c : Nat) : Int)))) (by kernel_rfl) rfl (by kernel_rfl) ?_
          cases h3 : decide (0 ≤ ((c : Nat) : Int))
          · skip
            have h3p := of_decide_eq_false h3
            exact absurd h3p (by omega)
          · skip
            have h3p := of_decide_eq_true h3
            refine x_skip (by kernel_rfl) ?_
            refine x_skip (by kernel_rfl) ?_
            refine x_skip (by kernel_rfl) ?_
            refine x_skip (by kernel_rfl) ?_
            refine x_skip (by kernel_rfl) ?_
            refine x_skip (by kernel_rfl) ?_
            refine x_val (.bool true) (by kernel_rfl) rfl (by kernel_rfl) ?_
            refine x_nil ?_
            refine x_then ?_
            refine x_t (by kernel_rfl) ?_
            refine x_seq ?_
            refine x_region ?_
            refine x_store (t := 4) (v := .bool false) H 6 g1 0 #[.bool false] #[.bool false] 4 [.bool false] [.blk g3 #[.int .i64 ((c : Nat) : Int)] 3, .blk q #[.pointer (some ⟨t, 0, none⟩)] 56, .blk t #[sv, .int .i64 ((room : Nat) : Int), .func (.func 26) #[] #[]] 90, .row (sv) 92 2 (List.length (seven ks)) (List.flatMap pairLI (seven ks)), .blk g2 #[.slice none 0 0] 55, .row (.slice none 0 0) 3 1 (List.length ks) (List.map (Value.int .i64) ks), .blk g1 #[.bool false] 4] (by kernel_rfl) rfl (by kernel_rfl) (by kernel_rfl) (by kernel_rfl) (by kernel_rfl) (by kernel_rfl) (by kernel_rfl) (by kernel_rfl) (by kernel_rfl) ?_
            clear H
            intro v9 H
            refine x_nil ?_
            refine x_then ?_
            refine x_retc ?_
            refine x_then_ret ?_
            refine x_blk_ret ?_
            replace H := H.pick [0, 1, 2, 3, 4, 5, 6] [.blk g3 #[.int .i64 ((c : Nat) : Int)] 3, .blk q #[.pointer (some ⟨t, 0, none⟩)] 56, .blk t #[sv, .int .i64 ((room : Nat) : Int), .func (.func 26) #[] #[]] 90, .row (sv) 92 2 (List.length (seven ks)) (List.flatMap pairLI (seven ks)), .blk g2 #[.slice none 0 0] 55, .row (.slice none 0 0) 3 1 (List.length ks) (List.map (Value.int .i64) ks), .blk g1 #[.bool false] 4] (by decide) (by kernel_rfl)
            exact ⟨c, ⟨rfl, (fun hp => by have q := prefix_getP hp; rw [seven_len] at q; omega)⟩, H⟩
        · skip
          clear H
          rintro D c W1 hI H
          have hI2 : c = List.length (seven ks) := hI
          rw [seven_len] at hI2
          refine x_blk ?_
          refine x_then ?_
          refine x_seq ?_
          refine x_region ?_
          refine x_load1 H 1 g3 0 #[.int .i64 ((c : Nat) : Int)] 3 (.int .i64 ((c : Nat) : Int)) (by kernel_rfl) (by kernel_rfl) (by kernel_rfl) rfl (by kernel_rfl) ?_
          refine x_load1 H 5 g2 0 #[.slice none 0 0] 55 (.slice none 0 0) (by kernel_rfl) (by kernel_rfl) (by kernel_rfl) rfl (by kernel_rfl) ?_
          refine x_val (.int .i64 0) (by kernel_rfl) rfl (by kernel_rfl) ?_
          refine x_val (.bool (decide (((c : Nat) : Int) = 0))) (by kernel_rfl) rfl (by kernel_rfl) ?_
          refine x_store (t := 4) (v := .bool (decide (((c : Nat) : Int) = 0))) H 7 g1 0 #[.bool false] #[.bool (decide (((c : Nat) : Int) = 0))] 4 [.bool (decide (((c : Nat) : Int) = 0))] [.obj D ((.deferred (some []))), .blk g3 #[.int .i64 ((c : Nat) : Int)] 3, .blk q #[.pointer (some ⟨t, 0, none⟩)] 56, .blk t #[sv, .int .i64 ((room : Nat) : Int), .func (.func 26) #[] #[]] 90, .row (sv) 92 2 (List.length (seven ks)) (List.flatMap pairLI (seven ks)), .blk g2 #[.slice none 0 0] 55, .row (.slice none 0 0) 3 1 (List.length ks) (List.map (Value.int .i64) ks), .blk g1 #[.bool (decide (((c : Nat) : Int) = 0))] 4] (by kernel_rfl) rfl (by kernel_rfl) (by kernel_rfl) (by kernel_rfl) (by kernel_rfl) (by kernel_rfl) (by kernel_rfl) (by kernel_rfl) (by kernel_rfl) ?_
          clear H
          intro v10 H
          refine x_nil ?_
          refine x_then ?_
          refine x_retc ?_
          refine x_retM1 [0, 1, 2, 3, 4, 5, 6, 7] [.blk g3 #[.int .i64 ((c : Nat) : Int)] 3, .blk q #[.pointer (some ⟨t, 0, none⟩)] 56, .blk t #[sv, .int .i64 ((room : Nat) : Int), .func (.func 26) #[] #[]] 90, .row (sv) 92 2 (List.length (seven ks)) (List.flatMap pairLI (seven ks)), .blk g2 #[.slice none 0 0] 55, .row (.slice none 0 0) 3 1 (List.length ks) (List.map (Value.int .i64) ks), .blk g1 #[.bool (decide (((c : Nat) : Int) = 0))] 4] (.bool (decide (((c : Nat) : Int) = 0))) H (by kernel_rfl) rfl (by decide) (fun _ H => (x_rescell1 H 6 g1 0 #[.bool (decide (((c : Nat) : Int) = 0))] 4 (.bool (decide (((c : Nat) : Int) = 0))) (fun x => x) (by kernel_rfl) (by kernel_rfl) (by kernel_rfl))) ?_
          clear H
          intro v11 H
          exact ⟨by rw [show (decide (((c : Nat) : Int) = 0)) = true from decide_eq_true (by omega)], H.below⟩
        · skip
          clear H
          rintro D c pre c W1 hpre hJ H
          rcases hJ with ⟨rfl, hJ⟩
          · skip
            exact absurd hpre hJ
      · skip
        replace H := H.pick [1, 0, 2, 3, 4, 5, 6] [.blk g3 #[.int .i64 0] 3, .blk q #[.pointer (some ⟨t, 0, none⟩)] 56, .blk t #[sv, .int .i64 ((room : Nat) : Int), .func (.func 26) #[] #[]] 90, .row (sv) 92 2 (List.length (seven ks)) (List.flatMap pairLI (seven ks)), .blk g2 #[.slice (some ⟨gw, 0, none⟩) (List.length ks) cw] 55, .row (.slice (some ⟨gw, 0, none⟩) (List.length ks) cw) 3 1 (List.length ks) (List.map (Value.int .i64) ks), .blk g1 #[.bool false] 4] (by decide) (by kernel_rfl)
        replace H : Hs [] w0 _ [.blk g3 #[.int .i64 ((0 : Nat) : Int)] 3, .blk q #[.pointer (some ⟨t, 0, none⟩)] 56, .blk t #[sv, .int .i64 ((room : Nat) : Int), .func (.func 26) #[] #[]] 90, .row (sv) 92 2 (List.length (seven ks)) (List.flatMap pairLI (seven ks)), .blk g2 #[.slice (some ⟨gw, 0, none⟩) (List.length ks) cw] 55, .row (.slice (some ⟨gw, 0, none⟩) (List.length ks) cw) 3 1 (List.length ks) (List.map (Value.int .i64) ks), .blk g1 #[.bool false] 4] := H
        refine x_rangeB (α := PairI) (G := Nat) (seven ks) (fun x => #[.int .i64 x.1, .int .i64 x.2]) [.blk q #[.pointer (some ⟨t, 0, none⟩)] 56, .blk t #[sv, .int .i64 ((room : Nat) : Int), .func (.func 26) #[] #[]] 90, .row (sv) 92 2 (List.length (seven ks)) (List.flatMap pairLI (seven ks))] [1, 2, 3] (fps [.blk g3 #[.int .i64 ((0 : Nat) : Int)] 3, .blk q #[.pointer (some ⟨t, 0, none⟩)] 56, .blk t #[sv, .int .i64 ((room : Nat) : Int), .func (.func 26) #[] #[]] 90, .row (sv) 92 2 (List.length (seven ks)) (List.flatMap pairLI (seven ks)), .blk g2 #[.slice (some ⟨gw, 0, none⟩) (List.length ks) cw] 55, .row (.slice (some ⟨gw, 0, none⟩) (List.length ks) cw) 3 1 (List.length ks) (List.map (Value.int .i64) ks), .blk g1 #[.bool false] 4]) (fun pre (c : Nat) => c = List.length pre) (fun pre (c : Nat) => [.blk g3 #[.int .i64 ((c : Nat) : Int)] 3, .blk q #[.pointer (some ⟨t, 0, none⟩)] 56, .blk t #[sv, .int .i64 ((room : Nat) : Int), .func (.func 26) #[] #[]] 90, .row (sv) 92 2 (List.length (seven ks)) (List.flatMap pairLI (seven ks)), .blk g2 #[.slice (some ⟨gw, 0, none⟩) (List.length ks) cw] 55, .row (.slice (some ⟨gw, 0, none⟩) (List.length ks) cw) 3 1 (List.length ks) (List.map (Value.int .i64) ks), .blk g1 #[.bool false] 4]) (fun cd pre (c : Nat) => (cd = .ret ∧ (¬ (pre <+: seven ks)))) (fun x b => []) (fun x b => { tmps := #[.int .i64 ((room : Nat) : Int), .slice ad nA cA, undef, undef, .pointer (some ⟨g1, 0, none⟩), .pointer (some ⟨t, 0, none⟩), .int .i64 0, .pointer (some ⟨g2, 0, none⟩), undef, (uf1 0), (uf1 1), (uf1 2), (uf1 3), (uf1 4), .pointer (some ⟨g3, 0, none⟩), .int .i64 x.1, .bool true, .bool false, .tuple #[.pointer (some ⟨t, 0, none⟩), .int .i64 0], .int .i64 ((room : Nat) : Int), .tuple #[.pointer (some ⟨t, 0, none⟩), .int .i64 0], .pointer (some ⟨t, 0, none⟩), .int .i64 0, .int .i64 0, .bool false, .bool false, .pointer (some ⟨t, 0, none⟩), .bool false, .bool false, .bool false, .slice ad nA cA, .int .i64 ((nA : Nat) : Int), .bool false, .bool false, undef, undef, undef, undef, undef, undef, undef, .slice ad nA cA, .int .i64 ((nA : Nat) : Int), .int .i64 ((k : Nat) : Int), .bool false, (uf1 6), (uf1 7), (uf1 8), (uf1 9), (uf1 10), (uf1 11), (uf1 12), (uf1 13), (uf1 14), (uf1 15), (uf1 16), (uf1 17), (uf1 18), (uf1 19), (uf1 20), (uf1 21), (uf1 22), (uf1 23), (uf1 24), (uf1 25), (uf1 26), (uf1 27), (uf1 28), (uf1 29), (uf1 30), (uf1 31), (uf1 32), (uf1 33), (uf1 34), (uf1 35), (uf1 36), (uf1 37), (uf1 38), (uf1 39), (uf1 40), (uf1 41), (uf1 42), (uf1 43), (uf1 44), (uf1 45), (uf1 46), (uf1 47), (uf1 48), (uf1 49), (uf1 50), (uf1 51), (uf1 52), (uf1 53), (uf1 54), (uf1 55), (uf1 56), .pointer (some ⟨t, 0, none⟩), .func (.func 43) #[] #[.pointer (some ⟨q, 0, none⟩)], .int .i64 x.1, .int .i64 x.2, undef, undef, undef, undef, undef, undef, undef, undef, undef, undef, undef, undef, undef, undef, undef, undef, undef, undef], defers := [] }) 0 (by kernel_rfl) (enters_of Try.func43 (by kernel_rfl) rfl) (tvals_of (by rw [seven_len]; omega) _ (H.roOf [1, 2, 3] _ (by kernel_rfl))) (fun _ => rfl) rfl (by rintro _ c; rfl) (by rintro _ c; rfl) (by rintro _ c; rfl) (fun _ _ => rfl) (fun _ _ => rfl) H rfl ?_ ?_ ?_ ?_
        · skip
          clear H
          rintro lrnd pre x c W2 hI H
          refine x_at (b := { tmps := #[.int .i64 ((room : Nat) : Int), .slice ad nA cA, undef, undef, .pointer (some ⟨g1, 0, none⟩), .pointer (some ⟨t, 0, none⟩), .int .i64 0, .pointer (some ⟨g2, 0, none⟩), undef, (uf1 0), (uf1 1), (uf1 2), (uf1 3), (uf1 4), .pointer (some ⟨g3, 0, none⟩), undef, .bool true, .bool false, .tuple #[.pointer (some ⟨t, 0, none⟩), .int .i64 0], .int .i64 ((room : Nat) : Int), .tuple #[.pointer (some ⟨t, 0, none⟩), .int .i64 0], .pointer (some ⟨t, 0, none⟩), .int .i64 0, .int .i64 0, .bool false, .bool false, .pointer (some ⟨t, 0, none⟩), .bool false, .bool false, .bool false, .slice ad nA cA, .int .i64 ((nA : Nat) : Int), .bool false, .bool false, undef, undef, undef, undef, undef, undef, undef, .slice ad nA cA, .int .i64 ((nA : Nat) : Int), .int .i64 ((k : Nat) : Int), .bool false, (uf1 6), (uf1 7), (uf1 8), (uf1 9), (uf1 10), (uf1 11), (uf1 12), (uf1 13), (uf1 14), (uf1 15), (uf1 16), (uf1 17), (uf1 18), (uf1 19), (uf1 20), (uf1 21), (uf1 22), (uf1 23), (uf1 24), (uf1 25), (uf1 26), (uf1 27), (uf1 28), (uf1 29), (uf1 30), (uf1 31), (uf1 32), (uf1 33), (uf1 34), (uf1 35), (uf1 36), (uf1 37), (uf1 38), (uf1 39), (uf1 40), (uf1 41), (uf1 42), (uf1 43), (uf1 44), (uf1 45), (uf1 46), (uf1 47), (uf1 48), (uf1 49), (uf1 50), (uf1 51), (uf1 52), (uf1 53), (uf1 54), (uf1 55), (uf1 56), .pointer (some ⟨t, 0, none⟩), .func (.func 43) #[] #[.pointer (some ⟨q, 0, none⟩)], .int .i64 x.1, .int .i64 x.2, undef, undef, undef, undef, undef, undef, undef, undef, undef, undef, undef, undef, undef, undef, undef, undef, undef, undef], defers := [] }) (by kernel_rfl) ?_
          refine x_region ?_
          refine x_val (.int .i64 x.1) (by kernel_rfl) rfl (by kernel_rfl) ?_
          refine x_nil ?_
          refine x_then ?_
          exact ⟨0, (by kernel_rfl), H⟩
        · skip
          clear H
          rintro lrnd pre x c b W2 hI hlen H
          replace H : Hs (fps [] ++ (fps [.blk g3 #[.int .i64 ((0 : Nat) : Int)] 3, .blk q #[.pointer (some ⟨t, 0, none⟩)] 56, .blk t #[sv, .int .i64 ((room : Nat) : Int), .func (.func 26) #[] #[]] 90, .row (sv) 92 2 (List.length (seven ks)) (List.flatMap pairLI (seven ks)), .blk g2 #[.slice (some ⟨gw, 0, none⟩) (List.length ks) cw] 55, .row (.slice (some ⟨gw, 0, none⟩) (List.length ks) cw) 3 1 (List.length ks) (List.map (Value.int .i64) ks), .blk g1 #[.bool false] 4])) W2 W2 [.blk g3 #[.int .i64 ((c : Nat) : Int)] 3, .blk q #[.pointer (some ⟨t, 0, none⟩)] 56, .blk t #[sv, .int .i64 ((room : Nat) : Int), .func (.func 26) #[] #[]] 90, .row (sv) 92 2 (List.length (seven ks)) (List.flatMap pairLI (seven ks)), .blk g2 #[.slice (some ⟨gw, 0, none⟩) (List.length ks) cw] 55, .row (.slice (some ⟨gw, 0, none⟩) (List.length ks) cw) 3 1 (List.length ks) (List.map (Value.int .i64) ks), .blk g1 #[.bool false] 4] := H
          have hI' : c = List.length pre := hI
          rw [seven_len] at hlen
          refine x_block ?_
          refine x_seq ?_
          refine x_seq ?_
          refine x_region ?_
          refine x_load1 H 0 g3 0 #[.int .i64 ((c : Nat) : Int)] 3 (.int .i64 ((c : Nat) : Int)) (by kernel_rfl) (by kernel_rfl) (by kernel_rfl) rfl (by kernel_rfl) ?_
          refine x_load1 H 4 g2 0 #[.slice (some ⟨gw, 0, none⟩) (List.length ks) cw] 55 (.slice (some ⟨gw, 0, none⟩) (List.length ks) cw) (by kernel_rfl) (by kernel_rfl) (by kernel_rfl) rfl (by kernel_rfl) ?_
          refine x_val (.int .i64 (((List.length ks) : Nat) : Int)) (by kernel_rfl) rfl (by kernel_rfl) ?_
          refine x_val (.bool (decide ((((List.length ks) : Nat) : Int) ≤ ((c : Nat) : Int)))) (by kernel_rfl) rfl (by kernel_rfl) ?_
          refine x_val (.bool (decide ((((List.length ks) : Nat) : Int) ≤ ((c : Nat) : Int)))) (by kernel_rfl) rfl (by kernel_rfl) ?_
          cases h4 : decide ((((List.length ks) : Nat) : Int) ≤ ((c : Nat) : Int))
          · skip
            have h4p := of_decide_eq_false h4
            refine x_load1 H 4 g2 0 #[.slice (some ⟨gw, 0, none⟩) (List.length ks) cw] 55 (.slice (some ⟨gw, 0, none⟩) (List.length ks) cw) (by kernel_rfl) (by kernel_rfl) (by kernel_rfl) rfl (by kernel_rfl) ?_
            refine x_load1 H 0 g3 0 #[.int .i64 ((c : Nat) : Int)] 3 (.int .i64 ((c : Nat) : Int)) (by kernel_rfl) (by kernel_rfl) (by kernel_rfl) rfl (by kernel_rfl) ?_
            refine x_ix (t := 55) gw 0 c (List.length ks) cw 3 1 c (by omega) (by omega) (by kernel_rfl) (by kernel_rfl) (by kernel_rfl) rfl (by kernel_rfl) ?_
            refine x_loadc gw c (.int .i64 (ks.getD c 0)) (H.rowCell 5 rfl c (mapAt 0 (by omega))) (by kernel_rfl) rfl (by kernel_rfl) ?_
            refine x_val (.int .i64 x.1) (by kernel_rfl) rfl (by kernel_rfl) ?_
            refine x_val (.bool (!(decide ((ks.getD c 0) = x.1)))) (by kernel_rfl) rfl (by kernel_rfl) ?_
            refine x_val (.bool (!(decide ((ks.getD c 0) = x.1)))) (by kernel_rfl) rfl (by kernel_rfl) ?_
            refine x_nil ?_
            refine x_then ?_
            cases h5 : decide ((ks.getD c 0) = x.1)
            · skip
              have h5p := of_decide_eq_false h5
              refine x_t (by kernel_rfl) ?_
              refine x_seq ?_
              refine x_region ?_
              refine x_store (t := 4) (v := .bool false) H 6 g1 0 #[.bool false] #[.bool false] 4 [.bool false] [.blk g3 #[.int .i64 ((c : Nat) : Int)] 3, .blk q #[.pointer (some ⟨t, 0, none⟩)] 56, .blk t #[sv, .int .i64 ((room : Nat) : Int), .func (.func 26) #[] #[]] 90, .row (sv) 92 2 (List.length (seven ks)) (List.flatMap pairLI (seven ks)), .blk g2 #[.slice (some ⟨gw, 0, none⟩) (List.length ks) cw] 55, .row (.slice (some ⟨gw, 0, none⟩) (List.length ks) cw) 3 1 (List.length ks) (List.map (Value.int .i64) ks), .blk g1 #[.bool false] 4] (by kernel_rfl) rfl (by kernel_rfl) (by kernel_rfl) (by kernel_rfl) (by kernel_rfl) (by kernel_rfl) (by kernel_rfl) (by kernel_rfl) (by kernel_rfl) ?_
              clear H
              intro v12 H
              refine x_nil ?_
              refine x_then ?_
              refine x_retc ?_
              refine x_then_ret ?_
              refine x_blk_ret ?_
              replace H := H.pick [0, 1, 2, 3, 4, 5, 6] [.blk g3 #[.int .i64 ((c : Nat) : Int)] 3, .blk q #[.pointer (some ⟨t, 0, none⟩)] 56, .blk t #[sv, .int .i64 ((room : Nat) : Int), .func (.func 26) #[] #[]] 90, .row (sv) 92 2 (List.length (seven ks)) (List.flatMap pairLI (seven ks)), .blk g2 #[.slice (some ⟨gw, 0, none⟩) (List.length ks) cw] 55, .row (.slice (some ⟨gw, 0, none⟩) (List.length ks) cw) 3 1 (List.length ks) (List.map (Value.int .i64) ks), .blk g1 #[.bool false] 4] (by decide) (by kernel_rfl)
              exact ⟨c, ⟨rfl, (fun hp => by have q := prefix_getP hp; rw [← hI', seven_get ks c (by omega)] at q; exact absurd (congrArg Prod.fst q.1) (of_decide_eq_false h5))⟩, H⟩
            · skip
              have h5p := of_decide_eq_true h5
              refine x_f (by kernel_rfl) ?_
              refine x_skipc ?_
              refine x_then ?_
              refine x_region ?_
              refine x_load1 H 0 g3 0 #[.int .i64 ((c : Nat) : Int)] 3 (.int .i64 ((c : Nat) : Int)) (by kernel_rfl) (by kernel_rfl) (by kernel_rfl) rfl (by kernel_rfl) ?_
              refine x_ar (((c : Nat) : Int) + 1) ⟨by omega, by omega⟩ (by kernel_rfl) rfl (by kernel_rfl) ?_
              refine x_store (t := 3) (v := .int .i64 (((c : Nat) : Int) + 1)) H 0 g3 0 #[.int .i64 ((c : Nat) : Int)] #[.int .i64 (((c : Nat) : Int) + 1)] 3 [.int .i64 (((c : Nat) : Int) + 1)] [.blk g3 #[.int .i64 (((c : Nat) : Int) + 1)] 3, .blk q #[.pointer (some ⟨t, 0, none⟩)] 56, .blk t #[sv, .int .i64 ((room : Nat) : Int), .func (.func 26) #[] #[]] 90, .row (sv) 92 2 (List.length (seven ks)) (List.flatMap pairLI (seven ks)), .blk g2 #[.slice (some ⟨gw, 0, none⟩) (List.length ks) cw] 55, .row (.slice (some ⟨gw, 0, none⟩) (List.length ks) cw) 3 1 (List.length ks) (List.map (Value.int .i64) ks), .blk g1 #[.bool false] 4] (by kernel_rfl) rfl (by kernel_rfl) (by kernel_rfl) (by kernel_rfl) (by kernel_rfl) (by kernel_rfl) (by kernel_rfl) (by kernel_rfl) (by kernel_rfl) ?_
              clear H
              intro v13 H
              refine x_nil ?_
              refine x_blk ?_
              replace H := H.pick [0, 1, 2, 3, 4, 5, 6] [.blk g3 #[.int .i64 (((c : Nat) : Int) + 1)] 3, .blk q #[.pointer (some ⟨t, 0, none⟩)] 56, .blk t #[sv, .int .i64 ((room : Nat) : Int), .func (.func 26) #[] #[]] 90, .row (sv) 92 2 (List.length (seven ks)) (List.flatMap pairLI (seven ks)), .blk g2 #[.slice (some ⟨gw, 0, none⟩) (List.length ks) cw] 55, .row (.slice (some ⟨gw, 0, none⟩) (List.length ks) cw) 3 1 (List.length ks) (List.map (Value.int .i64) ks), .blk g1 #[.bool false] 4] (by decide) (by kernel_rfl)
              exact ⟨(c + 1), (by show _ = List.length (pre ++ [x]); simp; exact hI), H⟩
          · skip
            have h4p := of_decide_eq_true h4
            refine x_skip (by kernel_rfl) ?_
            refine x_skip (by kernel_rfl) ?_
            refine x_skip (by kernel_rfl) ?_
            refine x_skip (by kernel_rfl) ?_
            refine x_skip (by kernel_rfl) ?_
            refine x_skip (by kernel_rfl) ?_
            refine x_val (.bool true) (by kernel_rfl) rfl (by kernel_rfl) ?_
            refine x_nil ?_
            refine x_then ?_
            refine x_t (by kernel_rfl) ?_
            refine x_seq ?_
            refine x_region ?_
            refine x_store (t := 4) (v := .bool false) H 6 g1 0 #[.bool false] #[.bool false] 4 [.bool false] [.blk g3 #[.int .i64 ((c : Nat) : Int)] 3, .blk q #[.pointer (some ⟨t, 0, none⟩)] 56, .blk t #[sv, .int .i64 ((room : Nat) : Int), .func (.func 26) #[] #[]] 90, .row (sv) 92 2 (List.length (seven ks)) (List.flatMap pairLI (seven ks)), .blk g2 #[.slice (some ⟨gw, 0, none⟩) (List.length ks) cw] 55, .row (.slice (some ⟨gw, 0, none⟩) (List.length ks) cw) 3 1 (List.length ks) (List.map (Value.int .i64) ks), .blk g1 #[.bool false] 4] (by kernel_rfl) rfl (by kernel_rfl) (by kernel_rfl) (by kernel_rfl) (by kernel_rfl) (by kernel_rfl) (by kernel_rfl) (by kernel_rfl) (by kernel_rfl) ?_
            clear H
            intro v14 H
            refine x_nil ?_
            refine x_then ?_
            refine x_retc ?_
            refine x_then_ret ?_
            refine x_blk_ret ?_
            replace H := H.pick [0, 1, 2, 3, 4, 5, 6] [.blk g3 #[.int .i64 ((c : Nat) : Int)] 3, .blk q #[.pointer (some ⟨t, 0, none⟩)] 56, .blk t #[sv, .int .i64 ((room : Nat) : Int), .func (.func 26) #[] #[]] 90, .row (sv) 92 2 (List.length (seven ks)) (List.flatMap pairLI (seven ks)), .blk g2 #[.slice (some ⟨gw, 0, none⟩) (List.length ks) cw] 55, .row (.slice (some ⟨gw, 0, none⟩) (List.length ks) cw) 3 1 (List.length ks) (List.map (Value.int .i64) ks), .blk g1 #[.bool false] 4] (by decide) (by kernel_rfl)
            exact ⟨c, ⟨rfl, (fun hp => by have q := prefix_getP hp; rw [seven_len] at q; omega)⟩, H⟩
        · skip
          clear H
          rintro D c W2 hI H
          have hI2 : c = List.length (seven ks) := hI
          rw [seven_len] at hI2
          refine x_blk ?_
          refine x_then ?_
          refine x_seq ?_
          refine x_region ?_
          refine x_load1 H 1 g3 0 #[.int .i64 ((c : Nat) : Int)] 3 (.int .i64 ((c : Nat) : Int)) (by kernel_rfl) (by kernel_rfl) (by kernel_rfl) rfl (by kernel_rfl) ?_
          refine x_load1 H 5 g2 0 #[.slice (some ⟨gw, 0, none⟩) (List.length ks) cw] 55 (.slice (some ⟨gw, 0, none⟩) (List.length ks) cw) (by kernel_rfl) (by kernel_rfl) (by kernel_rfl) rfl (by kernel_rfl) ?_
          refine x_val (.int .i64 (((List.length ks) : Nat) : Int)) (by kernel_rfl) rfl (by kernel_rfl) ?_
          refine x_val (.bool (decide (((c : Nat) : Int) = (((List.length ks) : Nat) : Int)))) (by kernel_rfl) rfl (by kernel_rfl) ?_
          refine x_store (t := 4) (v := .bool (decide (((c : Nat) : Int) = (((List.length ks) : Nat) : Int)))) H 7 g1 0 #[.bool false] #[.bool (decide (((c : Nat) : Int) = (((List.length ks) : Nat) : Int)))] 4 [.bool (decide (((c : Nat) : Int) = (((List.length ks) : Nat) : Int)))] [.obj D ((.deferred (some []))), .blk g3 #[.int .i64 ((c : Nat) : Int)] 3, .blk q #[.pointer (some ⟨t, 0, none⟩)] 56, .blk t #[sv, .int .i64 ((room : Nat) : Int), .func (.func 26) #[] #[]] 90, .row (sv) 92 2 (List.length (seven ks)) (List.flatMap pairLI (seven ks)), .blk g2 #[.slice (some ⟨gw, 0, none⟩) (List.length ks) cw] 55, .row (.slice (some ⟨gw, 0, none⟩) (List.length ks) cw) 3 1 (List.length ks) (List.map (Value.int .i64) ks), .blk g1 #[.bool (decide (((c : Nat) : Int) = (((List.length ks) : Nat) : Int)))] 4] (by kernel_rfl) rfl (by kernel_rfl) (by kernel_rfl) (by kernel_rfl) (by kernel_rfl) (by kernel_rfl) (by kernel_rfl) (by kernel_rfl) (by kernel_rfl) ?_
          clear H
          intro v15 H
          refine x_nil ?_
          refine x_then ?_
          refine x_retc ?_
          refine x_retM1 [0, 1, 2, 3, 4, 5, 6, 7] [.blk g3 #[.int .i64 ((c : Nat) : Int)] 3, .blk q #[.pointer (some ⟨t, 0, none⟩)] 56, .blk t #[sv, .int .i64 ((room : Nat) : Int), .func (.func 26) #[] #[]] 90, .row (sv) 92 2 (List.length (seven ks)) (List.flatMap pairLI (seven ks)), .blk g2 #[.slice (some ⟨gw, 0, none⟩) (List.length ks) cw] 55, .row (.slice (some ⟨gw, 0, none⟩) (List.length ks) cw) 3 1 (List.length ks) (List.map (Value.int .i64) ks), .blk g1 #[.bool (decide (((c : Nat) : Int) = (((List.length ks) : Nat) : Int)))] 4] (.bool (decide (((c : Nat) : Int) = (((List.length ks) : Nat) : Int)))) H (by kernel_rfl) rfl (by decide) (fun _ H => (x_rescell1 H 6 g1 0 #[.bool (decide (((c : Nat) : Int) = (((List.length ks) : Nat) : Int)))] 4 (.bool (decide (((c : Nat) : Int) = (((List.length ks) : Nat) : Int)))) (fun x => x) (by kernel_rfl) (by kernel_rfl) (by kernel_rfl))) ?_
          clear H
          intro v16 H
          exact ⟨by rw [show (decide (((c : Nat) : Int) = (((List.length ks) : Nat) : Int))) = true from decide_eq_true (by omega)], H.below⟩
        · skip
          clear H
          rintro D c pre c W2 hpre hJ H
          rcases hJ with ⟨rfl, hJ⟩
          · skip
            exact absurd hpre hJ
    · skip
      have h2p := of_decide_eq_true h2
      refine x_t (by kernel_rfl) ?_
      refine x_skipc ?_
      refine x_then ?_
      refine x_seq ?_
      refine x_block ?_
      refine x_seq ?_
      refine x_region ?_
      obtain ⟨ga, oa, had, hcell⟩ := hA (by omega)
      refine x_ixO (t := 55) had k nA cA 3 1 (oa + k) (by omega) (by omega) (by kernel_rfl) (by kernel_rfl) (by kernel_rfl) rfl (by kernel_rfl) ?_
      refine x_loadc ga (oa + k) (.int .i64 (kl.getD k 0)) (hcell _ H.below k (by omega)) (by kernel_rfl) rfl (by kernel_rfl) ?_
      refine x_val (.int .i64 (kl.getD k 0)) (by kernel_rfl) rfl (by kernel_rfl) ?_
      refine x_nil ?_
      refine x_then ?_
      refine x_seq ?_
      refine x_region ?_
      refine x_val (.pointer (some ⟨t, 0, none⟩)) (by kernel_rfl) rfl (by kernel_rfl) ?_
      refine x_val (.int .i64 (kl.getD k 0)) (by kernel_rfl) rfl (by kernel_rfl) ?_
      cases h6 : decide (fkI (seven ks) (kl.getD k 0) < List.length (seven ks))
      · skip
        have h6p := of_decide_eq_false h6
        refine x_callB (.tuple #[.int .i64 0, .bool false]) H (by kernel_rfl) rfl (by kernel_rfl) (Get_no (room := room) (kl.getD k 0) (by rw [seven_len]; omega) (of_decide_eq_false h6) _ (H.roOf [0, 1] [.blk t #[sv, .int .i64 ((room : Nat) : Int), .func (.func 26) #[] #[]] 90, .row (sv) 92 2 (List.length (seven ks)) (List.flatMap pairLI (seven ks))] (by kernel_rfl))) ?_
        clear H
        intro v17 H
        refine x_val (.tuple #[.int .i64 0, .bool false]) (by kernel_rfl) rfl (by kernel_rfl) ?_
        refine x_val (.int .i64 0) (by kernel_rfl) rfl (by kernel_rfl) ?_
        refine x_val (.bool false) (by kernel_rfl) rfl (by kernel_rfl) ?_
        refine x_val (.int .i64 0) (by kernel_rfl) rfl (by kernel_rfl) ?_
        refine x_val (.bool false) (by kernel_rfl) rfl (by kernel_rfl) ?_
        refine x_nil ?_
        refine x_then ?_
        refine x_seq ?_
        refine x_region ?_
        refine x_val (.pointer (some ⟨t, 0, none⟩)) (by kernel_rfl) rfl (by kernel_rfl) ?_
        refine x_val (.int .i64 (kl.getD k 0)) (by kernel_rfl) rfl (by kernel_rfl) ?_
        cases h7 : decide ((((List.length ks) : Nat) : Int) = ((room : Nat) : Int))
        · skip
          have h7p := of_decide_eq_false h7
          refine x_call (by kernel_rfl) rfl (by kernel_rfl) (Hs.useE (A := [.blk t #[sv, .int .i64 ((room : Nat) : Int), .func (.func 26) #[] #[]] 90, .row (sv) 92 2 (List.length (seven ks)) (List.flatMap pairLI (seven ks))]) (R := [.blk g2 #[lv] 55, .row (lv) 3 1 (List.length ks) (List.map (Value.int .i64) ks), .blk g1 #[.bool false] 4]) (fun svp => [.blk t #[svp, .int .i64 ((room : Nat) : Int), .func (.func 26) #[] #[]] 90, .row (svp) 92 2 (List.length (seven (ks ++ [(kl.getD k 0)]))) (List.flatMap pairLI (seven (ks ++ [(kl.getD k 0)])))]) (fun _ => .tuple #[.int .i64 0, .bool false]) (H.pick [0, 1, 2, 3, 4] _ (by decide) (by kernel_rfl)) (fun h => (by have q := Put_I (kl.getD k 0) 7 (by rw [seven_len]; omega) (by rw [seven_len]; omega) (by omega) _ h; rw [put7_room (of_decide_eq_false h6) (by omega)] at q; exact q))) ?_
          rintro _ v18 ⟨svp, rfl, H'⟩
          refine ⟨_, rfl, ?_⟩
          clear H
          have H : Hs [] w0 _ [.blk t #[svp, .int .i64 ((room : Nat) : Int), .func (.func 26) #[] #[]] 90, .row (svp) 92 2 (List.length (seven (ks ++ [(kl.getD k 0)]))) (List.flatMap pairLI (seven (ks ++ [(kl.getD k 0)]))), .blk g2 #[lv] 55, .row (lv) 3 1 (List.length ks) (List.map (Value.int .i64) ks), .blk g1 #[.bool false] 4] := H'
          clear H'
          refine x_val (.tuple #[.int .i64 0, .bool false]) (by kernel_rfl) rfl (by kernel_rfl) ?_
          refine x_val (.int .i64 0) (by kernel_rfl) rfl (by kernel_rfl) ?_
          refine x_val (.bool false) (by kernel_rfl) rfl (by kernel_rfl) ?_
          refine x_val (.int .i64 0) (by kernel_rfl) rfl (by kernel_rfl) ?_
          refine x_val (.bool false) (by kernel_rfl) rfl (by kernel_rfl) ?_
          refine x_nil ?_
          refine x_then ?_
          refine x_seq ?_
          refine x_seq ?_
          refine x_region ?_
          refine x_val (.bool false) (by kernel_rfl) rfl (by kernel_rfl) ?_
          refine x_val (.bool false) (by kernel_rfl) rfl (by kernel_rfl) ?_
          refine x_val (.bool true) (by kernel_rfl) rfl (by kernel_rfl) ?_
          refine x_val (.bool true) (by kernel_rfl) rfl (by kernel_rfl) ?_
          refine x_load1 H 2 g2 0 #[lv] 55 (lv) (by kernel_rfl) (by kernel_rfl) (by kernel_rfl) rfl (by kernel_rfl) ?_
          refine x_lenR H 3 lv 55 3 1 (List.length ks) (List.map (Value.int .i64) ks) rfl (by kernel_rfl) (by kernel_rfl) rfl (by kernel_rfl) ?_
          refine x_val (.int .i64 ((room : Nat) : Int)) (by kernel_rfl) rfl (by kernel_rfl) ?_
          refine x_val (.bool (decide ((((List.length ks) : Nat) : Int) = ((room : Nat) : Int)))) (by kernel_rfl) rfl (by kernel_rfl) ?_
          refine x_val (.bool (decide ((((List.length ks) : Nat) : Int) = ((room : Nat) : Int)))) (by kernel_rfl) rfl (by kernel_rfl) ?_
          refine x_val (.bool (false != (decide ((((List.length ks) : Nat) : Int) = ((room : Nat) : Int))))) (by kernel_rfl) rfl (by kernel_rfl) ?_
          refine x_val (.bool (false != (decide ((((List.length ks) : Nat) : Int) = ((room : Nat) : Int))))) (by kernel_rfl) rfl (by kernel_rfl) ?_
          cases h8 : false != (decide ((((List.length ks) : Nat) : Int) = ((room : Nat) : Int)))
          · skip
            refine x_val (.bool false) (by kernel_rfl) rfl (by kernel_rfl) ?_
            refine x_val (.bool false) (by kernel_rfl) rfl (by kernel_rfl) ?_
            refine x_skip (by kernel_rfl) ?_
            refine x_skip (by kernel_rfl) ?_
            refine x_skip (by kernel_rfl) ?_
            refine x_skip (by kernel_rfl) ?_
            refine x_skip (by kernel_rfl) ?_
            refine x_val (.bool false) (by kernel_rfl) rfl (by kernel_rfl) ?_
            refine x_val (.bool false) (by kernel_rfl) rfl (by kernel_rfl) ?_
            refine x_nil ?_
            refine x_frame' { tmps := #[.int .i64 ((room : Nat) : Int), .slice ad nA cA, undef, undef, .pointer (some ⟨g1, 0, none⟩), .pointer (some ⟨t, 0, none⟩), .int .i64 0, .pointer (some ⟨g2, 0, none⟩), undef, .int .i64 (kl.getD k 0), .int .i64 0, .bool false, .int .i64 0, .bool false, undef, undef, .bool true, .bool false, .tuple #[.pointer (some ⟨t, 0, none⟩), .int .i64 0], .int .i64 ((room : Nat) : Int), .tuple #[.pointer (some ⟨t, 0, none⟩), .int .i64 0], .pointer (some ⟨t, 0, none⟩), .int .i64 0, .int .i64 0, .bool false, .bool false, .pointer (some ⟨t, 0, none⟩), .bool false, .bool false, .bool false, .slice ad nA cA, .int .i64 ((nA : Nat) : Int), .bool false, .bool false, undef, undef, undef, undef, undef, undef, undef, .slice ad nA cA, .int .i64 ((nA : Nat) : Int), .int .i64 ((k : Nat) : Int), .bool true, .pointer (some ⟨ga, oa + k, none⟩), .int .i64 (kl.getD k 0), .tuple #[.int .i64 0, .bool false], .pointer (some ⟨t, 0, none⟩), .int .i64 (kl.getD k 0), .tuple #[.int .i64 0, .bool false], .int .i64 0, .bool false, .tuple #[.int .i64 0, .bool false], .pointer (some ⟨t, 0, none⟩), .int .i64 (kl.getD k 0), .tuple #[.int .i64 0, .bool false], .int .i64 0, .bool false, .bool false, .bool false, .bool true, .bool true, lv, .int .i64 (((List.length ks) : Nat) : Int), .int .i64 ((room : Nat) : Int), .bool (decide ((((List.length ks) : Nat) : Int) = ((room : Nat) : Int))), .bool (decide ((((List.length ks) : Nat) : Int) = ((room : Nat) : Int))), .bool false, .bool false, .bool false, .bool false, undef, undef, undef, undef, undef, .bool false, .bool false, (uf1 40), (uf1 41), (uf1 42), (uf1 43), (uf1 44), (uf1 45), (uf1 46), (uf1 47), (uf1 48), (uf1 49), (uf1 50), (uf1 51), (uf1 52), (uf1 53), (uf1 54), (uf1 55), (uf1 56), undef, undef, undef, undef, undef, undef, undef, undef, undef, undef, undef, undef, undef, undef, undef, undef, undef, undef, undef, undef, undef, undef], defers := [] } (by kernel_rfl) ?_
            refine x_then ?_
            refine x_f (by kernel_rfl) ?_
            refine x_skipc ?_
            refine x_then ?_
            refine x_seq ?_
            refine x_seq ?_
            refine x_region ?_
            refine x_val (.bool false) (by kernel_rfl) rfl (by kernel_rfl) ?_
            refine x_nil ?_
            refine x_then ?_
            refine x_f (by kernel_rfl) ?_
            refine x_skipc ?_
            refine x_then ?_
            refine x_seq ?_
            refine x_seq ?_
            refine x_region ?_
            refine x_val (.bool false) (by kernel_rfl) rfl (by kernel_rfl) ?_
            refine x_val (.bool true) (by kernel_rfl) rfl (by kernel_rfl) ?_
            refine x_nil ?_
            refine x_then ?_
            refine x_t (by kernel_rfl) ?_
            refine x_region ?_
            refine x_box' H #[] 3 0 (by kernel_rfl) rfl (by kernel_rfl) ?_
            clear H
            intro v19 g4 H
            refine x_load1 H 3 g2 0 #[lv] 55 (lv) (by kernel_rfl) (by kernel_rfl) (by kernel_rfl) rfl (by kernel_rfl) ?_
            replace H : Hs [] w0 _ [.row (.slice (some ⟨g4, 0, none⟩) 0 0) 3 1 0 (List.map (Value.int .i64) ([] : List Int)), .blk t #[svp, .int .i64 ((room : Nat) : Int), .func (.func 26) #[] #[]] 90, .row (svp) 92 2 (List.length (seven (ks ++ [(kl.getD k 0)]))) (List.flatMap pairLI (seven (ks ++ [(kl.getD k 0)]))), .blk g2 #[lv] 55, .row (lv) 3 1 (List.length ks) (List.map (Value.int .i64) ks), .blk g1 #[.bool false] 4] := H.row0 0 rfl
            refine x_appendSrc H 0 (.slice (some ⟨g4, 0, none⟩) 0 0) 55 3 1 8 0 (.int .i64 0) (List.map (Value.int .i64) ([] : List Int)) (lv) (List.length ks) (List.map (Value.int .i64) ks) rfl (src_row (H.ok 4 _ rfl)) (by kernel_rfl) (by kernel_rfl) (by kernel_rfl) (by decide) (oneCellMap (fun _ => rfl) _) (by unfold maxLen; omega) (by omega) (by kernel_rfl) rfl (by kernel_rfl) ?_
            clear H
            intro v20 vr86 H
            rw [show (List.map (Value.int .i64) ([] : List Int)) ++ (List.map (Value.int .i64) ks) = (List.map (Value.int .i64) ks) from (by simp)] at H
            rw [show (0 + (List.length ks) : Nat) = (List.length ks) from (by simp)] at H
            replace H : Hs [] w0 v20 [.row (vr86) 3 1 (List.length ks) (List.map (Value.int .i64) ks), .blk t #[svp, .int .i64 ((room : Nat) : Int), .func (.func 26) #[] #[]] 90, .row (svp) 92 2 (List.length (seven (ks ++ [(kl.getD k 0)]))) (List.flatMap pairLI (seven (ks ++ [(kl.getD k 0)]))), .blk g2 #[lv] 55, .row (lv) 3 1 (List.length ks) (List.map (Value.int .i64) ks), .blk g1 #[.bool false] 4] := H
            refine x_val (.int .i64 (kl.getD k 0)) (by kernel_rfl) rfl (by kernel_rfl) ?_
            refine x_box' H #[.int .i64 (kl.getD k 0)] 3 1 (by kernel_rfl) rfl (by kernel_rfl) ?_
            clear H
            intro v21 g5 H
            refine x_append H 1 (vr86) 55 3 1 8 (List.length ks) (.int .i64 0) (List.map (Value.int .i64) ks) ⟨g5, 0, none⟩ 1 1 [.int .i64 (kl.getD k 0)] rfl (by kernel_rfl) (by kernel_rfl) rfl (by decide) (by decide) rfl (fun j u hj => by rw [add_none]; exact cellOf (H.blk 0 rfl) (by simpa using hj)) (List.all_eq_true.1 (by kernel_rfl)) (by first | (unfold maxLen; omega) | (rw [List.length_drop]; unfold maxLen; omega)) (by first | omega | (rw [List.length_drop]; omega)) (by kernel_rfl) rfl (by kernel_rfl) ?_
            clear H
            intro v22 g6 c6 hc6 H
            rw [show (((List.length ks) + 1) : Nat) = (List.length (ks ++ [(kl.getD k 0)])) from (by simp)] at H ⊢
            rw [show (List.map (Value.int .i64) ks) ++ [.int .i64 (kl.getD k 0)] = (List.map (Value.int .i64) (ks ++ [(kl.getD k 0)])) from (by rw [List.map_append]; rfl)] at H
            replace H : Hs [] w0 v22 [.blk g5 #[.int .i64 (kl.getD k 0)] 3, .row (.slice (some ⟨g6, 0, none⟩) (List.length (ks ++ [(kl.getD k 0)])) c6) 3 1 (List.length (ks ++ [(kl.getD k 0)])) (List.map (Value.int .i64) (ks ++ [(kl.getD k 0)])), .blk t #[svp, .int .i64 ((room : Nat) : Int), .func (.func 26) #[] #[]] 90, .row (svp) 92 2 (List.length (seven (ks ++ [(kl.getD k 0)]))) (List.flatMap pairLI (seven (ks ++ [(kl.getD k 0)]))), .blk g2 #[lv] 55, .row (lv) 3 1 (List.length ks) (List.map (Value.int .i64) ks), .blk g1 #[.bool false] 4] := H
            replace H := H.pick [1, 2, 3, 4, 5, 6] [.row (.slice (some ⟨g6, 0, none⟩) (List.length (ks ++ [(kl.getD k 0)])) c6) 3 1 (List.length (ks ++ [(kl.getD k 0)])) (List.map (Value.int .i64) (ks ++ [(kl.getD k 0)])), .blk t #[svp, .int .i64 ((room : Nat) : Int), .func (.func 26) #[] #[]] 90, .row (svp) 92 2 (List.length (seven (ks ++ [(kl.getD k 0)]))) (List.flatMap pairLI (seven (ks ++ [(kl.getD k 0)]))), .blk g2 #[lv] 55, .row (lv) 3 1 (List.length ks) (List.map (Value.int .i64) ks), .blk g1 #[.bool false] 4] (by decide) (by kernel_rfl)
            refine x_store (t := 55) (v := .slice (some ⟨g6, 0, none⟩) (List.length (ks ++ [(kl.getD k 0)])) c6) H 3 g2 0 #[lv] #[.slice (some ⟨g6, 0, none⟩) (List.length (ks ++ [(kl.getD k 0)])) c6] 55 [.slice (some ⟨g6, 0, none⟩) (List.length (ks ++ [(kl.getD k 0)])) c6] [.row (.slice (some ⟨g6, 0, none⟩) (List.length (ks ++ [(kl.getD k 0)])) c6) 3 1 (List.length (ks ++ [(kl.getD k 0)])) (List.map (Value.int .i64) (ks ++ [(kl.getD k 0)])), .blk t #[svp, .int .i64 ((room : Nat) : Int), .func (.func 26) #[] #[]] 90, .row (svp) 92 2 (List.length (seven (ks ++ [(kl.getD k 0)]))) (List.flatMap pairLI (seven (ks ++ [(kl.getD k 0)]))), .blk g2 #[.slice (some ⟨g6, 0, none⟩) (List.length (ks ++ [(kl.getD k 0)])) c6] 55, .row (lv) 3 1 (List.length ks) (List.map (Value.int .i64) ks), .blk g1 #[.bool false] 4] (by kernel_rfl) rfl (by kernel_rfl) (by kernel_rfl) (by kernel_rfl) (by kernel_rfl) (by kernel_rfl) (by kernel_rfl) (by kernel_rfl) (by kernel_rfl) ?_
            clear H
            intro v23 H
            refine x_nil ?_
            refine x_then ?_
            refine x_seq ?_
            refine x_region_whole (fun w' => Hs [] w0 w' [.row (.slice (some ⟨g6, 0, none⟩) (List.length (ks ++ [(kl.getD k 0)])) c6) 3 1 (List.length (ks ++ [(kl.getD k 0)])) (List.map (Value.int .i64) (ks ++ [(kl.getD k 0)])), .blk t #[svp, .int .i64 ((room : Nat) : Int), .func (.func 26) #[] #[]] 90, .row (svp) 92 2 (List.length (seven (ks ++ [(kl.getD k 0)]))) (List.flatMap pairLI (seven (ks ++ [(kl.getD k 0)]))), .blk g2 #[.slice (some ⟨g6, 0, none⟩) (List.length (ks ++ [(kl.getD k 0)])) c6] 55, .row (lv) 3 1 (List.length ks) (List.map (Value.int .i64) ks), .blk g1 #[.bool false] 4]) (by kernel_rfl) (by kernel_rfl) (by kernel_rfl) H.drew ?_
            refine q_val (.pointer (some ⟨t, 0, none⟩)) (by kernel_rfl) (fun _ => by kernel_rfl) ?_
            refine q_callR (.int .i64 (((List.length (ks ++ [(kl.getD k 0)])) : Nat) : Int)) (by kernel_rfl) (fun _ => by kernel_rfl) (fun _ H => (by have q := TLenI _ (H.roOf [1, 2] [.blk t #[svp, .int .i64 ((room : Nat) : Int), .func (.func 26) #[] #[]] 90, .row (svp) 92 2 (List.length (seven (ks ++ [(kl.getD k 0)]))) (List.flatMap pairLI (seven (ks ++ [(kl.getD k 0)])))] (by kernel_rfl)); rw [seven_len] at q; exact q)) ?_
            refine q_load1 3 g2 0 #[.slice (some ⟨g6, 0, none⟩) (List.length (ks ++ [(kl.getD k 0)])) c6] 55 (.slice (some ⟨g6, 0, none⟩) (List.length (ks ++ [(kl.getD k 0)])) c6) (by kernel_rfl) (by kernel_rfl) (by kernel_rfl) (fun _ => by kernel_rfl) ?_
            refine q_val (.int .i64 (((List.length (ks ++ [(kl.getD k 0)])) : Nat) : Int)) (by kernel_rfl) (fun _ => by kernel_rfl) ?_
            refine q_eq (.bool false) (show Value.bool (!decide ((((List.length (ks ++ [(kl.getD k 0)])) : Nat) : Int) = (((List.length (ks ++ [(kl.getD k 0)])) : Nat) : Int))) = Value.bool false by simp) (by kernel_rfl) (fun _ => by kernel_rfl) ?_
            refine q_nil ?_
            clear H
            intro v24 H
            refine x_then ?_
            refine x_f (by kernel_rfl) ?_
            refine x_skipc ?_
            refine x_blk ?_
            refine x_then ?_
            refine x_region ?_
            refine x_ar (((k : Nat) : Int) + 1) ⟨by omega, by omega⟩ (by kernel_rfl) rfl (by kernel_rfl) ?_
            refine x_val (.int .i64 (((k : Nat) : Int) + 1)) (by kernel_rfl) rfl (by kernel_rfl) ?_
            refine x_nil ?_
            refine x_then ?_
            replace H := H.pick [1, 2, 3, 0, 5] [.blk t #[svp, .int .i64 ((room : Nat) : Int), .func (.func 26) #[] #[]] 90, .row (svp) 92 2 (List.length (seven (ks ++ [(kl.getD k 0)]))) (List.flatMap pairLI (seven (ks ++ [(kl.getD k 0)]))), .blk g2 #[.slice (some ⟨g6, 0, none⟩) (List.length (ks ++ [(kl.getD k 0)])) c6] 55, .row (.slice (some ⟨g6, 0, none⟩) (List.length (ks ++ [(kl.getD k 0)])) c6) 3 1 (List.length (ks ++ [(kl.getD k 0)])) (List.map (Value.int .i64) (ks ++ [(kl.getD k 0)])), .blk g1 #[.bool false] 4] (by decide) (by kernel_rfl)
            exact ⟨(k + 1, svp, .slice (some ⟨g6, 0, none⟩) (List.length (ks ++ [(kl.getD k 0)])) c6, (ks ++ [(kl.getD k 0)])), (by dsimp only; omega), (nthV [.int .i64 (kl.getD k 0), .int .i64 0, .bool false, .int .i64 0, .bool false, .bool true, .pointer (some ⟨ga, oa + k, none⟩), .int .i64 (kl.getD k 0), .tuple #[.int .i64 0, .bool false], .pointer (some ⟨t, 0, none⟩), .int .i64 (kl.getD k 0), .tuple #[.int .i64 0, .bool false], .int .i64 0, .bool false, .tuple #[.int .i64 0, .bool false], .pointer (some ⟨t, 0, none⟩), .int .i64 (kl.getD k 0), .tuple #[.int .i64 0, .bool false], .int .i64 0, .bool false, .bool false, .bool false, .bool true, .bool true, lv, .int .i64 (((List.length ks) : Nat) : Int), .int .i64 ((room : Nat) : Int), .bool (decide ((((List.length ks) : Nat) : Int) = ((room : Nat) : Int))), .bool (decide ((((List.length ks) : Nat) : Int) = ((room : Nat) : Int))), .bool false, .bool false, .bool false, .bool false, undef, undef, undef, undef, undef, .bool false, .bool false, .bool false, (uf1 41), (uf1 42), .bool false, .bool true, .slice (some ⟨g4, 0, none⟩) 0 0, lv, vr86, .int .i64 (kl.getD k 0), .slice (some ⟨g5, 0, none⟩) 1 1, .slice (some ⟨g6, 0, none⟩) (List.length (ks ++ [(kl.getD k 0)])) c6, .pointer (some ⟨t, 0, none⟩), .int .i64 (((List.length (ks ++ [(kl.getD k 0)])) : Nat) : Int), .slice (some ⟨g6, 0, none⟩) (List.length (ks ++ [(kl.getD k 0)])) c6, .int .i64 (((List.length (ks ++ [(kl.getD k 0)])) : Nat) : Int), .bool false, .int .i64 (((k : Nat) : Int) + 1)]), (by kernel_rfl), H, (by omega), (by first | omega | (simp; omega))⟩
          · skip
            exact absurd h8 (by rw [h7]; decide)
        · skip
          have h7p := of_decide_eq_true h7
          rcases H.rowForm 3 rfl with ⟨rfl, h0⟩ | ⟨gl, cl, rfl, hcl, -⟩
          · exfalso; omega
          refine x_call (by kernel_rfl) rfl (by kernel_rfl) (Hs.useE (A := [.blk t #[sv, .int .i64 ((room : Nat) : Int), .func (.func 26) #[] #[]] 90, .row (sv) 92 2 (List.length (seven ks)) (List.flatMap pairLI (seven ks))]) (R := [.blk g2 #[.slice (some ⟨gl, 0, none⟩) (List.length ks) cl] 55, .row (.slice (some ⟨gl, 0, none⟩) (List.length ks) cl) 3 1 (List.length ks) (List.map (Value.int .i64) ks), .blk g1 #[.bool false] 4]) (fun svp => [.blk t #[svp, .int .i64 ((room : Nat) : Int), .func (.func 26) #[] #[]] 90, .row (svp) 92 2 (List.length (seven (List.drop 1 ks ++ [(kl.getD k 0)]))) (List.flatMap pairLI (seven (List.drop 1 ks ++ [(kl.getD k 0)])))]) (fun _ => .tuple #[.int .i64 (ks.getD 0 0), .bool true]) (H.pick [0, 1, 2, 3, 4] _ (by decide) (by kernel_rfl)) (fun h => (by have q := Put_I (kl.getD k 0) 7 (by rw [seven_len]; omega) (by rw [seven_len]; omega) (by omega) _ h; rw [put7_full (of_decide_eq_false h6) (by omega) (by omega)] at q; exact q))) ?_
          rintro _ v25 ⟨svp, rfl, H'⟩
          refine ⟨_, rfl, ?_⟩
          clear H
          have H : Hs [] w0 _ [.blk t #[svp, .int .i64 ((room : Nat) : Int), .func (.func 26) #[] #[]] 90, .row (svp) 92 2 (List.length (seven (List.drop 1 ks ++ [(kl.getD k 0)]))) (List.flatMap pairLI (seven (List.drop 1 ks ++ [(kl.getD k 0)]))), .blk g2 #[.slice (some ⟨gl, 0, none⟩) (List.length ks) cl] 55, .row (.slice (some ⟨gl, 0, none⟩) (List.length ks) cl) 3 1 (List.length ks) (List.map (Value.int .i64) ks), .blk g1 #[.bool false] 4] := H'
          clear H'
          refine x_val (.tuple #[.int .i64 (ks.getD 0 0), .bool true]) (by kernel_rfl) rfl (by kernel_rfl) ?_
          refine x_val (.int .i64 (ks.getD 0 0)) (by kernel_rfl) rfl (by kernel_rfl) ?_
          refine x_val (.bool true) (by kernel_rfl) rfl (by kernel_rfl) ?_
          refine x_val (.int .i64 (ks.getD 0 0)) (by kernel_rfl) rfl (by kernel_rfl) ?_
          refine x_val (.bool true) (by kernel_rfl) rfl (by kernel_rfl) ?_
          refine x_nil ?_
          refine x_then ?_
          refine x_seq ?_
          refine x_seq ?_
          refine x_region ?_
          refine x_val (.bool true) (by kernel_rfl) rfl (by kernel_rfl) ?_
          refine x_val (.bool false) (by kernel_rfl) rfl (by kernel_rfl) ?_
          refine x_val (.bool true) (by kernel_rfl) rfl (by kernel_rfl) ?_
          refine x_val (.bool true) (by kernel_rfl) rfl (by kernel_rfl) ?_
          refine x_load1 H 2 g2 0 #[.slice (some ⟨gl, 0, none⟩) (List.length ks) cl] 55 (.slice (some ⟨gl, 0, none⟩) (List.length ks) cl) (by kernel_rfl) (by kernel_rfl) (by kernel_rfl) rfl (by kernel_rfl) ?_
          refine x_val (.int .i64 (((List.length ks) : Nat) : Int)) (by kernel_rfl) rfl (by kernel_rfl) ?_
          refine x_val (.int .i64 ((room : Nat) : Int)) (by kernel_rfl) rfl (by kernel_rfl) ?_
          refine x_val (.bool (decide ((((List.length ks) : Nat) : Int) = ((room : Nat) : Int)))) (by kernel_rfl) rfl (by kernel_rfl) ?_
          refine x_val (.bool (decide ((((List.length ks) : Nat) : Int) = ((room : Nat) : Int)))) (by kernel_rfl) rfl (by kernel_rfl) ?_
          refine x_val (.bool (true != (decide ((((List.length ks) : Nat) : Int) = ((room : Nat) : Int))))) (by kernel_rfl) rfl (by kernel_rfl) ?_
          refine x_val (.bool (true != (decide ((((List.length ks) : Nat) : Int) = ((room : Nat) : Int))))) (by kernel_rfl) rfl (by kernel_rfl) ?_
          cases h9 : true != (decide ((((List.length ks) : Nat) : Int) = ((room : Nat) : Int)))
          · skip
            refine x_val (.bool true) (by kernel_rfl) rfl (by kernel_rfl) ?_
            refine x_val (.bool true) (by kernel_rfl) rfl (by kernel_rfl) ?_
            refine x_val (.int .i64 (ks.getD 0 0)) (by kernel_rfl) rfl (by kernel_rfl) ?_
            refine x_load1 H 2 g2 0 #[.slice (some ⟨gl, 0, none⟩) (List.length ks) cl] 55 (.slice (some ⟨gl, 0, none⟩) (List.length ks) cl) (by kernel_rfl) (by kernel_rfl) (by kernel_rfl) rfl (by kernel_rfl) ?_
            refine x_ix (t := 55) gl 0 0 (List.length ks) cl 3 1 0 (by omega) (by omega) (by kernel_rfl) (by kernel_rfl) (by kernel_rfl) rfl (by kernel_rfl) ?_
            refine x_loadc gl 0 (.int .i64 (ks.getD 0 0)) (H.rowCell 3 rfl 0 (mapAt 0 (by omega))) (by kernel_rfl) rfl (by kernel_rfl) ?_
            refine x_eq (.bool false) (show Value.bool (!decide ((ks.getD 0 0) = (ks.getD 0 0))) = Value.bool false by simp) (by kernel_rfl) rfl (by kernel_rfl) ?_
            refine x_val (.bool false) (by kernel_rfl) rfl (by kernel_rfl) ?_
            refine x_val (.bool false) (by kernel_rfl) rfl (by kernel_rfl) ?_
            refine x_nil ?_
            refine x_frame' { tmps := #[.int .i64 ((room : Nat) : Int), .slice ad nA cA, undef, undef, .pointer (some ⟨g1, 0, none⟩), .pointer (some ⟨t, 0, none⟩), .int .i64 0, .pointer (some ⟨g2, 0, none⟩), undef, .int .i64 (kl.getD k 0), .int .i64 0, .bool false, .int .i64 (ks.getD 0 0), .bool true, undef, undef, .bool true, .bool false, .tuple #[.pointer (some ⟨t, 0, none⟩), .int .i64 0], .int .i64 ((room : Nat) : Int), .tuple #[.pointer (some ⟨t, 0, none⟩), .int .i64 0], .pointer (some ⟨t, 0, none⟩), .int .i64 0, .int .i64 0, .bool false, .bool false, .pointer (some ⟨t, 0, none⟩), .bool false, .bool false, .bool false, .slice ad nA cA, .int .i64 ((nA : Nat) : Int), .bool false, .bool false, undef, undef, undef, undef, undef, undef, undef, .slice ad nA cA, .int .i64 ((nA : Nat) : Int), .int .i64 ((k : Nat) : Int), .bool true, .pointer (some ⟨ga, oa + k, none⟩), .int .i64 (kl.getD k 0), .tuple #[.int .i64 0, .bool false], .pointer (some ⟨t, 0, none⟩), .int .i64 (kl.getD k 0), .tuple #[.int .i64 0, .bool false], .int .i64 0, .bool false, .tuple #[.int .i64 (ks.getD 0 0), .bool true], .pointer (some ⟨t, 0, none⟩), .int .i64 (kl.getD k 0), .tuple #[.int .i64 (ks.getD 0 0), .bool true], .int .i64 (ks.getD 0 0), .bool true, .bool true, .bool false, .bool true, .bool true, .slice (some ⟨gl, 0, none⟩) (List.length ks) cl, .int .i64 (((List.length ks) : Nat) : Int), .int .i64 ((room : Nat) : Int), .bool (decide ((((List.length ks) : Nat) : Int) = ((room : Nat) : Int))), .bool (decide ((((List.length ks) : Nat) : Int) = ((room : Nat) : Int))), .bool false, .bool false, .bool true, .bool true, .int .i64 (ks.getD 0 0), .slice (some ⟨gl, 0, none⟩) (List.length ks) cl, .pointer (some ⟨gl, 0, none⟩), .int .i64 (ks.getD 0 0), .bool false, .bool false, .bool false, (uf1 40), (uf1 41), (uf1 42), (uf1 43), (uf1 44), (uf1 45), (uf1 46), (uf1 47), (uf1 48), (uf1 49), (uf1 50), (uf1 51), (uf1 52), (uf1 53), (uf1 54), (uf1 55), (uf1 56), undef, undef, undef, undef, undef, undef, undef, undef, undef, undef, undef, undef, undef, undef, undef, undef, undef, undef, undef, undef, undef, undef], defers := [] } (by kernel_rfl) ?_
            refine x_then ?_
            refine x_f (by kernel_rfl) ?_
            refine x_skipc ?_
            refine x_then ?_
            refine x_seq ?_
            refine x_seq ?_
            refine x_region ?_
            refine x_val (.bool true) (by kernel_rfl) rfl (by kernel_rfl) ?_
            refine x_nil ?_
            refine x_then ?_
            refine x_t (by kernel_rfl) ?_
            refine x_region ?_
            refine x_load1 H 2 g2 0 #[.slice (some ⟨gl, 0, none⟩) (List.length ks) cl] 55 (.slice (some ⟨gl, 0, none⟩) (List.length ks) cl) (by kernel_rfl) (by kernel_rfl) (by kernel_rfl) rfl (by kernel_rfl) ?_
            refine x_val ((sliced (some ⟨gl, 0, none⟩) 1 (List.length ks) cl 1)) (by kernel_rfl) rfl (Eq.trans (by kernel_rfl) (slcL (P := Try.prog) (t := 55) (b := some ⟨gl, 0, none⟩) (n := (List.length ks)) (c := cl) (l := 1) (sz := 1) (by kernel_rfl) (by kernel_rfl) (by omega))) ?_
            refine x_store (t := 55) (v := (sliced (some ⟨gl, 0, none⟩) 1 (List.length ks) cl 1)) H 2 g2 0 #[.slice (some ⟨gl, 0, none⟩) (List.length ks) cl] #[(sliced (some ⟨gl, 0, none⟩) 1 (List.length ks) cl 1)] 55 [(sliced (some ⟨gl, 0, none⟩) 1 (List.length ks) cl 1)] [.blk t #[svp, .int .i64 ((room : Nat) : Int), .func (.func 26) #[] #[]] 90, .row (svp) 92 2 (List.length (seven (List.drop 1 ks ++ [(kl.getD k 0)]))) (List.flatMap pairLI (seven (List.drop 1 ks ++ [(kl.getD k 0)]))), .blk g2 #[(sliced (some ⟨gl, 0, none⟩) 1 (List.length ks) cl 1)] 55, .row (.slice (some ⟨gl, 0, none⟩) (List.length ks) cl) 3 1 (List.length ks) (List.map (Value.int .i64) ks), .blk g1 #[.bool false] 4] (by kernel_rfl) rfl (by kernel_rfl) (by kernel_rfl) (by kernel_rfl) (by kernel_rfl) (by kernel_rfl) (by kernel_rfl) (by kernel_rfl) (by kernel_rfl) ?_
            clear H
            intro v26 H
            refine x_nil ?_
            refine x_then ?_
            refine x_seq ?_
            refine x_seq ?_
            refine x_region ?_
            refine x_val (.bool false) (by kernel_rfl) rfl (by kernel_rfl) ?_
            refine x_val (.bool true) (by kernel_rfl) rfl (by kernel_rfl) ?_
            refine x_nil ?_
            refine x_then ?_
            refine x_t (by kernel_rfl) ?_
            refine x_region ?_
            refine x_box' H #[] 3 0 (by kernel_rfl) rfl (by kernel_rfl) ?_
            clear H
            intro v27 g7 H
            refine x_load1 H 3 g2 0 #[(sliced (some ⟨gl, 0, none⟩) 1 (List.length ks) cl 1)] 55 ((sliced (some ⟨gl, 0, none⟩) 1 (List.length ks) cl 1)) (by kernel_rfl) (by kernel_rfl) (by kernel_rfl) rfl (by kernel_rfl) ?_
            replace H : Hs [] w0 _ [.row (.slice (some ⟨g7, 0, none⟩) 0 0) 3 1 0 (List.map (Value.int .i64) ([] : List Int)), .blk t #[svp, .int .i64 ((room : Nat) : Int), .func (.func 26) #[] #[]] 90, .row (svp) 92 2 (List.length (seven (List.drop 1 ks ++ [(kl.getD k 0)]))) (List.flatMap pairLI (seven (List.drop 1 ks ++ [(kl.getD k 0)]))), .blk g2 #[(sliced (some ⟨gl, 0, none⟩) 1 (List.length ks) cl 1)] 55, .row (.slice (some ⟨gl, 0, none⟩) (List.length ks) cl) 3 1 (List.length ks) (List.map (Value.int .i64) ks), .blk g1 #[.bool false] 4] := H.row0 0 rfl
            refine x_appendSrc H 0 (.slice (some ⟨g7, 0, none⟩) 0 0) 55 3 1 8 0 (.int .i64 0) (List.map (Value.int .i64) ([] : List Int)) ((sliced (some ⟨gl, 0, none⟩) 1 (List.length ks) cl 1)) (List.length ks - 1) (List.drop (1 * 1) (List.map (Value.int .i64) ks)) rfl (src_suf (H.ok 4 _ rfl) (by omega)) (by kernel_rfl) (by kernel_rfl) (by kernel_rfl) (by decide) (fun u hu => oneCellMap (fun _ => rfl) _ u (List.mem_of_mem_drop hu)) (by unfold maxLen; omega) (by omega) (by kernel_rfl) rfl (by kernel_rfl) ?_
            clear H
            intro v28 vr86 H
            rw [show (List.map (Value.int .i64) ([] : List Int)) ++ (List.drop (1 * 1) (List.map (Value.int .i64) ks)) = (List.map (Value.int .i64) (List.drop 1 ks)) from (by simp)] at H
            rw [show (0 + (List.length ks - 1) : Nat) = (List.length (List.drop 1 ks)) from (by simp)] at H
            replace H : Hs [] w0 v28 [.row (vr86) 3 1 (List.length (List.drop 1 ks)) (List.map (Value.int .i64) (List.drop 1 ks)), .blk t #[svp, .int .i64 ((room : Nat) : Int), .func (.func 26) #[] #[]] 90, .row (svp) 92 2 (List.length (seven (List.drop 1 ks ++ [(kl.getD k 0)]))) (List.flatMap pairLI (seven (List.drop 1 ks ++ [(kl.getD k 0)]))), .blk g2 #[(sliced (some ⟨gl, 0, none⟩) 1 (List.length ks) cl 1)] 55, .row (.slice (some ⟨gl, 0, none⟩) (List.length ks) cl) 3 1 (List.length ks) (List.map (Value.int .i64) ks), .blk g1 #[.bool false] 4] := H
            refine x_val (.int .i64 (kl.getD k 0)) (by kernel_rfl) rfl (by kernel_rfl) ?_
            refine x_box' H #[.int .i64 (kl.getD k 0)] 3 1 (by kernel_rfl) rfl (by kernel_rfl) ?_
            clear H
            intro v29 g8 H
            refine x_append H 1 (vr86) 55 3 1 8 (List.length (List.drop 1 ks)) (.int .i64 0) (List.map (Value.int .i64) (List.drop 1 ks)) ⟨g8, 0, none⟩ 1 1 [.int .i64 (kl.getD k 0)] rfl (by kernel_rfl) (by kernel_rfl) rfl (by decide) (by decide) rfl (fun j u hj => by rw [add_none]; exact cellOf (H.blk 0 rfl) (by simpa using hj)) (List.all_eq_true.1 (by kernel_rfl)) (by first | (unfold maxLen; omega) | (rw [List.length_drop]; unfold maxLen; omega)) (by first | omega | (rw [List.length_drop]; omega)) (by kernel_rfl) rfl (by kernel_rfl) ?_
            clear H
            intro v30 g9 c9 hc9 H
            rw [show (((List.length (List.drop 1 ks)) + 1) : Nat) = (List.length ((List.drop 1 ks) ++ [(kl.getD k 0)])) from (by simp)] at H ⊢
            rw [show (List.map (Value.int .i64) (List.drop 1 ks)) ++ [.int .i64 (kl.getD k 0)] = (List.map (Value.int .i64) ((List.drop 1 ks) ++ [(kl.getD k 0)])) from (by rw [List.map_append]; rfl)] at H
            replace H : Hs [] w0 v30 [.blk g8 #[.int .i64 (kl.getD k 0)] 3, .row (.slice (some ⟨g9, 0, none⟩) (List.length ((List.drop 1 ks) ++ [(kl.getD k 0)])) c9) 3 1 (List.length ((List.drop 1 ks) ++ [(kl.getD k 0)])) (List.map (Value.int .i64) ((List.drop 1 ks) ++ [(kl.getD k 0)])), .blk t #[svp, .int .i64 ((room : Nat) : Int), .func (.func 26) #[] #[]] 90, .row (svp) 92 2 (List.length (seven (List.drop 1 ks ++ [(kl.getD k 0)]))) (List.flatMap pairLI (seven (List.drop 1 ks ++ [(kl.getD k 0)]))), .blk g2 #[(sliced (some ⟨gl, 0, none⟩) 1 (List.length ks) cl 1)] 55, .row (.slice (some ⟨gl, 0, none⟩) (List.length ks) cl) 3 1 (List.length ks) (List.map (Value.int .i64) ks), .blk g1 #[.bool false] 4] := H
            replace H := H.pick [1, 2, 3, 4, 5, 6] [.row (.slice (some ⟨g9, 0, none⟩) (List.length ((List.drop 1 ks) ++ [(kl.getD k 0)])) c9) 3 1 (List.length ((List.drop 1 ks) ++ [(kl.getD k 0)])) (List.map (Value.int .i64) ((List.drop 1 ks) ++ [(kl.getD k 0)])), .blk t #[svp, .int .i64 ((room : Nat) : Int), .func (.func 26) #[] #[]] 90, .row (svp) 92 2 (List.length (seven (List.drop 1 ks ++ [(kl.getD k 0)]))) (List.flatMap pairLI (seven (List.drop 1 ks ++ [(kl.getD k 0)]))), .blk g2 #[(sliced (some ⟨gl, 0, none⟩) 1 (List.length ks) cl 1)] 55, .row (.slice (some ⟨gl, 0, none⟩) (List.length ks) cl) 3 1 (List.length ks) (List.map (Value.int .i64) ks), .blk g1 #[.bool false] 4] (by decide) (by kernel_rfl)
            refine x_store (t := 55) (v := .slice (some ⟨g9, 0, none⟩) (List.length ((List.drop 1 ks) ++ [(kl.getD k 0)])) c9) H 3 g2 0 #[(sliced (some ⟨gl, 0, none⟩) 1 (List.length ks) cl 1)] #[.slice (some ⟨g9, 0, none⟩) (List.length ((List.drop 1 ks) ++ [(kl.getD k 0)])) c9] 55 [.slice (some ⟨g9, 0, none⟩) (List.length ((List.drop 1 ks) ++ [(kl.getD k 0)])) c9] [.row (.slice (some ⟨g9, 0, none⟩) (List.length ((List.drop 1 ks) ++ [(kl.getD k 0)])) c9) 3 1 (List.length ((List.drop 1 ks) ++ [(kl.getD k 0)])) (List.map (Value.int .i64) ((List.drop 1 ks) ++ [(kl.getD k 0)])), .blk t #[svp, .int .i64 ((room : Nat) : Int), .func (.func 26) #[] #[]] 90, .row (svp) 92 2 (List.length (seven (List.drop 1 ks ++ [(kl.getD k 0)]))) (List.flatMap pairLI (seven (List.drop 1 ks ++ [(kl.getD k 0)]))), .blk g2 #[.slice (some ⟨g9, 0, none⟩) (List.length ((List.drop 1 ks) ++ [(kl.getD k 0)])) c9] 55, .row (.slice (some ⟨gl, 0, none⟩) (List.length ks) cl) 3 1 (List.length ks) (List.map (Value.int .i64) ks), .blk g1 #[.bool false] 4] (by kernel_rfl) rfl (by kernel_rfl) (by kernel_rfl) (by kernel_rfl) (by kernel_rfl) (by kernel_rfl) (by kernel_rfl) (by kernel_rfl) (by kernel_rfl) ?_
            clear H
            intro v31 H
            refine x_nil ?_
            refine x_then ?_
            refine x_seq ?_
            refine x_region_whole (fun w' => Hs [] w0 w' [.row (.slice (some ⟨g9, 0, none⟩) (List.length ((List.drop 1 ks) ++ [(kl.getD k 0)])) c9) 3 1 (List.length ((List.drop 1 ks) ++ [(kl.getD k 0)])) (List.map (Value.int .i64) ((List.drop 1 ks) ++ [(kl.getD k 0)])), .blk t #[svp, .int .i64 ((room : Nat) : Int), .func (.func 26) #[] #[]] 90, .row (svp) 92 2 (List.length (seven (List.drop 1 ks ++ [(kl.getD k 0)]))) (List.flatMap pairLI (seven (List.drop 1 ks ++ [(kl.getD k 0)]))), .blk g2 #[.slice (some ⟨g9, 0, none⟩) (List.length ((List.drop 1 ks) ++ [(kl.getD k 0)])) c9] 55, .row (.slice (some ⟨gl, 0, none⟩) (List.length ks) cl) 3 1 (List.length ks) (List.map (Value.int .i64) ks), .blk g1 #[.bool false] 4]) (by kernel_rfl) (by kernel_rfl) (by kernel_rfl) H.drew ?_
            refine q_val (.pointer (some ⟨t, 0, none⟩)) (by kernel_rfl) (fun _ => by kernel_rfl) ?_
            refine q_callR (.int .i64 (((List.length (List.drop 1 ks ++ [(kl.getD k 0)])) : Nat) : Int)) (by kernel_rfl) (fun _ => by kernel_rfl) (fun _ H => (by have q := TLenI _ (H.roOf [1, 2] [.blk t #[svp, .int .i64 ((room : Nat) : Int), .func (.func 26) #[] #[]] 90, .row (svp) 92 2 (List.length (seven (List.drop 1 ks ++ [(kl.getD k 0)]))) (List.flatMap pairLI (seven (List.drop 1 ks ++ [(kl.getD k 0)])))] (by kernel_rfl)); rw [seven_len] at q; exact q)) ?_
            refine q_load1 3 g2 0 #[.slice (some ⟨g9, 0, none⟩) (List.length ((List.drop 1 ks) ++ [(kl.getD k 0)])) c9] 55 (.slice (some ⟨g9, 0, none⟩) (List.length ((List.drop 1 ks) ++ [(kl.getD k 0)])) c9) (by kernel_rfl) (by kernel_rfl) (by kernel_rfl) (fun _ => by kernel_rfl) ?_
            refine q_val (.int .i64 (((List.length ((List.drop 1 ks) ++ [(kl.getD k 0)])) : Nat) : Int)) (by kernel_rfl) (fun _ => by kernel_rfl) ?_
            refine q_val (.bool (!(decide ((((List.length (List.drop 1 ks ++ [(kl.getD k 0)])) : Nat) : Int) = (((List.length ((List.drop 1 ks) ++ [(kl.getD k 0)])) : Nat) : Int))))) (by kernel_rfl) (fun _ => by kernel_rfl) ?_
            refine q_nil ?_
            clear H
            intro v32 H
            refine x_then ?_
            cases h10 : decide ((((List.length (List.drop 1 ks ++ [(kl.getD k 0)])) : Nat) : Int) = (((List.length ((List.drop 1 ks) ++ [(kl.getD k 0)])) : Nat) : Int))
            · skip
              have h10p := of_decide_eq_false h10
              refine x_t (by kernel_rfl) ?_
              refine x_seq ?_
              refine x_region ?_
              refine x_store (t := 4) (v := .bool false) H 5 g1 0 #[.bool false] #[.bool false] 4 [.bool false] [.row (.slice (some ⟨g9, 0, none⟩) (List.length ((List.drop 1 ks) ++ [(kl.getD k 0)])) c9) 3 1 (List.length ((List.drop 1 ks) ++ [(kl.getD k 0)])) (List.map (Value.int .i64) ((List.drop 1 ks) ++ [(kl.getD k 0)])), .blk t #[svp, .int .i64 ((room : Nat) : Int), .func (.func 26) #[] #[]] 90, .row (svp) 92 2 (List.length (seven (List.drop 1 ks ++ [(kl.getD k 0)]))) (List.flatMap pairLI (seven (List.drop 1 ks ++ [(kl.getD k 0)]))), .blk g2 #[.slice (some ⟨g9, 0, none⟩) (List.length ((List.drop 1 ks) ++ [(kl.getD k 0)])) c9] 55, .row (.slice (some ⟨gl, 0, none⟩) (List.length ks) cl) 3 1 (List.length ks) (List.map (Value.int .i64) ks), .blk g1 #[.bool false] 4] (by kernel_rfl) rfl (by kernel_rfl) (by kernel_rfl) (by kernel_rfl) (by kernel_rfl) (by kernel_rfl) (by kernel_rfl) (by kernel_rfl) (by kernel_rfl) ?_
              clear H
              intro v33 H
              refine x_nil ?_
              refine x_then ?_
              refine x_retc ?_
              refine x_blk_ret ?_
              refine x_then_ret ?_
              refine x_then_ret ?_
              refine x_blk_ret ?_
              refine x_then_ret ?_
              refine x_ret0 (.bool false) (by kernel_rfl) (x_rescell1 H 5 g1 0 #[.bool false] 4 (.bool false) (fun x => x) (by kernel_rfl) (by kernel_rfl) (by kernel_rfl)) ?_
              exfalso; omega
            · skip
              have h10p := of_decide_eq_true h10
              refine x_f (by kernel_rfl) ?_
              refine x_skipc ?_
              refine x_blk ?_
              refine x_then ?_
              refine x_region ?_
              refine x_ar (((k : Nat) : Int) + 1) ⟨by omega, by omega⟩ (by kernel_rfl) rfl (by kernel_rfl) ?_
              refine x_val (.int .i64 (((k : Nat) : Int) + 1)) (by kernel_rfl) rfl (by kernel_rfl) ?_
              refine x_nil ?_
              refine x_then ?_
              replace H := H.pick [1, 2, 3, 0, 5] [.blk t #[svp, .int .i64 ((room : Nat) : Int), .func (.func 26) #[] #[]] 90, .row (svp) 92 2 (List.length (seven (List.drop 1 ks ++ [(kl.getD k 0)]))) (List.flatMap pairLI (seven (List.drop 1 ks ++ [(kl.getD k 0)]))), .blk g2 #[.slice (some ⟨g9, 0, none⟩) (List.length ((List.drop 1 ks) ++ [(kl.getD k 0)])) c9] 55, .row (.slice (some ⟨g9, 0, none⟩) (List.length ((List.drop 1 ks) ++ [(kl.getD k 0)])) c9) 3 1 (List.length ((List.drop 1 ks) ++ [(kl.getD k 0)])) (List.map (Value.int .i64) ((List.drop 1 ks) ++ [(kl.getD k 0)])), .blk g1 #[.bool false] 4] (by decide) (by kernel_rfl)
              exact ⟨(k + 1, svp, .slice (some ⟨g9, 0, none⟩) (List.length ((List.drop 1 ks) ++ [(kl.getD k 0)])) c9, (List.drop 1 ks ++ [(kl.getD k 0)])), (by dsimp only; omega), (nthV [.int .i64 (kl.getD k 0), .int .i64 0, .bool false, .int .i64 (ks.getD 0 0), .bool true, .bool true, .pointer (some ⟨ga, oa + k, none⟩), .int .i64 (kl.getD k 0), .tuple #[.int .i64 0, .bool false], .pointer (some ⟨t, 0, none⟩), .int .i64 (kl.getD k 0), .tuple #[.int .i64 0, .bool false], .int .i64 0, .bool false, .tuple #[.int .i64 (ks.getD 0 0), .bool true], .pointer (some ⟨t, 0, none⟩), .int .i64 (kl.getD k 0), .tuple #[.int .i64 (ks.getD 0 0), .bool true], .int .i64 (ks.getD 0 0), .bool true, .bool true, .bool false, .bool true, .bool true, .slice (some ⟨gl, 0, none⟩) (List.length ks) cl, .int .i64 (((List.length ks) : Nat) : Int), .int .i64 ((room : Nat) : Int), .bool (decide ((((List.length ks) : Nat) : Int) = ((room : Nat) : Int))), .bool (decide ((((List.length ks) : Nat) : Int) = ((room : Nat) : Int))), .bool false, .bool false, .bool true, .bool true, .int .i64 (ks.getD 0 0), .slice (some ⟨gl, 0, none⟩) (List.length ks) cl, .pointer (some ⟨gl, 0, none⟩), .int .i64 (ks.getD 0 0), .bool false, .bool false, .bool false, .bool true, .slice (some ⟨gl, 0, none⟩) (List.length ks) cl, (sliced (some ⟨gl, 0, none⟩) 1 (List.length ks) cl 1), .bool false, .bool true, .slice (some ⟨g7, 0, none⟩) 0 0, (sliced (some ⟨gl, 0, none⟩) 1 (List.length ks) cl 1), vr86, .int .i64 (kl.getD k 0), .slice (some ⟨g8, 0, none⟩) 1 1, .slice (some ⟨g9, 0, none⟩) (List.length ((List.drop 1 ks) ++ [(kl.getD k 0)])) c9, .pointer (some ⟨t, 0, none⟩), .int .i64 (((List.length (List.drop 1 ks ++ [(kl.getD k 0)])) : Nat) : Int), .slice (some ⟨g9, 0, none⟩) (List.length ((List.drop 1 ks) ++ [(kl.getD k 0)])) c9, .int .i64 (((List.length ((List.drop 1 ks) ++ [(kl.getD k 0)])) : Nat) : Int), .bool false, .int .i64 (((k : Nat) : Int) + 1)]), (by kernel_rfl), H, (by omega), (by first | omega | (simp; omega))⟩
          · skip
            exact absurd h9 (by rw [h7]; decide)
      · skip
        have h6p := of_decide_eq_true h6
        refine x_callB (.tuple #[.int .i64 (((seven ks).getD (fkI (seven ks) (kl.getD k 0)) (0, 0)).2), .bool true]) H (by kernel_rfl) rfl (by kernel_rfl) (Get_yes (room := room) (kl.getD k 0) (by rw [seven_len]; omega) (of_decide_eq_true h6) _ (H.roOf [0, 1] [.blk t #[sv, .int .i64 ((room : Nat) : Int), .func (.func 26) #[] #[]] 90, .row (sv) 92 2 (List.length (seven ks)) (List.flatMap pairLI (seven ks))] (by kernel_rfl))) ?_
        clear H
        intro v34 H
        refine x_val (.tuple #[.int .i64 (((seven ks).getD (fkI (seven ks) (kl.getD k 0)) (0, 0)).2), .bool true]) (by kernel_rfl) rfl (by kernel_rfl) ?_
        refine x_val (.int .i64 (((seven ks).getD (fkI (seven ks) (kl.getD k 0)) (0, 0)).2)) (by kernel_rfl) rfl (by kernel_rfl) ?_
        refine x_val (.bool true) (by kernel_rfl) rfl (by kernel_rfl) ?_
        refine x_val (.int .i64 (((seven ks).getD (fkI (seven ks) (kl.getD k 0)) (0, 0)).2)) (by kernel_rfl) rfl (by kernel_rfl) ?_
        refine x_val (.bool true) (by kernel_rfl) rfl (by kernel_rfl) ?_
        refine x_nil ?_
        refine x_then ?_
        refine x_seq ?_
        refine x_region ?_
        refine x_val (.pointer (some ⟨t, 0, none⟩)) (by kernel_rfl) rfl (by kernel_rfl) ?_
        refine x_val (.int .i64 (kl.getD k 0)) (by kernel_rfl) rfl (by kernel_rfl) ?_
        refine x_call (by kernel_rfl) rfl (by kernel_rfl) (Hs.useE (A := [.blk t #[sv, .int .i64 ((room : Nat) : Int), .func (.func 26) #[] #[]] 90, .row (sv) 92 2 (List.length (seven ks)) (List.flatMap pairLI (seven ks))]) (R := [.blk g2 #[lv] 55, .row (lv) 3 1 (List.length ks) (List.map (Value.int .i64) ks), .blk g1 #[.bool false] 4]) (fun svp => [.blk t #[svp, .int .i64 ((room : Nat) : Int), .func (.func 26) #[] #[]] 90, .row (svp) 92 2 (List.length (seven ks)) (List.flatMap pairLI (seven ks))]) (fun _ => .tuple #[.int .i64 0, .bool false]) (H.pick [0, 1, 2, 3, 4] _ (by decide) (by kernel_rfl)) (fun h => (by have q := Put_I (kl.getD k 0) 7 (by rw [seven_len]; omega) (by rw [seven_len]; omega) (by omega) _ h; rw [put7_has (of_decide_eq_true h6)] at q; exact q))) ?_
        rintro _ v35 ⟨svp, rfl, H'⟩
        refine ⟨_, rfl, ?_⟩
        clear H
        have H : Hs [] w0 _ [.blk t #[svp, .int .i64 ((room : Nat) : Int), .func (.func 26) #[] #[]] 90, .row (svp) 92 2 (List.length (seven ks)) (List.flatMap pairLI (seven ks)), .blk g2 #[lv] 55, .row (lv) 3 1 (List.length ks) (List.map (Value.int .i64) ks), .blk g1 #[.bool false] 4] := H'
        clear H'
        refine x_val (.tuple #[.int .i64 0, .bool false]) (by kernel_rfl) rfl (by kernel_rfl) ?_
        refine x_val (.int .i64 0) (by kernel_rfl) rfl (by kernel_rfl) ?_
        refine x_val (.bool false) (by kernel_rfl) rfl (by kernel_rfl) ?_
        refine x_val (.int .i64 0) (by kernel_rfl) rfl (by kernel_rfl) ?_
        refine x_val (.bool false) (by kernel_rfl) rfl (by kernel_rfl) ?_
        refine x_nil ?_
        refine x_then ?_
        refine x_seq ?_
        refine x_seq ?_
        refine x_region ?_
        refine x_val (.bool false) (by kernel_rfl) rfl (by kernel_rfl) ?_
        refine x_val (.bool true) (by kernel_rfl) rfl (by kernel_rfl) ?_
        refine x_val (.bool false) (by kernel_rfl) rfl (by kernel_rfl) ?_
        refine x_val (.bool false) (by kernel_rfl) rfl (by kernel_rfl) ?_
        refine x_skip (by kernel_rfl) ?_
        refine x_skip (by kernel_rfl) ?_
        refine x_skip (by kernel_rfl) ?_
        refine x_skip (by kernel_rfl) ?_
        refine x_val (.bool false) (by kernel_rfl) rfl (by kernel_rfl) ?_
        refine x_val (.bool false) (by kernel_rfl) rfl (by kernel_rfl) ?_
        refine x_val (.bool false) (by kernel_rfl) rfl (by kernel_rfl) ?_
        refine x_val (.bool false) (by kernel_rfl) rfl (by kernel_rfl) ?_
        refine x_val (.bool false) (by kernel_rfl) rfl (by kernel_rfl) ?_
        refine x_skip (by kernel_rfl) ?_
        refine x_skip (by kernel_rfl) ?_
        refine x_skip (by kernel_rfl) ?_
        refine x_skip (by kernel_rfl) ?_
        refine x_skip (by kernel_rfl) ?_
        refine x_val (.bool false) (by kernel_rfl) rfl (by kernel_rfl) ?_
        refine x_val (.bool false) (by kernel_rfl) rfl (by kernel_rfl) ?_
        refine x_nil ?_
        refine x_frame' { tmps := #[.int .i64 ((room : Nat) : Int), .slice ad nA cA, undef, undef, .pointer (some ⟨g1, 0, none⟩), .pointer (some ⟨t, 0, none⟩), .int .i64 0, .pointer (some ⟨g2, 0, none⟩), undef, .int .i64 (kl.getD k 0), .int .i64 (((seven ks).getD (fkI (seven ks) (kl.getD k 0)) (0, 0)).2), .bool true, .int .i64 0, .bool false, undef, undef, .bool true, .bool false, .tuple #[.pointer (some ⟨t, 0, none⟩), .int .i64 0], .int .i64 ((room : Nat) : Int), .tuple #[.pointer (some ⟨t, 0, none⟩), .int .i64 0], .pointer (some ⟨t, 0, none⟩), .int .i64 0, .int .i64 0, .bool false, .bool false, .pointer (some ⟨t, 0, none⟩), .bool false, .bool false, .bool false, .slice ad nA cA, .int .i64 ((nA : Nat) : Int), .bool false, .bool false, undef, undef, undef, undef, undef, undef, undef, .slice ad nA cA, .int .i64 ((nA : Nat) : Int), .int .i64 ((k : Nat) : Int), .bool true, .pointer (some ⟨ga, oa + k, none⟩), .int .i64 (kl.getD k 0), .tuple #[.int .i64 (((seven ks).getD (fkI (seven ks) (kl.getD k 0)) (0, 0)).2), .bool true], .pointer (some ⟨t, 0, none⟩), .int .i64 (kl.getD k 0), .tuple #[.int .i64 (((seven ks).getD (fkI (seven ks) (kl.getD k 0)) (0, 0)).2), .bool true], .int .i64 (((seven ks).getD (fkI (seven ks) (kl.getD k 0)) (0, 0)).2), .bool true, .tuple #[.int .i64 0, .bool false], .pointer (some ⟨t, 0, none⟩), .int .i64 (kl.getD k 0), .tuple #[.int .i64 0, .bool false], .int .i64 0, .bool false, .bool false, .bool true, .bool false, .bool false, undef, undef, undef, undef, .bool false, .bool false, .bool false, .bool false, .bool false, undef, undef, undef, undef, undef, .bool false, .bool false, (uf1 40), (uf1 41), (uf1 42), (uf1 43), (uf1 44), (uf1 45), (uf1 46), (uf1 47), (uf1 48), (uf1 49), (uf1 50), (uf1 51), (uf1 52), (uf1 53), (uf1 54), (uf1 55), (uf1 56), undef, undef, undef, undef, undef, undef, undef, undef, undef, undef, undef, undef, undef, undef, undef, undef, undef, undef, undef, undef, undef, undef], defers := [] } (by kernel_rfl) ?_
        refine x_then ?_
        refine x_f (by kernel_rfl) ?_
        refine x_skipc ?_
        refine x_then ?_
        refine x_seq ?_
        refine x_seq ?_
        refine x_region ?_
        refine x_val (.bool false) (by kernel_rfl) rfl (by kernel_rfl) ?_
        refine x_nil ?_
        refine x_then ?_
        refine x_f (by kernel_rfl) ?_
        refine x_skipc ?_
        refine x_then ?_
        refine x_seq ?_
        refine x_seq ?_
        refine x_region ?_
        refine x_val (.bool true) (by kernel_rfl) rfl (by kernel_rfl) ?_
        refine x_val (.bool false) (by kernel_rfl) rfl (by kernel_rfl) ?_
        refine x_nil ?_
        refine x_then ?_
        refine x_f (by kernel_rfl) ?_
        refine x_skipc ?_
        refine x_then ?_
        refine x_seq ?_
        refine x_region_whole (fun w' => Hs [] w0 w' [.blk t #[svp, .int .i64 ((room : Nat) : Int), .func (.func 26) #[] #[]] 90, .row (svp) 92 2 (List.length (seven ks)) (List.flatMap pairLI (seven ks)), .blk g2 #[lv] 55, .row (lv) 3 1 (List.length ks) (List.map (Value.int .i64) ks), .blk g1 #[.bool false] 4]) (by kernel_rfl) (by kernel_rfl) (by kernel_rfl) H.drew ?_
        refine q_val (.pointer (some ⟨t, 0, none⟩)) (by kernel_rfl) (fun _ => by kernel_rfl) ?_
        refine q_callR (.int .i64 (((List.length ks) : Nat) : Int)) (by kernel_rfl) (fun _ => by kernel_rfl) (fun _ H => (by have q := TLenI _ (H.roOf [0, 1] [.blk t #[svp, .int .i64 ((room : Nat) : Int), .func (.func 26) #[] #[]] 90, .row (svp) 92 2 (List.length (seven ks)) (List.flatMap pairLI (seven ks))] (by kernel_rfl)); rw [seven_len] at q; exact q)) ?_
        refine q_load1 2 g2 0 #[lv] 55 (lv) (by kernel_rfl) (by kernel_rfl) (by kernel_rfl) (fun _ => by kernel_rfl) ?_
        refine q_lenR 3 lv 55 3 1 (List.length ks) (List.map (Value.int .i64) ks) rfl (by kernel_rfl) (by kernel_rfl) (fun _ => by kernel_rfl) ?_
        refine q_eq (.bool false) (show Value.bool (!decide ((((List.length ks) : Nat) : Int) = (((List.length ks) : Nat) : Int))) = Value.bool false by simp) (by kernel_rfl) (fun _ => by kernel_rfl) ?_
        refine q_nil ?_
        clear H
        intro v36 H
        refine x_then ?_
        refine x_f (by kernel_rfl) ?_
        refine x_skipc ?_
        refine x_blk ?_
        refine x_then ?_
        refine x_region ?_
        refine x_ar (((k : Nat) : Int) + 1) ⟨by omega, by omega⟩ (by kernel_rfl) rfl (by kernel_rfl) ?_
        refine x_val (.int .i64 (((k : Nat) : Int) + 1)) (by kernel_rfl) rfl (by kernel_rfl) ?_
        refine x_nil ?_
        refine x_then ?_
        replace H := H.pick [0, 1, 2, 3, 4] [.blk t #[svp, .int .i64 ((room : Nat) : Int), .func (.func 26) #[] #[]] 90, .row (svp) 92 2 (List.length (seven ks)) (List.flatMap pairLI (seven ks)), .blk g2 #[lv] 55, .row (lv) 3 1 (List.length ks) (List.map (Value.int .i64) ks), .blk g1 #[.bool false] 4] (by decide) (by kernel_rfl)
        exact ⟨(k + 1, svp, lv, ks), (by dsimp only; omega), (nthV [.int .i64 (kl.getD k 0), .int .i64 (((seven ks).getD (fkI (seven ks) (kl.getD k 0)) (0, 0)).2), .bool true, .int .i64 0, .bool false, .bool true, .pointer (some ⟨ga, oa + k, none⟩), .int .i64 (kl.getD k 0), .tuple #[.int .i64 (((seven ks).getD (fkI (seven ks) (kl.getD k 0)) (0, 0)).2), .bool true], .pointer (some ⟨t, 0, none⟩), .int .i64 (kl.getD k 0), .tuple #[.int .i64 (((seven ks).getD (fkI (seven ks) (kl.getD k 0)) (0, 0)).2), .bool true], .int .i64 (((seven ks).getD (fkI (seven ks) (kl.getD k 0)) (0, 0)).2), .bool true, .tuple #[.int .i64 0, .bool false], .pointer (some ⟨t, 0, none⟩), .int .i64 (kl.getD k 0), .tuple #[.int .i64 0, .bool false], .int .i64 0, .bool false, .bool false, .bool true, .bool false, .bool false, undef, undef, undef, undef, .bool false, .bool false, .bool false, .bool false, .bool false, undef, undef, undef, undef, undef, .bool false, .bool false, .bool false, (uf1 41), (uf1 42), .bool true, .bool false, (uf1 45), (uf1 46), (uf1 47), (uf1 48), (uf1 49), (uf1 50), .pointer (some ⟨t, 0, none⟩), .int .i64 (((List.length ks) : Nat) : Int), lv, .int .i64 (((List.length ks) : Nat) : Int), .bool false, .int .i64 (((k : Nat) : Int) + 1)]), (by kernel_rfl), H, (by omega), (by first | omega | (simp; omega))⟩
  · skip
    have h1p := of_decide_eq_true h1
    refine x_t (by kernel_rfl) ?_
    refine x_seq ?_
    refine x_region ?_
    refine x_val (.pointer (some ⟨t, 0, none⟩)) (by kernel_rfl) rfl (by kernel_rfl) ?_
    refine x_val (.bool false) (by kernel_rfl) rfl (by kernel_rfl) ?_
    refine x_val (.bool false) (by kernel_rfl) rfl (by kernel_rfl) ?_
    refine x_val (.slice ad nA cA) (by kernel_rfl) rfl (by kernel_rfl) ?_
    refine x_val (.int .i64 ((nA : Nat) : Int)) (by kernel_rfl) rfl (by kernel_rfl) ?_
    refine x_val (.bool (decide (400 < ((nA : Nat) : Int)))) (by kernel_rfl) rfl (by kernel_rfl) ?_
    refine x_val (.bool (decide (400 < ((nA : Nat) : Int)))) (by kernel_rfl) rfl (by kernel_rfl) ?_
    refine x_store (t := 4) (v := .bool (decide (400 < ((nA : Nat) : Int)))) H 2 g1 0 #[.bool false] #[.bool (decide (400 < ((nA : Nat) : Int)))] 4 [.bool (decide (400 < ((nA : Nat) : Int)))] [.blk t #[.slice none 0 0, .int .i64 ((room : Nat) : Int), .func (.func 26) #[] #[]] 90, .row (.slice none 0 0) 92 2 (List.length (seven ([] : List Int))) (List.flatMap pairLI (seven ([] : List Int))), .blk g1 #[.bool (decide (400 < ((nA : Nat) : Int)))] 4] (by kernel_rfl) rfl (by kernel_rfl) (by kernel_rfl) (by kernel_rfl) (by kernel_rfl) (by kernel_rfl) (by kernel_rfl) (by kernel_rfl) (by kernel_rfl) ?_
    clear H
    intro v37 H
    refine x_nil ?_
    refine x_then ?_
    refine x_retc ?_
    refine x_then_ret ?_
    refine x_ret0 (.bool (decide (400 < ((nA : Nat) : Int)))) (by kernel_rfl) (x_rescell1 H 2 g1 0 #[.bool (decide (400 < ((nA : Nat) : Int)))] 4 (.bool (decide (400 < ((nA : Nat) : Int)))) (fun x => x) (by kernel_rfl) (by kernel_rfl) (by kernel_rfl)) ?_
    exact ⟨by rw [h1], H.below⟩

end Go.Proofs.Ytpeefnbcgilihaa
