/- The document's tracker: Drop, Note, Reset at any arguments; what a step leaves. -/
import Derived.Test.YtgpalgbdacoagaaTrkJ
import Derived.Test.YtgpalgbdacoagaaTrkL
import Derived.Test.YtgpalgbdacoagaaRat
namespace Go.Proofs.Ytgpalgbdacoagaa
open Go Go.RowKit
set_option linter.unusedVariables false
set_option linter.unusedSimpArgs false

set_option maxRecDepth 100000 in
set_option maxHeartbeats 4000000 in
theorem DDropM_n {rL rE pL pE : Int} {room : Nat} {rs : List Buk} {xs : List PairB} {rv : Value} (hn : xs.length ≤ 4096) (h0 : xs = []) (w0 : World) (hR : Ro w0 [.row (rv) 119 4 (List.length rs) (List.flatMap (dbL rL rE) rs), .row (.slice none 0 0) 206 5 (List.length xs) (List.flatMap (dpL pL pE) xs)]) :
    Calls Try.prog 122 #[.agg #[rv, .slice none 0 0, .int .i64 pL, .int .i64 pE, .int .i64 0, .int .i64 0, .int .i64 ((room : Nat) : Int)], .int .i64 (-1)] w0 fun e w' => ∃ u, e = .returned (.agg #[rv, u, .int .i64 pL, .int .i64 pE, .int .i64 0, .int .i64 0, .int .i64 ((room : Nat) : Int)]) ∧ Hs [] w0 w' [.row (u) 206 5 (List.length xs) (List.flatMap (dpL pL pE) xs)] := by
  refine x_enter Try.func122 rfl #[.agg #[rv, .slice none 0 0, .int .i64 pL, .int .i64 pE, .int .i64 0, .int .i64 0, .int .i64 ((room : Nat) : Int)], .int .i64 (-1), undef, undef, undef, undef, undef, undef, undef, undef, undef, undef, undef, undef, undef, undef, undef, undef, undef, undef, undef, undef, undef, undef, undef, undef, undef, undef] (by kernel_rfl) ?_
  have H := Hs.nil w0
  have R0 := hR
  refine x_seq ?_
  refine x_region ?_
  refine x_box H #[rv, .slice none 0 0, .int .i64 pL, .int .i64 pE, .int .i64 0, .int .i64 0, .int .i64 ((room : Nat) : Int)] 124 (by kernel_rfl) rfl (by kernel_rfl) ?_
  clear H
  intro v1 g1 H
  refine x_box H #[.slice none 0 0, .slice none 0 0, .int .i64 0, .int .i64 0, .int .i64 0, .int .i64 0, .int .i64 0] 124 (by kernel_rfl) rfl (by kernel_rfl) ?_
  clear H
  intro v2 g2 H
  refine x_nil ?_
  refine x_then ?_
  refine x_seq ?_
  refine x_region ?_
  refine x_val (.slice none 0 0) (by kernel_rfl) rfl (by kernel_rfl) ?_
  refine x_nil ?_
  refine x_then ?_
  refine x_seq ?_
  refine x_seq ?_
  refine x_region ?_
  refine x_val (.int .i64 0) (by kernel_rfl) rfl (by kernel_rfl) ?_
  refine x_nil ?_
  refine x_then ?_
  refine x_block ?_
  replace H := H.nilRow 206 5
  refine x_loop (G := Unit) (fun (_ : Unit) a w' => ∃ uf1 : Nat → Value, a = { tmps := #[.agg #[rv, .slice none 0 0, .int .i64 pL, .int .i64 pE, .int .i64 0, .int .i64 0, .int .i64 ((room : Nat) : Int)], .int .i64 (-1), .pointer (some ⟨g1, 0, none⟩), undef, .pointer (some ⟨g2, 0, none⟩), .slice none 0 0, .int .i64 0, (uf1 0), (uf1 1), (uf1 2), (uf1 3), (uf1 4), (uf1 5), (uf1 6), (uf1 7), (uf1 8), (uf1 9), (uf1 10), (uf1 11), (uf1 12), (uf1 13), (uf1 14), (uf1 15), (uf1 16), (uf1 17), undef, undef, undef], defers := [] } ∧ Hs [] w0 w' [.row (.slice none 0 0) 206 5 (List.length ([] : List PairB)) (List.flatMap (dpL pL pE) ([] : List PairB)), .blk g2 #[.slice none 0 0, .slice none 0 0, .int .i64 0, .int .i64 0, .int .i64 0, .int .i64 0, .int .i64 0] 124, .blk g1 #[rv, .slice none 0 0, .int .i64 pL, .int .i64 pE, .int .i64 0, .int .i64 0, .int .i64 ((room : Nat) : Int)] 124]) (fun _ => 0) () ⟨(nthV [undef, undef, undef, undef, undef, undef, undef, undef, undef, undef, undef, undef, undef, undef, undef, undef, undef, undef]), (by kernel_rfl), H⟩ ?_
  clear H
  rintro _ _ v3 ⟨uf1, rfl, H⟩
  refine x_seq ?_
  refine x_seq ?_
  refine x_region ?_
  refine x_val (.int .i64 0) (by kernel_rfl) rfl (by kernel_rfl) ?_
  refine x_val (.pointer (some ⟨g1, 1, none⟩)) (by kernel_rfl) rfl (by kernel_rfl) ?_
  refine x_load1 H 2 g1 1 _ _ (.slice none 0 0) rfl (by kernel_rfl) (by kernel_rfl) rfl (by kernel_rfl) ?_
  refine x_val (.int .i64 0) (by kernel_rfl) rfl (by kernel_rfl) ?_
  refine x_val (.bool false) (by kernel_rfl) rfl (by kernel_rfl) ?_
  refine x_nil ?_
  refine x_then ?_
  refine x_f (by kernel_rfl) ?_
  refine x_exit ?_
  refine x_then_exit ?_
  refine x_then_exit ?_
  refine x_blk_exit ?_
  refine x_then ?_
  refine x_seq ?_
  refine x_region ?_
  refine x_val (.slice none 0 0) (by kernel_rfl) rfl (by kernel_rfl) ?_
  refine x_val (.pointer (some ⟨g1, 1, none⟩)) (by kernel_rfl) rfl (by kernel_rfl) ?_
  refine x_store (t := 122) (v := .slice none 0 0) H 2 g1 1 _ #[rv, .slice none 0 0, .int .i64 pL, .int .i64 pE, .int .i64 0, .int .i64 0, .int .i64 ((room : Nat) : Int)] 124 [.slice none 0 0] _ rfl rfl (by kernel_rfl) (by kernel_rfl) (by kernel_rfl) rfl (by kernel_rfl) (by kernel_rfl) (by kernel_rfl) (by kernel_rfl) ?_
  clear H
  intro v4 H
  refine x_nil ?_
  refine x_then ?_
  refine x_seq ?_
  refine x_region ?_
  refine x_loadn (t := 124) H 2 g1 0 _ _ [rv, .slice none 0 0, .int .i64 pL, .int .i64 pE, .int .i64 0, .int .i64 0, .int .i64 ((room : Nat) : Int)] rfl (by kernel_rfl) (by kernel_rfl) rfl (by kernel_rfl) (by kernel_rfl) ?_
  have h1o := (H.ro R0).rowOne 0 rfl
  refine x_store (t := 124) (v := .agg #[rv, .slice none 0 0, .int .i64 pL, .int .i64 pE, .int .i64 0, .int .i64 0, .int .i64 ((room : Nat) : Int)]) H 1 g2 0 _ #[rv, .slice none 0 0, .int .i64 pL, .int .i64 pE, .int .i64 0, .int .i64 0, .int .i64 ((room : Nat) : Int)] 124 [rv, .slice none 0 0, .int .i64 pL, .int .i64 pE, .int .i64 0, .int .i64 0, .int .i64 ((room : Nat) : Int)] _ rfl rfl (by kernel_rfl) (by simp only [List.all_cons, List.all_nil, h1o, Bool.and_true, Bool.true_and] <;> rfl) (by kernel_rfl) rfl (by kernel_rfl) (by kernel_rfl) (by kernel_rfl) (by kernel_rfl) ?_
  clear H
  intro v5 H
  refine x_nil ?_
  refine x_then ?_
  refine x_retc ?_
  refine x_ret (.agg #[rv, .slice none 0 0, .int .i64 pL, .int .i64 pE, .int .i64 0, .int .i64 0, .int .i64 ((room : Nat) : Int)]) (by kernel_rfl) (x_rescell H 1 g2 0 #[rv, .slice none 0 0, .int .i64 pL, .int .i64 pE, .int .i64 0, .int .i64 0, .int .i64 ((room : Nat) : Int)] 124 [rv, .slice none 0 0, .int .i64 pL, .int .i64 pE, .int .i64 0, .int .i64 0, .int .i64 ((room : Nat) : Int)] (fun x => x) (by kernel_rfl) (by kernel_rfl) (by kernel_rfl)) ?_
  subst h0
  exact ⟨_, rfl, H.pick [0] _ (by decide) (by kernel_rfl)⟩

set_option maxRecDepth 100000 in
set_option maxHeartbeats 4000000 in
theorem DDropM_s {rL rE pL pE : Int} {room : Nat} {rs : List Buk} {xs : List PairB} {rv : Value} {g cap : Nat} (hn : xs.length ≤ 4096) (w0 : World) (hR : Ro w0 [.row (rv) 119 4 (List.length rs) (List.flatMap (dbL rL rE) rs), .row (.slice (some ⟨g, 0, none⟩) (List.length xs) cap) 206 5 (List.length xs) (List.flatMap (dpL pL pE) xs)]) :
    Calls Try.prog 122 #[.agg #[rv, .slice (some ⟨g, 0, none⟩) (List.length xs) cap, .int .i64 pL, .int .i64 pE, .int .i64 0, .int .i64 0, .int .i64 ((room : Nat) : Int)], .int .i64 (-1)] w0 fun e w' => ∃ u, e = .returned (.agg #[rv, u, .int .i64 pL, .int .i64 pE, .int .i64 0, .int .i64 0, .int .i64 ((room : Nat) : Int)]) ∧ Hs [] w0 w' [.row (u) 206 5 (List.length xs) (List.flatMap (dpL pL pE) xs)] := by
  refine x_enter Try.func122 rfl #[.agg #[rv, .slice (some ⟨g, 0, none⟩) (List.length xs) cap, .int .i64 pL, .int .i64 pE, .int .i64 0, .int .i64 0, .int .i64 ((room : Nat) : Int)], .int .i64 (-1), undef, undef, undef, undef, undef, undef, undef, undef, undef, undef, undef, undef, undef, undef, undef, undef, undef, undef, undef, undef, undef, undef, undef, undef, undef, undef] (by kernel_rfl) ?_
  have H := Hs.nil w0
  have R0 := hR
  refine x_seq ?_
  refine x_region ?_
  refine x_box H #[rv, .slice (some ⟨g, 0, none⟩) (List.length xs) cap, .int .i64 pL, .int .i64 pE, .int .i64 0, .int .i64 0, .int .i64 ((room : Nat) : Int)] 124 (by kernel_rfl) rfl (by kernel_rfl) ?_
  clear H
  intro v1 g1 H
  refine x_box H #[.slice none 0 0, .slice none 0 0, .int .i64 0, .int .i64 0, .int .i64 0, .int .i64 0, .int .i64 0] 124 (by kernel_rfl) rfl (by kernel_rfl) ?_
  clear H
  intro v2 g2 H
  refine x_nil ?_
  refine x_then ?_
  refine x_seq ?_
  refine x_region ?_
  refine x_val (.slice none 0 0) (by kernel_rfl) rfl (by kernel_rfl) ?_
  refine x_nil ?_
  refine x_then ?_
  refine x_seq ?_
  refine x_seq ?_
  refine x_region ?_
  refine x_val (.int .i64 0) (by kernel_rfl) rfl (by kernel_rfl) ?_
  refine x_nil ?_
  refine x_then ?_
  refine x_block ?_
  replace H := H.nilRow 206 5
  refine x_loop (G := Nat × Value) (fun gh a w' => match gh with | (k, ov) => ∃ uf1 : Nat → Value, a = { tmps := #[.agg #[rv, .slice (some ⟨g, 0, none⟩) (List.length xs) cap, .int .i64 pL, .int .i64 pE, .int .i64 0, .int .i64 0, .int .i64 ((room : Nat) : Int)], .int .i64 (-1), .pointer (some ⟨g1, 0, none⟩), undef, .pointer (some ⟨g2, 0, none⟩), ov, .int .i64 ((k : Nat) : Int), (uf1 0), (uf1 1), (uf1 2), (uf1 3), (uf1 4), (uf1 5), (uf1 6), (uf1 7), (uf1 8), (uf1 9), (uf1 10), (uf1 11), (uf1 12), (uf1 13), (uf1 14), (uf1 15), (uf1 16), (uf1 17), undef, undef, undef], defers := [] } ∧ Hs [] w0 w' [.row (ov) 206 5 (List.length (List.take k xs)) (List.flatMap (dpL pL pE) (List.take k xs)), .blk g2 #[.slice none 0 0, .slice none 0 0, .int .i64 0, .int .i64 0, .int .i64 0, .int .i64 0, .int .i64 0] 124, .blk g1 #[rv, .slice (some ⟨g, 0, none⟩) (List.length xs) cap, .int .i64 pL, .int .i64 pE, .int .i64 0, .int .i64 0, .int .i64 ((room : Nat) : Int)] 124] ∧ (k ≤ xs.length)) (fun gh => match gh with | (k, ov) => xs.length - k) (0, .slice none 0 0) ⟨(nthV [undef, undef, undef, undef, undef, undef, undef, undef, undef, undef, undef, undef, undef, undef, undef, undef, undef, undef]), (by kernel_rfl), H, (Nat.zero_le _)⟩ ?_
  clear H
  rintro ⟨k, ov⟩ _ v3 ⟨uf1, rfl, H, r1⟩
  refine x_seq ?_
  refine x_seq ?_
  refine x_region ?_
  refine x_val (.int .i64 ((k : Nat) : Int)) (by kernel_rfl) rfl (by kernel_rfl) ?_
  refine x_val (.pointer (some ⟨g1, 1, none⟩)) (by kernel_rfl) rfl (by kernel_rfl) ?_
  refine x_load1 H 2 g1 1 _ _ (.slice (some ⟨g, 0, none⟩) (List.length xs) cap) rfl (by kernel_rfl) (by kernel_rfl) rfl (by kernel_rfl) ?_
  refine x_val (.int .i64 (((List.length xs) : Nat) : Int)) (by kernel_rfl) rfl (by kernel_rfl) ?_
  refine x_val (.bool (decide (((k : Nat) : Int) < (((List.length xs) : Nat) : Int)))) (by kernel_rfl) rfl (by kernel_rfl) ?_
  refine x_nil ?_
  refine x_then ?_
  cases h1 : decide (((k : Nat) : Int) < (((List.length xs) : Nat) : Int))
  · skip
    have h1p := of_decide_eq_false h1
    refine x_f (by kernel_rfl) ?_
    refine x_exit ?_
    refine x_then_exit ?_
    refine x_then_exit ?_
    refine x_blk_exit ?_
    refine x_then ?_
    refine x_seq ?_
    refine x_region ?_
    refine x_val (ov) (by kernel_rfl) rfl (by kernel_rfl) ?_
    refine x_val (.pointer (some ⟨g1, 1, none⟩)) (by kernel_rfl) rfl (by kernel_rfl) ?_
    have h2o := H.rowOne 0 rfl
    have h2c := H.rowCel 0 rfl
    refine x_store (t := 122) (v := ov) H 2 g1 1 _ #[rv, ov, .int .i64 pL, .int .i64 pE, .int .i64 0, .int .i64 0, .int .i64 ((room : Nat) : Int)] 124 [ov] _ rfl rfl (by kernel_rfl) (by simp only [List.all_cons, List.all_nil, h2o, Bool.and_true, Bool.true_and] <;> rfl) (by kernel_rfl) rfl (by kernel_rfl) (by kernel_rfl) (by kernel_rfl) (by rw [h2c]) ?_
    clear H
    intro v4 H
    refine x_nil ?_
    refine x_then ?_
    refine x_seq ?_
    refine x_region ?_
    refine x_loadn (t := 124) H 2 g1 0 _ _ [rv, ov, .int .i64 pL, .int .i64 pE, .int .i64 0, .int .i64 0, .int .i64 ((room : Nat) : Int)] rfl (by kernel_rfl) (by kernel_rfl) rfl (by kernel_rfl) (by kernel_rfl) ?_
    have h3o := (H.ro R0).rowOne 0 rfl
    have h4o := H.rowOne 0 rfl
    refine x_store (t := 124) (v := .agg #[rv, ov, .int .i64 pL, .int .i64 pE, .int .i64 0, .int .i64 0, .int .i64 ((room : Nat) : Int)]) H 1 g2 0 _ #[rv, ov, .int .i64 pL, .int .i64 pE, .int .i64 0, .int .i64 0, .int .i64 ((room : Nat) : Int)] 124 [rv, ov, .int .i64 pL, .int .i64 pE, .int .i64 0, .int .i64 0, .int .i64 ((room : Nat) : Int)] _ rfl rfl (by kernel_rfl) (by simp only [List.all_cons, List.all_nil, h3o, h4o, Bool.and_true, Bool.true_and] <;> rfl) (by kernel_rfl) rfl (by kernel_rfl) (by kernel_rfl) (by kernel_rfl) (by kernel_rfl) ?_
    clear H
    intro v5 H
    refine x_nil ?_
    refine x_then ?_
    refine x_retc ?_
    refine x_ret (.agg #[rv, ov, .int .i64 pL, .int .i64 pE, .int .i64 0, .int .i64 0, .int .i64 ((room : Nat) : Int)]) (by kernel_rfl) (x_rescell H 1 g2 0 #[rv, ov, .int .i64 pL, .int .i64 pE, .int .i64 0, .int .i64 0, .int .i64 ((room : Nat) : Int)] 124 [rv, ov, .int .i64 pL, .int .i64 pE, .int .i64 0, .int .i64 0, .int .i64 ((room : Nat) : Int)] (fun x => x) (by kernel_rfl) (by kernel_rfl) (by kernel_rfl)) ?_
    have hk : k = xs.length := by omega
    rw [hk, List.take_length] at H
    exact ⟨_, rfl, H.pick [0] _ (by decide) (by kernel_rfl)⟩
  · skip
    have h1p := of_decide_eq_true h1
    refine x_t (by kernel_rfl) ?_
    refine x_skipc ?_
    refine x_then ?_
    refine x_seq ?_
    refine x_block ?_
    refine x_seq ?_
    refine x_region ?_
    refine x_val (.int .i64 ((k : Nat) : Int)) (by kernel_rfl) rfl (by kernel_rfl) ?_
    refine x_val (.int .i64 (-1)) (by kernel_rfl) rfl (by kernel_rfl) ?_
    refine x_val (.bool (!(decide (((k : Nat) : Int) = (-1))))) (by kernel_rfl) rfl (by kernel_rfl) ?_
    refine x_nil ?_
    refine x_then ?_
    cases h5 : decide (((k : Nat) : Int) = (-1))
    · skip
      have h5p := of_decide_eq_false h5
      refine x_t (by kernel_rfl) ?_
      refine x_region ?_
      refine x_val (ov) (by kernel_rfl) rfl (by kernel_rfl) ?_
      refine x_val (.pointer (some ⟨g1, 1, none⟩)) (by kernel_rfl) rfl (by kernel_rfl) ?_
      refine x_load1 H 2 g1 1 _ _ (.slice (some ⟨g, 0, none⟩) (List.length xs) cap) rfl (by kernel_rfl) (by kernel_rfl) rfl (by kernel_rfl) ?_
      refine x_val (.int .i64 ((k : Nat) : Int)) (by kernel_rfl) rfl (by kernel_rfl) ?_
      refine x_ix (t := 122) g 0 k (List.length xs) cap 206 5 (k * 5) (by omega) (by omega) (by kernel_rfl) (by kernel_rfl) (by kernel_rfl) rfl (by kernel_rfl) ?_
      refine x_loadcn (t := 206) g (k * 5) [.int .i64 ((xs.getD k (0, 0, 0)).1), .int .i64 pL, .int .i64 pE, .int .i64 ((xs.getD k (0, 0, 0)).2.1), .int .i64 ((xs.getD k (0, 0, 0)).2.2)] ((H.ro R0).rowCells 1 rfl (k * 5) (flatAt (dpLen pL pE) (0, 0, 0) _ (by omega))) (by kernel_rfl) rfl (by kernel_rfl) (by kernel_rfl) ?_
      refine x_box' H #[.int .i64 ((xs.getD k (0, 0, 0)).1), .int .i64 pL, .int .i64 pE, .int .i64 ((xs.getD k (0, 0, 0)).2.1), .int .i64 ((xs.getD k (0, 0, 0)).2.2)] 206 1 (by kernel_rfl) rfl (by kernel_rfl) ?_
      clear H
      intro v6 g3 H
      refine x_append H 1 (ov) 122 206 5 40 (List.length (List.take k xs)) (.agg #[.int .i64 0, .int .i64 0, .int .i64 0, .int .i64 0, .int .i64 0]) (List.flatMap (dpL pL pE) (List.take k xs)) ⟨g3, 0, none⟩ 1 1 [.int .i64 ((xs.getD k (0, 0, 0)).1), .int .i64 pL, .int .i64 pE, .int .i64 ((xs.getD k (0, 0, 0)).2.1), .int .i64 ((xs.getD k (0, 0, 0)).2.2)] rfl (by kernel_rfl) (by kernel_rfl) rfl (by decide) (by decide) rfl (fun j u hj => by rw [add_none]; exact cellOf (H.blk 0 rfl) (by simpa using hj)) (List.all_eq_true.1 (by kernel_rfl)) (by have := List.length_take_le k xs; unfold maxLen; omega) (by have := List.length_take_le k xs; omega) (by kernel_rfl) rfl (by kernel_rfl) ?_
      clear H
      intro v7 g4 c4 hc4 H
      rw [show (((List.length (List.take k xs)) + 1) : Nat) = (List.length (List.take (k + 1) xs)) from (by rw [takeNext (0, 0, 0) xs k (by omega), List.length_append]; rfl)] at H ⊢
      rw [show (List.flatMap (dpL pL pE) (List.take k xs)) ++ [.int .i64 ((xs.getD k (0, 0, 0)).1), .int .i64 pL, .int .i64 pE, .int .i64 ((xs.getD k (0, 0, 0)).2.1), .int .i64 ((xs.getD k (0, 0, 0)).2.2)] = (List.flatMap (dpL pL pE) (List.take (k + 1) xs)) from (by rw [takeNext (0, 0, 0) xs k (by omega), List.flatMap_append]; rfl)] at H
      replace H : Hs [] w0 v7 [.blk g3 #[.int .i64 ((xs.getD k (0, 0, 0)).1), .int .i64 pL, .int .i64 pE, .int .i64 ((xs.getD k (0, 0, 0)).2.1), .int .i64 ((xs.getD k (0, 0, 0)).2.2)] 206, .row (.slice (some ⟨g4, 0, none⟩) (List.length (List.take (k + 1) xs)) c4) 206 5 (List.length (List.take (k + 1) xs)) (List.flatMap (dpL pL pE) (List.take (k + 1) xs)), .blk g2 #[.slice none 0 0, .slice none 0 0, .int .i64 0, .int .i64 0, .int .i64 0, .int .i64 0, .int .i64 0] 124, .blk g1 #[rv, .slice (some ⟨g, 0, none⟩) (List.length xs) cap, .int .i64 pL, .int .i64 pE, .int .i64 0, .int .i64 0, .int .i64 ((room : Nat) : Int)] 124] := H
      replace H := H.pick [1, 2, 3] [.row (.slice (some ⟨g4, 0, none⟩) (List.length (List.take (k + 1) xs)) c4) 206 5 (List.length (List.take (k + 1) xs)) (List.flatMap (dpL pL pE) (List.take (k + 1) xs)), .blk g2 #[.slice none 0 0, .slice none 0 0, .int .i64 0, .int .i64 0, .int .i64 0, .int .i64 0, .int .i64 0] 124, .blk g1 #[rv, .slice (some ⟨g, 0, none⟩) (List.length xs) cap, .int .i64 pL, .int .i64 pE, .int .i64 0, .int .i64 0, .int .i64 ((room : Nat) : Int)] 124] (by decide) (by kernel_rfl)
      refine x_val (.slice (some ⟨g4, 0, none⟩) (List.length (List.take (k + 1) xs)) c4) (by kernel_rfl) rfl (by kernel_rfl) ?_
      refine x_nil ?_
      refine x_blk ?_
      refine x_then ?_
      refine x_region ?_
      refine x_val (.int .i64 ((k : Nat) : Int)) (by kernel_rfl) rfl (by kernel_rfl) ?_
      refine x_ar (((k : Nat) : Int) + 1) ⟨by omega, by omega⟩ (by kernel_rfl) rfl (by kernel_rfl) ?_
      refine x_val (.int .i64 (((k : Nat) : Int) + 1)) (by kernel_rfl) rfl (by kernel_rfl) ?_
      refine x_nil ?_
      refine x_then ?_
      replace H := H.pick [0, 1, 2] [.row (.slice (some ⟨g4, 0, none⟩) (List.length (List.take (k + 1) xs)) c4) 206 5 (List.length (List.take (k + 1) xs)) (List.flatMap (dpL pL pE) (List.take (k + 1) xs)), .blk g2 #[.slice none 0 0, .slice none 0 0, .int .i64 0, .int .i64 0, .int .i64 0, .int .i64 0, .int .i64 0] 124, .blk g1 #[rv, .slice (some ⟨g, 0, none⟩) (List.length xs) cap, .int .i64 pL, .int .i64 pE, .int .i64 0, .int .i64 0, .int .i64 ((room : Nat) : Int)] 124] (by decide) (by kernel_rfl)
      exact ⟨(k + 1, .slice (some ⟨g4, 0, none⟩) (List.length (List.take (k + 1) xs)) c4), (by dsimp only; omega), (nthV [.int .i64 ((k : Nat) : Int), .pointer (some ⟨g1, 1, none⟩), .slice (some ⟨g, 0, none⟩) (List.length xs) cap, .int .i64 (((List.length xs) : Nat) : Int), .bool true, .int .i64 ((k : Nat) : Int), .int .i64 (((k : Nat) : Int) + 1), .int .i64 ((k : Nat) : Int), .int .i64 (-1), .bool true, ov, .pointer (some ⟨g1, 1, none⟩), .slice (some ⟨g, 0, none⟩) (List.length xs) cap, .int .i64 ((k : Nat) : Int), .pointer (some ⟨g, k * 5, none⟩), .agg #[.int .i64 ((xs.getD k (0, 0, 0)).1), .int .i64 pL, .int .i64 pE, .int .i64 ((xs.getD k (0, 0, 0)).2.1), .int .i64 ((xs.getD k (0, 0, 0)).2.2)], .slice (some ⟨g3, 0, none⟩) 1 1, .slice (some ⟨g4, 0, none⟩) (List.length (List.take (k + 1) xs)) c4]), (by kernel_rfl), H, (by omega)⟩
    · skip
      have h5p := of_decide_eq_true h5
      exact absurd h5p (by omega)

theorem DDropI {rL rE pL pE : Int} {room : Nat} {rs : List Buk} {xs : List PairB} {rv pv : Value} (page : Int) (hn : xs.length ≤ 4096) (w0 : World) (hR : Ro w0 [.row (rv) 119 4 (List.length rs) (List.flatMap (dbL rL rE) rs), .row (pv) 206 5 (List.length xs) (List.flatMap (dpL pL pE) xs)]) : Calls Try.prog 122 #[.agg #[rv, pv, .int .i64 pL, .int .i64 pE, .int .i64 0, .int .i64 0, .int .i64 ((room : Nat) : Int)], .int .i64 (findB xs page)] w0 fun e w' => ∃ u, e = .returned (.agg #[rv, u, .int .i64 pL, .int .i64 pE, .int .i64 0, .int .i64 0, .int .i64 ((room : Nat) : Int)]) ∧ Hs [] w0 w' [.row (u) 206 5 (List.length (dropB xs page)) (List.flatMap (dpL pL pE) (dropB xs page))] := by
  unfold dropB findB
  by_cases hq : fkB xs page < xs.length
  · rw [if_pos hq, if_pos hq]; exact DDrop xs _ hq hn w0 hR
  · rw [if_neg hq, if_neg hq]
    rcases rowForm (hR 1 _ rfl : w0.ownsRow 0 _ 5 pv _ _) with ⟨rfl, h0⟩ | ⟨g, cap, rfl, hcp, _⟩
    · exact DDropM_n hn (List.length_eq_zero_iff.1 h0) w0 hR
    · exact DDropM_s hn w0 hR
theorem nOk_at {ranks : Nat} {r n : Int} (h : nOk ranks r n = true) : (0 ≤ r ∧ r < ((ranks : Nat) : Int)) ∧ 0 ≤ n := of_decide_eq_true h
theorem DNoteI {rL rE pL pE : Int} {room : Nat} {rs : List Buk} {xs : List PairB} {rv pv : Value} {ranks : Nat} (r page n : Int) (hk : TOk ranks room rE pE rs xs) (hP : TP ranks room rL rE pL pE) (h : nOk ranks r n = true) (w0 : World) (hR : Ro w0 [.row (rv) 119 4 (List.length rs) (List.flatMap (dbL rL rE) rs), .row (pv) 206 5 (List.length xs) (List.flatMap (dpL pL pE) xs)]) : Calls Try.prog 118 #[.agg #[rv, pv, .int .i64 pL, .int .i64 pE, .int .i64 0, .int .i64 0, .int .i64 ((room : Nat) : Int)], .int .i64 r, .int .i64 page, .int .i64 n] w0 fun e w' => ∃ u1 u2, e = .returned (.tuple #[.agg #[u1, u2, .int .i64 pL, .int .i64 pE, .int .i64 0, .int .i64 0, .int .i64 ((room : Nat) : Int)], .bool (nC1 rL ranks rs r n), .bool (nC2 pL ranks xs r page n)]) ∧ Hs [] w0 w' [.row (u1) 119 4 (List.length (nRs ranks rs r n)) (List.flatMap (dbL rL rE) (nRs ranks rs r n)), .row (u2) 206 5 (List.length (nXs ranks room xs r page n)) (List.flatMap (dpL pL pE) (nXs ranks room xs r page n))] := by
  have h' := nOk_at h
  unfold nC1 nC2 nRs nXs
  obtain ⟨i, rfl⟩ := Int.eq_ofNat_of_zero_le h'.1.1
  rw [if_pos h, if_pos h, h, Bool.true_and, Bool.true_and]
  have hkn := hk.n
  have hm := hP.m
  have hkm := hk.m
  exact DNote i page n (by omega) (by omega) hP.r.2.2.1 hP.p.2.2.1 hk.b hk.c h'.2 (by omega) hk.m hP.one.1 w0 hR
theorem DResetI {rL rE pL pE : Int} {room : Nat} {rs : List Buk} {xs : List PairB} {rv pv : Value} {ranks : Nat} (r : Int) (hk : TOk ranks room rE pE rs xs) (hP : TP ranks room rL rE pL pE) (h : 0 ≤ r ∧ r < ((ranks : Nat) : Int)) (w0 : World) (hR : Ro w0 [.row (rv) 119 4 (List.length rs) (List.flatMap (dbL rL rE) rs), .row (pv) 206 5 (List.length xs) (List.flatMap (dpL pL pE) xs)]) : Calls Try.prog 121 #[.agg #[rv, pv, .int .i64 pL, .int .i64 pE, .int .i64 0, .int .i64 0, .int .i64 ((room : Nat) : Int)], .int .i64 r, .agg #[.int .i64 rL, .int .i64 rE, .int .i64 (((0, 0) : Buk).1), .int .i64 (((0, 0) : Buk).2)]] w0 fun e w' => ∃ u, e = .returned (.agg #[u, pv, .int .i64 pL, .int .i64 pE, .int .i64 0, .int .i64 0, .int .i64 ((room : Nat) : Int)]) ∧ Hs [] w0 w' [.row (u) 119 4 (List.length (rset ranks rs r)) (List.flatMap (dbL rL rE) (rset ranks rs r))] := by
  unfold rset
  rw [if_pos h]
  obtain ⟨i, rfl⟩ := Int.eq_ofNat_of_zero_le h.1
  have hkn := hk.n
  have hm := hP.m
  exact DReset i (0, 0) (by omega) (by omega) w0 hR

/-- What a step leaves. -/
def stR (ranks : Nat) (rE : Int) (rs : List Buk) (o : Int4) : List Buk := if o.1 = 1 then nRs ranks rs o.2.1 o.2.2.2 else if o.1 = 2 then rs.map (btick rE) else if o.1 = 3 then rset ranks rs o.2.1 else rs
def stX (ranks room : Nat) (pE : Int) (xs : List PairB) (o : Int4) : List PairB := if o.1 = 1 then nXs ranks room xs o.2.1 o.2.2.1 o.2.2.2 else if o.1 = 2 then xs.map (tickX pE) else if o.1 = 4 then dropB xs o.2.2.1 else xs
theorem TOk.step {ranks room : Nat} {rL rE pL pE : Int} {rs : List Buk} {xs : List PairB} (hk : TOk ranks room rE pE rs xs) (hP : TP ranks room rL rE pL pE) (o : Int4) : TOk ranks room rE pE (stR ranks rE rs o) (stX ranks room pE xs o) := by
  unfold stR stX
  split
  · exact hk.note hP _ _ _
  split
  · exact hk.tick hP
  split
  · rw [if_neg (by omega)]; exact hk.reset hP _
  split
  · exact hk.drop _
  · exact hk
theorem UnlB.step {xs : List PairB} (h : UnlB xs) (ranks room : Nat) (pE : Int) (o : Int4) : UnlB (stX ranks room pE xs o) := by
  unfold stX
  split
  · exact h.note _ _ _ _ _
  split
  · exact h.map _
  split
  · exact h.drop _
  · exact h

end Go.Proofs.Ytgpalgbdacoagaa
