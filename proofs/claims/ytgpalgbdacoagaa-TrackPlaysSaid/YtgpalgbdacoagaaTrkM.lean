/- A tracker held against the document's. -/
import Derived.Test.YtgpalgbdacoagaaTrkK
namespace Go.Proofs.Ytgpalgbdacoagaa
open Go Go.RowKit
set_option linter.unusedVariables false
set_option linter.unusedSimpArgs false

theorem UnlB.own {xs : List PairB} (h : UnlB xs) {c : Nat} (hc : c < xs.length) : fkB xs (xs.getD c (0, 0, 0)).1 = c := by
  have e : ∀ j, j < xs.length → (xs.getD j (0, 0, 0)).1 = (xs.map Prod.fst).getD j 0 := fun j hj => by simp [List.getD, hj]
  refine find_hitB hc (fun j hj he => ?_) rfl
  rw [e j (by omega), e c hc] at he
  have hl : (xs.map Prod.fst).length = xs.length := by simp
  have e1 : (xs.map Prod.fst).getD j 0 = (xs.map Prod.fst)[j]'(by omega) := by simp [List.getD, show j < xs.length by omega]
  have e2 : (xs.map Prod.fst).getD c 0 = (xs.map Prod.fst)[c]'(by omega) := by simp [List.getD, hc]
  rw [e1, e2] at he
  have := (List.getElem_inj h).1 he
  omega
theorem UnlB.pg {xs : List PairB} (h : UnlB xs) {c : Nat} (hc : c < xs.length) {x : PairB} (e : x = xs.getD c (0, 0, 0)) : getB xs x.1 = x.2 ∧ decide (fkB xs x.1 < xs.length) = true := by
  have q : fkB xs x.1 = c := by rw [e]; exact h.own hc
  unfold getB
  rw [q, if_pos hc, ← e]
  exact ⟨rfl, decide_eq_true hc⟩
theorem quiet_next {E : Int} {rs : List Buk} (hb : ∀ b ∈ rs, RB E b) {k : Nat} (hk : k < rs.length) {q : Bool} (hq : q = true ↔ lev (rs.take k) = 0) : ((q && decide ((rs.getD k (0, 0)).1 = 0)) = true) ↔ lev (rs.take (k + 1)) = 0 := by
  have h1 := lev_le (rs.take k) (fun b hb1 => hb b (List.mem_of_mem_take hb1))
  have h2 := getD_all hb hk (0, 0)
  unfold RB at h2
  rw [lev_next rs k hk, Bool.and_eq_true, hq, decide_eq_true_iff]
  omega
theorem quiet_nextX {E F : Int} {rs : List Buk} {xs pre : List PairB} {x : PairB} (hb : ∀ b ∈ rs, RB E b) (hc : ∀ x ∈ xs, RB F x.2) (hp : pre ++ [x] <+: xs) {q : Bool} (hq : pre <+: xs → (q = true ↔ lev rs + levX pre = 0)) : ((q && decide (x.2.1 = 0)) = true) ↔ lev rs + levX (pre ++ [x]) = 0 := by
  have hp1 : pre <+: xs := (List.prefix_append _ _).trans hp
  have h1 := lev_le rs hb
  have h2 := levX_le pre (fun y hy => hc y (hp1.subset hy))
  have h3 := hc x (hp.subset (by simp))
  unfold RB at h3
  rw [levX_snoc, Bool.and_eq_true, hq hp1, decide_eq_true_iff]
  omega

set_option maxRecDepth 100000 in
set_option maxHeartbeats 4000000 in
theorem Pages_of {p t gr : Nat} {ranks room : Nat} {rL rE pL pE hv : Int} (w0 : World) (hR : Ro w0 [.blk p #[.int .i64 rL, .int .i64 rE, .int .i64 pL, .int .i64 pE, .int .i64 ((room : Nat) : Int), .int .i64 hv, .slice (some ⟨gr, 0, none⟩) ranks ranks, .pointer (some ⟨t, 0, none⟩)] 187]) :
    Calls Try.prog 123 #[.pointer (some ⟨p, 0, none⟩)] w0 fun e w' => ∃ q, e = .returned (.func (.func 167) #[] #[.pointer (some ⟨q, 0, none⟩)]) ∧ Hs [] w0 w' [.blk q #[.pointer (some ⟨t, 0, none⟩)] 182] := by
  refine x_enter Try.func123 rfl #[.pointer (some ⟨p, 0, none⟩), undef, undef, undef, undef, undef, undef, undef] (by kernel_rfl) ?_
  have H := Hs.nil w0
  have R0 := hR
  refine x_seq ?_
  refine x_region ?_
  refine x_val (.nilFunc) (by kernel_rfl) rfl (by kernel_rfl) ?_
  refine x_nil ?_
  refine x_then ?_
  refine x_seq ?_
  refine x_region ?_
  refine x_val (.pointer (some ⟨p, 0, none⟩)) (by kernel_rfl) rfl (by kernel_rfl) ?_
  refine x_val (.pointer (some ⟨p, 0, none⟩)) (by kernel_rfl) rfl (by kernel_rfl) ?_
  refine x_val (.pointer (some ⟨p, 7, none⟩)) (by kernel_rfl) rfl (by kernel_rfl) ?_
  refine x_loadc p 7 (.pointer (some ⟨t, 0, none⟩)) ((H.ro R0).cell 0 rfl 7 rfl) (by kernel_rfl) rfl (by kernel_rfl) ?_
  refine x_call (by kernel_rfl) rfl (by kernel_rfl) (TAllB_of t _) ?_
  rintro _ v1 ⟨q, rfl, hN'⟩
  refine ⟨_, rfl, ?_⟩
  replace H := H.more hN'
  clear hN'
  refine x_val (.func (.func 167) #[] #[.pointer (some ⟨q, 0, none⟩)]) (by kernel_rfl) rfl (by kernel_rfl) ?_
  refine x_nil ?_
  refine x_then ?_
  refine x_retc ?_
  refine x_ret (.func (.func 167) #[] #[.pointer (some ⟨q, 0, none⟩)]) (by kernel_rfl) (by kernel_rfl) ?_
  exact ⟨_, rfl, H⟩

set_option maxRecDepth 100000 in
set_option maxHeartbeats 4000000 in
theorem tsame_s {M : List Nat} {p t gr : Nat} {sv pv : Value} {rs : List Buk} {xs : List PairB} {ranks room gd capd : Nat} {rL rE pL pE hv : Int} (hk : TOk ranks room rE pE rs xs) (hP : TP ranks room rL rE pL pE) (hu : UnlB xs) (w0 : World) (H0 : Hs M w0 w0 [.blk p #[.int .i64 rL, .int .i64 rE, .int .i64 pL, .int .i64 pE, .int .i64 ((room : Nat) : Int), .int .i64 hv, .slice (some ⟨gr, 0, none⟩) ranks ranks, .pointer (some ⟨t, 0, none⟩)] 187, .row (.slice (some ⟨gr, 0, none⟩) ranks ranks) 86 2 ranks (List.flatMap bukL rs), .blk t #[sv, .int .i64 ((room : Nat) : Int), .func (.func 103) #[] #[]] 228, .row (sv) 230 3 (List.length xs) (List.flatMap pairLB xs), .row (.slice (some ⟨gd, 0, none⟩) (List.length rs) capd) 119 4 (List.length rs) (List.flatMap (dbL rL rE) rs), .row (pv) 206 5 (List.length xs) (List.flatMap (dpL pL pE) xs)]) :
    Calls Try.prog 65 #[.pointer (some ⟨p, 0, none⟩), .agg #[.slice (some ⟨gd, 0, none⟩) (List.length rs) capd, pv, .int .i64 pL, .int .i64 pE, .int .i64 0, .int .i64 0, .int .i64 ((room : Nat) : Int)], .agg #[.int .i64 rL, .int .i64 rE, .int .i64 pL, .int .i64 pE, .int .i64 ((room : Nat) : Int), .int .i64 hv]] w0 fun e w' => e = .returned (.bool true) ∧ Hs M w0 w' [.blk p #[.int .i64 rL, .int .i64 rE, .int .i64 pL, .int .i64 pE, .int .i64 ((room : Nat) : Int), .int .i64 hv, .slice (some ⟨gr, 0, none⟩) ranks ranks, .pointer (some ⟨t, 0, none⟩)] 187, .row (.slice (some ⟨gr, 0, none⟩) ranks ranks) 86 2 ranks (List.flatMap bukL rs), .blk t #[sv, .int .i64 ((room : Nat) : Int), .func (.func 103) #[] #[]] 228, .row (sv) 230 3 (List.length xs) (List.flatMap pairLB xs), .row (.slice (some ⟨gd, 0, none⟩) (List.length rs) capd) 119 4 (List.length rs) (List.flatMap (dbL rL rE) rs), .row (pv) 206 5 (List.length xs) (List.flatMap (dpL pL pE) xs)] := by
  refine x_enterM Try.func65 rfl #[.pointer (some ⟨p, 0, none⟩), .agg #[.slice (some ⟨gd, 0, none⟩) (List.length rs) capd, pv, .int .i64 pL, .int .i64 pE, .int .i64 0, .int .i64 0, .int .i64 ((room : Nat) : Int)], .agg #[.int .i64 rL, .int .i64 rE, .int .i64 pL, .int .i64 pE, .int .i64 ((room : Nat) : Int), .int .i64 hv], undef, undef, undef, undef, undef, undef, undef, undef, undef, undef, undef, undef, undef, undef, undef, undef, undef, undef, undef, undef, undef, undef, undef, undef, undef, undef, undef, undef, undef, undef, undef, undef, undef, undef, undef, undef, undef, undef, undef, undef, undef, undef, undef, undef, undef, undef, undef, undef, undef, undef, undef, undef, undef, undef, undef, undef, undef, undef, undef, undef, undef, undef, undef, undef, undef, undef, undef, undef, undef, undef, undef, undef, undef, undef, undef, undef, undef, undef, undef, undef, undef, undef, undef, undef, undef, undef, undef, undef, undef, undef, undef, undef, undef, undef, undef, undef, undef, undef, undef, undef, undef, undef, undef, undef, undef, undef, undef, undef, undef, undef, undef, undef, undef, undef] (by kernel_rfl) ?_
  have H := H0
  have hm1 := hP.m
  have hm2 := hP.one
  have hm3 := hk.n
  have hm4 := hk.m
  refine x_seq ?_
  refine x_region ?_
  refine x_box H #[.pointer (some ⟨p, 0, none⟩)] 82 (by kernel_rfl) rfl (by kernel_rfl) ?_
  clear H
  intro v1 g1 H
  refine x_box H #[.slice (some ⟨gd, 0, none⟩) (List.length rs) capd, pv, .int .i64 pL, .int .i64 pE, .int .i64 0, .int .i64 0, .int .i64 ((room : Nat) : Int)] 124 (by kernel_rfl) rfl (by kernel_rfl) ?_
  clear H
  intro v2 g2 H
  refine x_box H #[.int .i64 rL, .int .i64 rE, .int .i64 pL, .int .i64 pE, .int .i64 ((room : Nat) : Int), .int .i64 hv] 80 (by kernel_rfl) rfl (by kernel_rfl) ?_
  clear H
  intro v3 g3 H
  refine x_box H #[.bool false] 4 (by kernel_rfl) rfl (by kernel_rfl) ?_
  clear H
  intro v4 g4 H
  refine x_nil ?_
  refine x_then ?_
  refine x_seq ?_
  refine x_region ?_
  refine x_box H #[.bool false] 4 (by kernel_rfl) rfl (by kernel_rfl) ?_
  clear H
  intro v5 g5 H
  refine x_store (t := 4) (v := .bool true) H 0 g5 0 _ #[.bool true] 4 [.bool true] _ rfl rfl (by kernel_rfl) (by kernel_rfl) (by kernel_rfl) rfl (by kernel_rfl) (by kernel_rfl) (by kernel_rfl) (by kernel_rfl) ?_
  clear H
  intro v6 H
  refine x_nil ?_
  refine x_then ?_
  refine x_seq ?_
  refine x_seq ?_
  refine x_region ?_
  refine x_val (.pointer (some ⟨g2, 0, none⟩)) (by kernel_rfl) rfl (by kernel_rfl) ?_
  refine x_load1 H 3 g2 0 _ _ (.slice (some ⟨gd, 0, none⟩) (List.length rs) capd) rfl (by kernel_rfl) (by kernel_rfl) rfl (by kernel_rfl) ?_
  refine x_val (.int .i64 (((List.length rs) : Nat) : Int)) (by kernel_rfl) rfl (by kernel_rfl) ?_
  refine x_val (.int .i64 0) (by kernel_rfl) rfl (by kernel_rfl) ?_
  refine x_nil ?_
  refine x_then ?_
  refine x_block ?_
  replace H := H.pick [5, 6, 7, 8, 9, 10, 4, 3, 2, 1, 0] [.blk p #[.int .i64 rL, .int .i64 rE, .int .i64 pL, .int .i64 pE, .int .i64 ((room : Nat) : Int), .int .i64 hv, .slice (some ⟨gr, 0, none⟩) ranks ranks, .pointer (some ⟨t, 0, none⟩)] 187, .row (.slice (some ⟨gr, 0, none⟩) ranks ranks) 86 2 ranks (List.flatMap bukL rs), .blk t #[sv, .int .i64 ((room : Nat) : Int), .func (.func 103) #[] #[]] 228, .row (sv) 230 3 (List.length xs) (List.flatMap pairLB xs), .row (.slice (some ⟨gd, 0, none⟩) (List.length rs) capd) 119 4 (List.length rs) (List.flatMap (dbL rL rE) rs), .row (pv) 206 5 (List.length xs) (List.flatMap (dpL pL pE) xs), .blk g1 #[.pointer (some ⟨p, 0, none⟩)] 82, .blk g2 #[.slice (some ⟨gd, 0, none⟩) (List.length rs) capd, pv, .int .i64 pL, .int .i64 pE, .int .i64 0, .int .i64 0, .int .i64 ((room : Nat) : Int)] 124, .blk g3 #[.int .i64 rL, .int .i64 rE, .int .i64 pL, .int .i64 pE, .int .i64 ((room : Nat) : Int), .int .i64 hv] 80, .blk g4 #[.bool false] 4, .blk g5 #[.bool true] 4] (by decide) (by kernel_rfl)
  refine x_loop (G := Nat × Bool) (fun gh a w' => match gh with | (k, qq) => ∃ uf1 : Nat → Value, a = { tmps := #[.pointer (some ⟨p, 0, none⟩), .agg #[.slice (some ⟨gd, 0, none⟩) (List.length rs) capd, pv, .int .i64 pL, .int .i64 pE, .int .i64 0, .int .i64 0, .int .i64 ((room : Nat) : Int)], .agg #[.int .i64 rL, .int .i64 rE, .int .i64 pL, .int .i64 pE, .int .i64 ((room : Nat) : Int), .int .i64 hv], .pointer (some ⟨g1, 0, none⟩), .pointer (some ⟨g2, 0, none⟩), .pointer (some ⟨g3, 0, none⟩), .pointer (some ⟨g4, 0, none⟩), .pointer (some ⟨g5, 0, none⟩), (uf1 0), (uf1 1), undef, undef, undef, undef, undef, .pointer (some ⟨g2, 0, none⟩), .slice (some ⟨gd, 0, none⟩) (List.length rs) capd, .int .i64 (((List.length rs) : Nat) : Int), .int .i64 ((k : Nat) : Int), (uf1 2), (uf1 3), (uf1 4), (uf1 5), (uf1 6), (uf1 7), (uf1 8), (uf1 9), (uf1 10), (uf1 11), (uf1 12), (uf1 13), (uf1 14), (uf1 15), (uf1 16), (uf1 17), (uf1 18), (uf1 19), (uf1 20), undef, undef, undef, undef, undef, undef, undef, undef, undef, undef, undef, undef, undef, undef, undef, undef, undef, undef, undef, undef, undef, undef, undef, undef, undef, undef, undef, undef, undef, undef, undef, undef, undef, undef, undef, undef, undef, undef, undef, undef, undef, undef, undef, undef, undef, undef, undef, undef, undef, undef, undef, undef, undef, undef, undef, undef, undef, undef, undef, undef, undef, undef, undef, undef, undef, undef, undef, undef, undef, undef, undef, undef, undef, undef, undef, undef, undef, undef, undef], defers := [] } ∧ Hs M w0 w' [.blk p #[.int .i64 rL, .int .i64 rE, .int .i64 pL, .int .i64 pE, .int .i64 ((room : Nat) : Int), .int .i64 hv, .slice (some ⟨gr, 0, none⟩) ranks ranks, .pointer (some ⟨t, 0, none⟩)] 187, .row (.slice (some ⟨gr, 0, none⟩) ranks ranks) 86 2 ranks (List.flatMap bukL rs), .blk t #[sv, .int .i64 ((room : Nat) : Int), .func (.func 103) #[] #[]] 228, .row (sv) 230 3 (List.length xs) (List.flatMap pairLB xs), .row (.slice (some ⟨gd, 0, none⟩) (List.length rs) capd) 119 4 (List.length rs) (List.flatMap (dbL rL rE) rs), .row (pv) 206 5 (List.length xs) (List.flatMap (dpL pL pE) xs), .blk g1 #[.pointer (some ⟨p, 0, none⟩)] 82, .blk g2 #[.slice (some ⟨gd, 0, none⟩) (List.length rs) capd, pv, .int .i64 pL, .int .i64 pE, .int .i64 0, .int .i64 0, .int .i64 ((room : Nat) : Int)] 124, .blk g3 #[.int .i64 rL, .int .i64 rE, .int .i64 pL, .int .i64 pE, .int .i64 ((room : Nat) : Int), .int .i64 hv] 80, .blk g4 #[.bool false] 4, .blk g5 #[.bool qq] 4] ∧ (k ≤ List.length rs) ∧ (qq = true ↔ lev (List.take k rs) = 0)) (fun gh => match gh with | (k, qq) => List.length rs - k) (0, true) ⟨(nthV [undef, undef, undef, undef, undef, undef, undef, undef, undef, undef, undef, undef, undef, undef, undef, undef, undef, undef, undef, undef, undef]), (by kernel_rfl), H, (Nat.zero_le _), (by simp [lev])⟩ ?_
  clear H
  rintro ⟨k, qq⟩ _ v7 ⟨uf1, rfl, H, r1, r2⟩
  refine x_seq ?_
  refine x_region ?_
  refine x_val (.bool (decide (((k : Nat) : Int) < (((List.length rs) : Nat) : Int)))) (by kernel_rfl) rfl (by kernel_rfl) ?_
  refine x_nil ?_
  refine x_then ?_
  refine x_seq ?_
  cases h1 : decide (((k : Nat) : Int) < (((List.length rs) : Nat) : Int))
  · skip
    have h1p := of_decide_eq_false h1
    refine x_f (by kernel_rfl) ?_
    refine x_exit ?_
    refine x_then_exit ?_
    refine x_then_exit ?_
    refine x_blk_exit ?_
    refine x_then ?_
    refine x_seq ?_
    refine x_region ?_
    refine x_box H #[.int .i64 0] 3 (by kernel_rfl) rfl (by kernel_rfl) ?_
    clear H
    intro v8 g6 H
    refine x_store (t := 3) (v := .int .i64 0) H 0 g6 0 _ #[.int .i64 0] 3 [.int .i64 0] _ rfl rfl (by kernel_rfl) (by kernel_rfl) (by kernel_rfl) rfl (by kernel_rfl) (by kernel_rfl) (by kernel_rfl) (by kernel_rfl) ?_
    clear H
    intro v9 H
    refine x_nil ?_
    refine x_then ?_
    refine x_seq ?_
    refine x_seq ?_
    refine x_region ?_
    refine x_load1 H 7 g1 0 _ _ (.pointer (some ⟨p, 0, none⟩)) rfl (by kernel_rfl) (by kernel_rfl) rfl (by kernel_rfl) ?_
    refine x_call (by kernel_rfl) rfl (by kernel_rfl) (Pages_of _ (H.roOf [1] [.blk p #[.int .i64 rL, .int .i64 rE, .int .i64 pL, .int .i64 pE, .int .i64 ((room : Nat) : Int), .int .i64 hv, .slice (some ⟨gr, 0, none⟩) ranks ranks, .pointer (some ⟨t, 0, none⟩)] 187] (by kernel_rfl))) ?_
    rintro _ v10 ⟨q, rfl, hN'⟩
    refine ⟨_, rfl, ?_⟩
    replace H := H.more hN'
    clear hN'
    replace H : Hs M w0 _ [.blk q #[.pointer (some ⟨t, 0, none⟩)] 182, .blk g6 #[.int .i64 0] 3, .blk p #[.int .i64 rL, .int .i64 rE, .int .i64 pL, .int .i64 pE, .int .i64 ((room : Nat) : Int), .int .i64 hv, .slice (some ⟨gr, 0, none⟩) ranks ranks, .pointer (some ⟨t, 0, none⟩)] 187, .row (.slice (some ⟨gr, 0, none⟩) ranks ranks) 86 2 ranks (List.flatMap bukL rs), .blk t #[sv, .int .i64 ((room : Nat) : Int), .func (.func 103) #[] #[]] 228, .row (sv) 230 3 (List.length xs) (List.flatMap pairLB xs), .row (.slice (some ⟨gd, 0, none⟩) (List.length rs) capd) 119 4 (List.length rs) (List.flatMap (dbL rL rE) rs), .row (pv) 206 5 (List.length xs) (List.flatMap (dpL pL pE) xs), .blk g1 #[.pointer (some ⟨p, 0, none⟩)] 82, .blk g2 #[.slice (some ⟨gd, 0, none⟩) (List.length rs) capd, pv, .int .i64 pL, .int .i64 pE, .int .i64 0, .int .i64 0, .int .i64 ((room : Nat) : Int)] 124, .blk g3 #[.int .i64 rL, .int .i64 rE, .int .i64 pL, .int .i64 pE, .int .i64 ((room : Nat) : Int), .int .i64 hv] 80, .blk g4 #[.bool false] 4, .blk g5 #[.bool qq] 4] := H
    refine x_nil ?_
    refine x_then ?_
    refine x_block ?_
    rcases H.rowForm 7 rfl with ⟨rfl, h0⟩ | ⟨gw, cw, rfl, hcw, -⟩
    · skip
      have hkk : k = List.length rs := by omega
      rw [hkk, List.take_length] at r2
      replace H := H.pick [1, 0, 2, 3, 4, 5, 6, 7, 8, 9, 10, 11, 12] [.blk g6 #[.int .i64 0] 3, .blk q #[.pointer (some ⟨t, 0, none⟩)] 182, .blk p #[.int .i64 rL, .int .i64 rE, .int .i64 pL, .int .i64 pE, .int .i64 ((room : Nat) : Int), .int .i64 hv, .slice (some ⟨gr, 0, none⟩) ranks ranks, .pointer (some ⟨t, 0, none⟩)] 187, .row (.slice (some ⟨gr, 0, none⟩) ranks ranks) 86 2 ranks (List.flatMap bukL rs), .blk t #[sv, .int .i64 ((room : Nat) : Int), .func (.func 103) #[] #[]] 228, .row (sv) 230 3 (List.length xs) (List.flatMap pairLB xs), .row (.slice (some ⟨gd, 0, none⟩) (List.length rs) capd) 119 4 (List.length rs) (List.flatMap (dbL rL rE) rs), .row (.slice none 0 0) 206 5 (List.length xs) (List.flatMap (dpL pL pE) xs), .blk g1 #[.pointer (some ⟨p, 0, none⟩)] 82, .blk g2 #[.slice (some ⟨gd, 0, none⟩) (List.length rs) capd, .slice none 0 0, .int .i64 pL, .int .i64 pE, .int .i64 0, .int .i64 0, .int .i64 ((room : Nat) : Int)] 124, .blk g3 #[.int .i64 rL, .int .i64 rE, .int .i64 pL, .int .i64 pE, .int .i64 ((room : Nat) : Int), .int .i64 hv] 80, .blk g4 #[.bool false] 4, .blk g5 #[.bool qq] 4] (by decide) (by kernel_rfl)
      replace H : Hs M w0 _ [.blk g6 #[.int .i64 ((0 : Nat) : Int)] 3, .blk q #[.pointer (some ⟨t, 0, none⟩)] 182, .blk p #[.int .i64 rL, .int .i64 rE, .int .i64 pL, .int .i64 pE, .int .i64 ((room : Nat) : Int), .int .i64 hv, .slice (some ⟨gr, 0, none⟩) ranks ranks, .pointer (some ⟨t, 0, none⟩)] 187, .row (.slice (some ⟨gr, 0, none⟩) ranks ranks) 86 2 ranks (List.flatMap bukL rs), .blk t #[sv, .int .i64 ((room : Nat) : Int), .func (.func 103) #[] #[]] 228, .row (sv) 230 3 (List.length xs) (List.flatMap pairLB xs), .row (.slice (some ⟨gd, 0, none⟩) (List.length rs) capd) 119 4 (List.length rs) (List.flatMap (dbL rL rE) rs), .row (.slice none 0 0) 206 5 (List.length xs) (List.flatMap (dpL pL pE) xs), .blk g1 #[.pointer (some ⟨p, 0, none⟩)] 82, .blk g2 #[.slice (some ⟨gd, 0, none⟩) (List.length rs) capd, .slice none 0 0, .int .i64 pL, .int .i64 pE, .int .i64 0, .int .i64 0, .int .i64 ((room : Nat) : Int)] 124, .blk g3 #[.int .i64 rL, .int .i64 rE, .int .i64 pL, .int .i64 pE, .int .i64 ((room : Nat) : Int), .int .i64 hv] 80, .blk g4 #[.bool false] 4, .blk g5 #[.bool qq] 4] := H
      refine x_rangeB (α := PairB) (G := Nat × Bool) xs (fun x => #[.int .i64 x.1, .agg #[.int .i64 x.2.1, .int .i64 x.2.2]]) [.blk q #[.pointer (some ⟨t, 0, none⟩)] 182, .blk t #[sv, .int .i64 ((room : Nat) : Int), .func (.func 103) #[] #[]] 228, .row (sv) 230 3 (List.length xs) (List.flatMap pairLB xs)] [1, 4, 5] (fps [.blk g6 #[.int .i64 ((0 : Nat) : Int)] 3, .blk q #[.pointer (some ⟨t, 0, none⟩)] 182, .blk p #[.int .i64 rL, .int .i64 rE, .int .i64 pL, .int .i64 pE, .int .i64 ((room : Nat) : Int), .int .i64 hv, .slice (some ⟨gr, 0, none⟩) ranks ranks, .pointer (some ⟨t, 0, none⟩)] 187, .row (.slice (some ⟨gr, 0, none⟩) ranks ranks) 86 2 ranks (List.flatMap bukL rs), .blk t #[sv, .int .i64 ((room : Nat) : Int), .func (.func 103) #[] #[]] 228, .row (sv) 230 3 (List.length xs) (List.flatMap pairLB xs), .row (.slice (some ⟨gd, 0, none⟩) (List.length rs) capd) 119 4 (List.length rs) (List.flatMap (dbL rL rE) rs), .row (.slice none 0 0) 206 5 (List.length xs) (List.flatMap (dpL pL pE) xs), .blk g1 #[.pointer (some ⟨p, 0, none⟩)] 82, .blk g2 #[.slice (some ⟨gd, 0, none⟩) (List.length rs) capd, .slice none 0 0, .int .i64 pL, .int .i64 pE, .int .i64 0, .int .i64 0, .int .i64 ((room : Nat) : Int)] 124, .blk g3 #[.int .i64 rL, .int .i64 rE, .int .i64 pL, .int .i64 pE, .int .i64 ((room : Nat) : Int), .int .i64 hv] 80, .blk g4 #[.bool false] 4, .blk g5 #[.bool qq] 4]) (fun pre gh => match gh with | (c, qq) => c = List.length pre ∧ (pre <+: xs → (qq = true ↔ lev rs + levX pre = 0))) (fun pre gh => match gh with | (c, qq) => [.blk g6 #[.int .i64 ((c : Nat) : Int)] 3, .blk q #[.pointer (some ⟨t, 0, none⟩)] 182, .blk p #[.int .i64 rL, .int .i64 rE, .int .i64 pL, .int .i64 pE, .int .i64 ((room : Nat) : Int), .int .i64 hv, .slice (some ⟨gr, 0, none⟩) ranks ranks, .pointer (some ⟨t, 0, none⟩)] 187, .row (.slice (some ⟨gr, 0, none⟩) ranks ranks) 86 2 ranks (List.flatMap bukL rs), .blk t #[sv, .int .i64 ((room : Nat) : Int), .func (.func 103) #[] #[]] 228, .row (sv) 230 3 (List.length xs) (List.flatMap pairLB xs), .row (.slice (some ⟨gd, 0, none⟩) (List.length rs) capd) 119 4 (List.length rs) (List.flatMap (dbL rL rE) rs), .row (.slice none 0 0) 206 5 (List.length xs) (List.flatMap (dpL pL pE) xs), .blk g1 #[.pointer (some ⟨p, 0, none⟩)] 82, .blk g2 #[.slice (some ⟨gd, 0, none⟩) (List.length rs) capd, .slice none 0 0, .int .i64 pL, .int .i64 pE, .int .i64 0, .int .i64 0, .int .i64 ((room : Nat) : Int)] 124, .blk g3 #[.int .i64 rL, .int .i64 rE, .int .i64 pL, .int .i64 pE, .int .i64 ((room : Nat) : Int), .int .i64 hv] 80, .blk g4 #[.bool false] 4, .blk g5 #[.bool qq] 4]) (fun cd pre gh => match gh with | (c, qq) => (cd = .ret ∧ (¬ (pre <+: xs)))) (fun x b => [.blk b #[.int .i64 x.2.1, .int .i64 x.2.2] 86]) (fun x b => { tmps := #[.pointer (some ⟨p, 0, none⟩), .agg #[.slice (some ⟨gd, 0, none⟩) (List.length rs) capd, .slice none 0 0, .int .i64 pL, .int .i64 pE, .int .i64 0, .int .i64 0, .int .i64 ((room : Nat) : Int)], .agg #[.int .i64 rL, .int .i64 rE, .int .i64 pL, .int .i64 pE, .int .i64 ((room : Nat) : Int), .int .i64 hv], .pointer (some ⟨g1, 0, none⟩), .pointer (some ⟨g2, 0, none⟩), .pointer (some ⟨g3, 0, none⟩), .pointer (some ⟨g4, 0, none⟩), .pointer (some ⟨g5, 0, none⟩), (uf1 0), (uf1 1), .pointer (some ⟨g6, 0, none⟩), .int .i64 x.1, .pointer (some ⟨b, 0, none⟩), undef, undef, .pointer (some ⟨g2, 0, none⟩), .slice (some ⟨gd, 0, none⟩) (List.length rs) capd, .int .i64 (((List.length rs) : Nat) : Int), .int .i64 ((k : Nat) : Int), .bool false, (uf1 3), (uf1 4), (uf1 5), (uf1 6), (uf1 7), (uf1 8), (uf1 9), (uf1 10), (uf1 11), (uf1 12), (uf1 13), (uf1 14), (uf1 15), (uf1 16), (uf1 17), (uf1 18), (uf1 19), (uf1 20), .pointer (some ⟨p, 0, none⟩), .func (.func 167) #[] #[.pointer (some ⟨q, 0, none⟩)], .int .i64 x.1, .agg #[.int .i64 x.2.1, .int .i64 x.2.2], undef, undef, undef, undef, undef, undef, undef, undef, undef, undef, undef, undef, undef, undef, undef, undef, undef, undef, undef, undef, undef, undef, undef, undef, undef, undef, undef, undef, undef, undef, undef, undef, undef, undef, undef, undef, undef, undef, undef, undef, undef, undef, undef, undef, undef, undef, undef, undef, undef, undef, undef, undef, undef, undef, undef, undef, undef, undef, undef, undef, undef, undef, undef, undef, undef, undef, undef, undef, undef, undef, undef, undef, undef, undef, undef], defers := [] }) (0, qq) (by kernel_rfl) (enters_of Try.func167 (by kernel_rfl) rfl) (tvalsB_of (by omega) _ (H.roOf [1, 4, 5] _ (by kernel_rfl))) (fun _ => rfl) rfl (by rintro _ ⟨c, qq⟩; rfl) (by rintro _ ⟨c, qq⟩; rfl) (by rintro _ ⟨c, qq⟩; rfl) (fun _ _ => rfl) (fun _ _ => rfl) H (⟨rfl, fun _ => by rw [r2]; simp [levX]⟩) ?_ ?_ ?_ ?_
      · skip
        clear H
        rintro lrnd pre x ⟨c, qq⟩ W1 hI H
        refine x_at (b := { tmps := #[.pointer (some ⟨p, 0, none⟩), .agg #[.slice (some ⟨gd, 0, none⟩) (List.length rs) capd, .slice none 0 0, .int .i64 pL, .int .i64 pE, .int .i64 0, .int .i64 0, .int .i64 ((room : Nat) : Int)], .agg #[.int .i64 rL, .int .i64 rE, .int .i64 pL, .int .i64 pE, .int .i64 ((room : Nat) : Int), .int .i64 hv], .pointer (some ⟨g1, 0, none⟩), .pointer (some ⟨g2, 0, none⟩), .pointer (some ⟨g3, 0, none⟩), .pointer (some ⟨g4, 0, none⟩), .pointer (some ⟨g5, 0, none⟩), (uf1 0), (uf1 1), .pointer (some ⟨g6, 0, none⟩), undef, undef, undef, undef, .pointer (some ⟨g2, 0, none⟩), .slice (some ⟨gd, 0, none⟩) (List.length rs) capd, .int .i64 (((List.length rs) : Nat) : Int), .int .i64 ((k : Nat) : Int), .bool false, (uf1 3), (uf1 4), (uf1 5), (uf1 6), (uf1 7), (uf1 8), (uf1 9), (uf1 10), (uf1 11), (uf1 12), (uf1 13), (uf1 14), (uf1 15), (uf1 16), (uf1 17), (uf1 18), (uf1 19), (uf1 20), .pointer (some ⟨p, 0, none⟩), .func (.func 167) #[] #[.pointer (some ⟨q, 0, none⟩)], .int .i64 x.1, .agg #[.int .i64 x.2.1, .int .i64 x.2.2], undef, undef, undef, undef, undef, undef, undef, undef, undef, undef, undef, undef, undef, undef, undef, undef, undef, undef, undef, undef, undef, undef, undef, undef, undef, undef, undef, undef, undef, undef, undef, undef, undef, undef, undef, undef, undef, undef, undef, undef, undef, undef, undef, undef, undef, undef, undef, undef, undef, undef, undef, undef, undef, undef, undef, undef, undef, undef, undef, undef, undef, undef, undef, undef, undef, undef, undef, undef, undef, undef, undef, undef, undef, undef, undef], defers := [] }) (by kernel_rfl) ?_
        refine x_seq ?_
        refine x_region ?_
        refine x_val (.int .i64 x.1) (by kernel_rfl) rfl (by kernel_rfl) ?_
        refine x_nil ?_
        refine x_then ?_
        refine x_region ?_
        refine x_box H #[.int .i64 0, .int .i64 0] 86 (by kernel_rfl) rfl (by kernel_rfl) ?_
        clear H
        intro v11 g7 H
        refine x_store (t := 86) (v := .agg #[.int .i64 x.2.1, .int .i64 x.2.2]) H 0 g7 0 _ #[.int .i64 x.2.1, .int .i64 x.2.2] 86 [.int .i64 x.2.1, .int .i64 x.2.2] _ rfl rfl (by kernel_rfl) (by kernel_rfl) (by kernel_rfl) rfl (by kernel_rfl) (by kernel_rfl) (by kernel_rfl) (by kernel_rfl) ?_
        clear H
        intro v12 H
        refine x_nil ?_
        refine x_then ?_
        exact ⟨g7, (by kernel_rfl), H⟩
      · skip
        clear H
        rintro lrnd pre x ⟨c, qq⟩ b W1 hI hlen H
        replace H : Hs (fps [.blk b #[.int .i64 x.2.1, .int .i64 x.2.2] 86] ++ (fps [.blk g6 #[.int .i64 ((0 : Nat) : Int)] 3, .blk q #[.pointer (some ⟨t, 0, none⟩)] 182, .blk p #[.int .i64 rL, .int .i64 rE, .int .i64 pL, .int .i64 pE, .int .i64 ((room : Nat) : Int), .int .i64 hv, .slice (some ⟨gr, 0, none⟩) ranks ranks, .pointer (some ⟨t, 0, none⟩)] 187, .row (.slice (some ⟨gr, 0, none⟩) ranks ranks) 86 2 ranks (List.flatMap bukL rs), .blk t #[sv, .int .i64 ((room : Nat) : Int), .func (.func 103) #[] #[]] 228, .row (sv) 230 3 (List.length xs) (List.flatMap pairLB xs), .row (.slice (some ⟨gd, 0, none⟩) (List.length rs) capd) 119 4 (List.length rs) (List.flatMap (dbL rL rE) rs), .row (.slice none 0 0) 206 5 (List.length xs) (List.flatMap (dpL pL pE) xs), .blk g1 #[.pointer (some ⟨p, 0, none⟩)] 82, .blk g2 #[.slice (some ⟨gd, 0, none⟩) (List.length rs) capd, .slice none 0 0, .int .i64 pL, .int .i64 pE, .int .i64 0, .int .i64 0, .int .i64 ((room : Nat) : Int)] 124, .blk g3 #[.int .i64 rL, .int .i64 rE, .int .i64 pL, .int .i64 pE, .int .i64 ((room : Nat) : Int), .int .i64 hv] 80, .blk g4 #[.bool false] 4, .blk g5 #[.bool qq] 4])) W1 W1 [.blk b #[.int .i64 x.2.1, .int .i64 x.2.2] 86, .blk g6 #[.int .i64 ((c : Nat) : Int)] 3, .blk q #[.pointer (some ⟨t, 0, none⟩)] 182, .blk p #[.int .i64 rL, .int .i64 rE, .int .i64 pL, .int .i64 pE, .int .i64 ((room : Nat) : Int), .int .i64 hv, .slice (some ⟨gr, 0, none⟩) ranks ranks, .pointer (some ⟨t, 0, none⟩)] 187, .row (.slice (some ⟨gr, 0, none⟩) ranks ranks) 86 2 ranks (List.flatMap bukL rs), .blk t #[sv, .int .i64 ((room : Nat) : Int), .func (.func 103) #[] #[]] 228, .row (sv) 230 3 (List.length xs) (List.flatMap pairLB xs), .row (.slice (some ⟨gd, 0, none⟩) (List.length rs) capd) 119 4 (List.length rs) (List.flatMap (dbL rL rE) rs), .row (.slice none 0 0) 206 5 (List.length xs) (List.flatMap (dpL pL pE) xs), .blk g1 #[.pointer (some ⟨p, 0, none⟩)] 82, .blk g2 #[.slice (some ⟨gd, 0, none⟩) (List.length rs) capd, .slice none 0 0, .int .i64 pL, .int .i64 pE, .int .i64 0, .int .i64 0, .int .i64 ((room : Nat) : Int)] 124, .blk g3 #[.int .i64 rL, .int .i64 rE, .int .i64 pL, .int .i64 pE, .int .i64 ((room : Nat) : Int), .int .i64 hv] 80, .blk g4 #[.bool false] 4, .blk g5 #[.bool qq] 4] := H
        refine x_block ?_
        refine x_seq ?_
        refine x_seq ?_
        refine x_region_whole (fun w' => Hs (fps [.blk b #[.int .i64 x.2.1, .int .i64 x.2.2] 86] ++ (fps [.blk g6 #[.int .i64 ((0 : Nat) : Int)] 3, .blk q #[.pointer (some ⟨t, 0, none⟩)] 182, .blk p #[.int .i64 rL, .int .i64 rE, .int .i64 pL, .int .i64 pE, .int .i64 ((room : Nat) : Int), .int .i64 hv, .slice (some ⟨gr, 0, none⟩) ranks ranks, .pointer (some ⟨t, 0, none⟩)] 187, .row (.slice (some ⟨gr, 0, none⟩) ranks ranks) 86 2 ranks (List.flatMap bukL rs), .blk t #[sv, .int .i64 ((room : Nat) : Int), .func (.func 103) #[] #[]] 228, .row (sv) 230 3 (List.length xs) (List.flatMap pairLB xs), .row (.slice (some ⟨gd, 0, none⟩) (List.length rs) capd) 119 4 (List.length rs) (List.flatMap (dbL rL rE) rs), .row (.slice none 0 0) 206 5 (List.length xs) (List.flatMap (dpL pL pE) xs), .blk g1 #[.pointer (some ⟨p, 0, none⟩)] 82, .blk g2 #[.slice (some ⟨gd, 0, none⟩) (List.length rs) capd, .slice none 0 0, .int .i64 pL, .int .i64 pE, .int .i64 0, .int .i64 0, .int .i64 ((room : Nat) : Int)] 124, .blk g3 #[.int .i64 rL, .int .i64 rE, .int .i64 pL, .int .i64 pE, .int .i64 ((room : Nat) : Int), .int .i64 hv] 80, .blk g4 #[.bool false] 4, .blk g5 #[.bool qq] 4])) W1 w' [.blk b #[.int .i64 x.2.1, .int .i64 x.2.2] 86, .blk g6 #[.int .i64 ((c : Nat) : Int)] 3, .blk q #[.pointer (some ⟨t, 0, none⟩)] 182, .blk p #[.int .i64 rL, .int .i64 rE, .int .i64 pL, .int .i64 pE, .int .i64 ((room : Nat) : Int), .int .i64 hv, .slice (some ⟨gr, 0, none⟩) ranks ranks, .pointer (some ⟨t, 0, none⟩)] 187, .row (.slice (some ⟨gr, 0, none⟩) ranks ranks) 86 2 ranks (List.flatMap bukL rs), .blk t #[sv, .int .i64 ((room : Nat) : Int), .func (.func 103) #[] #[]] 228, .row (sv) 230 3 (List.length xs) (List.flatMap pairLB xs), .row (.slice (some ⟨gd, 0, none⟩) (List.length rs) capd) 119 4 (List.length rs) (List.flatMap (dbL rL rE) rs), .row (.slice none 0 0) 206 5 (List.length xs) (List.flatMap (dpL pL pE) xs), .blk g1 #[.pointer (some ⟨p, 0, none⟩)] 82, .blk g2 #[.slice (some ⟨gd, 0, none⟩) (List.length rs) capd, .slice none 0 0, .int .i64 pL, .int .i64 pE, .int .i64 0, .int .i64 0, .int .i64 ((room : Nat) : Int)] 124, .blk g3 #[.int .i64 rL, .int .i64 rE, .int .i64 pL, .int .i64 pE, .int .i64 ((room : Nat) : Int), .int .i64 hv] 80, .blk g4 #[.bool false] 4, .blk g5 #[.bool qq] 4]) (by kernel_rfl) (by kernel_rfl) (by kernel_rfl) H.drew ?_
        refine q_load1 1 g6 0 #[.int .i64 ((c : Nat) : Int)] 3 (.int .i64 ((c : Nat) : Int)) (by kernel_rfl) (by kernel_rfl) (by kernel_rfl) (fun _ => by kernel_rfl) ?_
        refine q_val (.pointer (some ⟨g2, 1, none⟩)) (by kernel_rfl) (fun _ => by kernel_rfl) ?_
        refine q_load1 10 g2 1 #[.slice (some ⟨gd, 0, none⟩) (List.length rs) capd, .slice none 0 0, .int .i64 pL, .int .i64 pE, .int .i64 0, .int .i64 0, .int .i64 ((room : Nat) : Int)] 124 (.slice none 0 0) (by kernel_rfl) (by kernel_rfl) (by kernel_rfl) (fun _ => by kernel_rfl) ?_
        refine q_val (.int .i64 0) (by kernel_rfl) (fun _ => by kernel_rfl) ?_
        refine q_val (.bool (decide (0 ≤ ((c : Nat) : Int)))) (by kernel_rfl) (fun _ => by kernel_rfl) ?_
        refine q_val (.bool (decide (0 ≤ ((c : Nat) : Int)))) (by kernel_rfl) (fun _ => by kernel_rfl) ?_
        cases h2 : decide (0 ≤ ((c : Nat) : Int))
        · skip
          have h2p := of_decide_eq_false h2
          exact absurd h2p (by omega)
        · skip
          have h2p := of_decide_eq_true h2
          refine q_skip (by kernel_rfl) ?_
          refine q_skip (by kernel_rfl) ?_
          refine q_skip (by kernel_rfl) ?_
          refine q_skip (by kernel_rfl) ?_
          refine q_skip (by kernel_rfl) ?_
          refine q_skip (by kernel_rfl) ?_
          refine q_skip (by kernel_rfl) ?_
          refine q_skip (by kernel_rfl) ?_
          refine q_val (.bool true) (by kernel_rfl) (fun _ => by kernel_rfl) ?_
          refine q_val (.bool true) (by kernel_rfl) (fun _ => by kernel_rfl) ?_
          refine q_skip (by kernel_rfl) ?_
          refine q_skip (by kernel_rfl) ?_
          refine q_skip (by kernel_rfl) ?_
          refine q_skip (by kernel_rfl) ?_
          refine q_skip (by kernel_rfl) ?_
          refine q_skip (by kernel_rfl) ?_
          refine q_skip (by kernel_rfl) ?_
          refine q_skip (by kernel_rfl) ?_
          refine q_skip (by kernel_rfl) ?_
          refine q_skip (by kernel_rfl) ?_
          refine q_skip (by kernel_rfl) ?_
          refine q_val (.bool true) (by kernel_rfl) (fun _ => by kernel_rfl) ?_
          refine q_nil ?_
          clear H
          intro v13 H
          refine x_then ?_
          refine x_t (by kernel_rfl) ?_
          refine x_seq ?_
          refine x_region ?_
          refine x_store (t := 4) (v := .bool false) H 12 g4 0 _ #[.bool false] 4 [.bool false] _ rfl rfl (by kernel_rfl) (by kernel_rfl) (by kernel_rfl) rfl (by kernel_rfl) (by kernel_rfl) (by kernel_rfl) (by kernel_rfl) ?_
          clear H
          intro v14 H
          refine x_nil ?_
          refine x_then ?_
          refine x_retc ?_
          refine x_then_ret ?_
          refine x_blk_ret ?_
          replace H := H.pick [1, 2, 3, 4, 5, 6, 7, 8, 9, 10, 11, 12, 13] [.blk g6 #[.int .i64 ((c : Nat) : Int)] 3, .blk q #[.pointer (some ⟨t, 0, none⟩)] 182, .blk p #[.int .i64 rL, .int .i64 rE, .int .i64 pL, .int .i64 pE, .int .i64 ((room : Nat) : Int), .int .i64 hv, .slice (some ⟨gr, 0, none⟩) ranks ranks, .pointer (some ⟨t, 0, none⟩)] 187, .row (.slice (some ⟨gr, 0, none⟩) ranks ranks) 86 2 ranks (List.flatMap bukL rs), .blk t #[sv, .int .i64 ((room : Nat) : Int), .func (.func 103) #[] #[]] 228, .row (sv) 230 3 (List.length xs) (List.flatMap pairLB xs), .row (.slice (some ⟨gd, 0, none⟩) (List.length rs) capd) 119 4 (List.length rs) (List.flatMap (dbL rL rE) rs), .row (.slice none 0 0) 206 5 (List.length xs) (List.flatMap (dpL pL pE) xs), .blk g1 #[.pointer (some ⟨p, 0, none⟩)] 82, .blk g2 #[.slice (some ⟨gd, 0, none⟩) (List.length rs) capd, .slice none 0 0, .int .i64 pL, .int .i64 pE, .int .i64 0, .int .i64 0, .int .i64 ((room : Nat) : Int)] 124, .blk g3 #[.int .i64 rL, .int .i64 rE, .int .i64 pL, .int .i64 pE, .int .i64 ((room : Nat) : Int), .int .i64 hv] 80, .blk g4 #[.bool false] 4, .blk g5 #[.bool qq] 4] (by decide) (by kernel_rfl)
          exact ⟨(c, qq), ⟨rfl, (fun hp => by have z := prefix_getB hp; rw [← hI.1] at z; omega)⟩, H⟩
      · skip
        clear H
        rintro D ⟨c, qq⟩ W1 hI H
        have hI1 := hI.1
        have hI2 := hI.2 (List.prefix_refl _)
        refine x_blk ?_
        refine x_then ?_
        refine x_seq ?_
        cases h3 : decide (((c : Nat) : Int) = 0)
        · skip
          have h3p := of_decide_eq_false h3
          exact absurd h3p (by omega)
        · skip
          have h3p := of_decide_eq_true h3
          cases h4 : (decide (lev rs + levX xs = 0)) == qq
          · skip
            exact absurd (show ((decide (lev rs + levX xs = 0)) == qq) = true from by simp only [beq_iff_eq]; exact Bool.eq_iff_iff.2 (decide_eq_true_iff.trans hI2.symm)) (by rw [h4]; decide)
          · skip
            refine x_region_s 27 (fun w' => Hs M w0 w' [.obj D ((.deferred (some []))), .blk g6 #[.int .i64 ((c : Nat) : Int)] 3, .blk q #[.pointer (some ⟨t, 0, none⟩)] 182, .blk p #[.int .i64 rL, .int .i64 rE, .int .i64 pL, .int .i64 pE, .int .i64 ((room : Nat) : Int), .int .i64 hv, .slice (some ⟨gr, 0, none⟩) ranks ranks, .pointer (some ⟨t, 0, none⟩)] 187, .row (.slice (some ⟨gr, 0, none⟩) ranks ranks) 86 2 ranks (List.flatMap bukL rs), .blk t #[sv, .int .i64 ((room : Nat) : Int), .func (.func 103) #[] #[]] 228, .row (sv) 230 3 (List.length xs) (List.flatMap pairLB xs), .row (.slice (some ⟨gd, 0, none⟩) (List.length rs) capd) 119 4 (List.length rs) (List.flatMap (dbL rL rE) rs), .row (.slice none 0 0) 206 5 (List.length xs) (List.flatMap (dpL pL pE) xs), .blk g1 #[.pointer (some ⟨p, 0, none⟩)] 82, .blk g2 #[.slice (some ⟨gd, 0, none⟩) (List.length rs) capd, .slice none 0 0, .int .i64 pL, .int .i64 pE, .int .i64 0, .int .i64 0, .int .i64 ((room : Nat) : Int)] 124, .blk g3 #[.int .i64 rL, .int .i64 rE, .int .i64 pL, .int .i64 pE, .int .i64 ((room : Nat) : Int), .int .i64 hv] 80, .blk g5 #[.bool qq] 4]) (fun w' => Hs M w0 w' [.obj D ((.deferred (some []))), .blk g6 #[.int .i64 ((c : Nat) : Int)] 3, .blk q #[.pointer (some ⟨t, 0, none⟩)] 182, .blk p #[.int .i64 rL, .int .i64 rE, .int .i64 pL, .int .i64 pE, .int .i64 ((room : Nat) : Int), .int .i64 hv, .slice (some ⟨gr, 0, none⟩) ranks ranks, .pointer (some ⟨t, 0, none⟩)] 187, .row (.slice (some ⟨gr, 0, none⟩) ranks ranks) 86 2 ranks (List.flatMap bukL rs), .blk t #[sv, .int .i64 ((room : Nat) : Int), .func (.func 103) #[] #[]] 228, .row (sv) 230 3 (List.length xs) (List.flatMap pairLB xs), .row (.slice (some ⟨gd, 0, none⟩) (List.length rs) capd) 119 4 (List.length rs) (List.flatMap (dbL rL rE) rs), .row (.slice none 0 0) 206 5 (List.length xs) (List.flatMap (dpL pL pE) xs), .blk g1 #[.pointer (some ⟨p, 0, none⟩)] 82, .blk g2 #[.slice (some ⟨gd, 0, none⟩) (List.length rs) capd, .slice none 0 0, .int .i64 pL, .int .i64 pE, .int .i64 0, .int .i64 0, .int .i64 ((room : Nat) : Int)] 124, .blk g3 #[.int .i64 rL, .int .i64 rE, .int .i64 pL, .int .i64 pE, .int .i64 ((room : Nat) : Int), .int .i64 hv] 80, .blk g4 #[.bool false] 4, .blk g5 #[.bool qq] 4]) (by kernel_rfl) (by kernel_rfl) (by kernel_rfl) hsShut (fun _ h => h.pick [0, 1, 2, 3, 4, 5, 6, 7, 8, 9, 10, 11, 13] _ (by decide) (by kernel_rfl)) H.drew ?_
            refine s_quiet 0 rfl (by kernel_rfl) (y_load1 1 g6 0 #[.int .i64 ((c : Nat) : Int)] 3 (.int .i64 ((c : Nat) : Int)) (by kernel_rfl) (by kernel_rfl) (by kernel_rfl) (fun _ => by kernel_rfl)) ?_
            refine s_quiet 1 rfl (by kernel_rfl) (y_val (.pointer (some ⟨g2, 1, none⟩)) (by kernel_rfl) (fun _ => by kernel_rfl)) ?_
            refine s_quiet 2 rfl (by kernel_rfl) (y_load1 10 g2 1 #[.slice (some ⟨gd, 0, none⟩) (List.length rs) capd, .slice none 0 0, .int .i64 pL, .int .i64 pE, .int .i64 0, .int .i64 0, .int .i64 ((room : Nat) : Int)] 124 (.slice none 0 0) (by kernel_rfl) (by kernel_rfl) (by kernel_rfl) (fun _ => by kernel_rfl)) ?_
            refine s_quiet 3 rfl (by kernel_rfl) (y_val (.int .i64 0) (by kernel_rfl) (fun _ => by kernel_rfl)) ?_
            refine s_quiet 4 rfl (by kernel_rfl) (y_val (.bool (decide (((c : Nat) : Int) = 0))) (by kernel_rfl) (fun _ => by kernel_rfl)) ?_
            refine s_quiet 5 rfl (by kernel_rfl) (y_val (.bool (decide (((c : Nat) : Int) = 0))) (by kernel_rfl) (fun _ => by kernel_rfl)) ?_
            rw [h3]
            refine s_quiet 6 rfl (by kernel_rfl) (y_load1 9 g1 0 #[.pointer (some ⟨p, 0, none⟩)] 82 (.pointer (some ⟨p, 0, none⟩)) (by kernel_rfl) (by kernel_rfl) (by kernel_rfl) (fun _ => by kernel_rfl)) ?_
            refine s_quiet 8 rfl (by kernel_rfl) (y_load1 12 g5 0 #[.bool qq] 4 (.bool qq) (by kernel_rfl) (by kernel_rfl) (by kernel_rfl) (fun _ => by kernel_rfl)) ?_
            refine s_one 7 rfl (by kernel_rfl) rfl ?_
            clear H
            intro v15 H
            refine x_callH (.bool (decide (lev rs + levX xs = 0))) [.blk p #[.int .i64 rL, .int .i64 rE, .int .i64 pL, .int .i64 pE, .int .i64 ((room : Nat) : Int), .int .i64 hv, .slice (some ⟨gr, 0, none⟩) ranks ranks, .pointer (some ⟨t, 0, none⟩)] 187, .row (.slice (some ⟨gr, 0, none⟩) ranks ranks) 86 2 ranks (List.flatMap bukL rs), .blk t #[sv, .int .i64 ((room : Nat) : Int), .func (.func 103) #[] #[]] 228, .row (sv) 230 3 (List.length xs) (List.flatMap pairLB xs), .obj D ((.deferred (some []))), .blk g6 #[.int .i64 ((c : Nat) : Int)] 3, .blk q #[.pointer (some ⟨t, 0, none⟩)] 182, .row (.slice (some ⟨gd, 0, none⟩) (List.length rs) capd) 119 4 (List.length rs) (List.flatMap (dbL rL rE) rs), .row (.slice none 0 0) 206 5 (List.length xs) (List.flatMap (dpL pL pE) xs), .blk g1 #[.pointer (some ⟨p, 0, none⟩)] 82, .blk g2 #[.slice (some ⟨gd, 0, none⟩) (List.length rs) capd, .slice none 0 0, .int .i64 pL, .int .i64 pE, .int .i64 0, .int .i64 0, .int .i64 ((room : Nat) : Int)] 124, .blk g3 #[.int .i64 rL, .int .i64 rE, .int .i64 pL, .int .i64 pE, .int .i64 ((room : Nat) : Int), .int .i64 hv] 80, .blk g4 #[.bool false] 4, .blk g5 #[.bool qq] 4] (by kernel_rfl) rfl (by kernel_rfl) (Hs.use (A := [.blk p #[.int .i64 rL, .int .i64 rE, .int .i64 pL, .int .i64 pE, .int .i64 ((room : Nat) : Int), .int .i64 hv, .slice (some ⟨gr, 0, none⟩) ranks ranks, .pointer (some ⟨t, 0, none⟩)] 187, .row (.slice (some ⟨gr, 0, none⟩) ranks ranks) 86 2 ranks (List.flatMap bukL rs), .blk t #[sv, .int .i64 ((room : Nat) : Int), .func (.func 103) #[] #[]] 228, .row (sv) 230 3 (List.length xs) (List.flatMap pairLB xs)]) (R := [.obj D ((.deferred (some []))), .blk g6 #[.int .i64 ((c : Nat) : Int)] 3, .blk q #[.pointer (some ⟨t, 0, none⟩)] 182, .row (.slice (some ⟨gd, 0, none⟩) (List.length rs) capd) 119 4 (List.length rs) (List.flatMap (dbL rL rE) rs), .row (.slice none 0 0) 206 5 (List.length xs) (List.flatMap (dpL pL pE) xs), .blk g1 #[.pointer (some ⟨p, 0, none⟩)] 82, .blk g2 #[.slice (some ⟨gd, 0, none⟩) (List.length rs) capd, .slice none 0 0, .int .i64 pL, .int .i64 pE, .int .i64 0, .int .i64 0, .int .i64 ((room : Nat) : Int)] 124, .blk g3 #[.int .i64 rL, .int .i64 rE, .int .i64 pL, .int .i64 pE, .int .i64 ((room : Nat) : Int), .int .i64 hv] 80, .blk g4 #[.bool false] 4, .blk g5 #[.bool qq] 4]) (H.pick [3, 4, 5, 6, 0, 1, 2, 7, 8, 9, 10, 11, 12, 13] _ (by decide) (by kernel_rfl)) (fun h => Quiet_any hk.n hk.m hP.m hk.b hk.c _ h)) ?_
            clear H
            intro v16 H
            refine x_nil ?_
            refine x_then ?_
            refine ⟨fun w' => Hs M w0 w' [.blk p #[.int .i64 rL, .int .i64 rE, .int .i64 pL, .int .i64 pE, .int .i64 ((room : Nat) : Int), .int .i64 hv, .slice (some ⟨gr, 0, none⟩) ranks ranks, .pointer (some ⟨t, 0, none⟩)] 187, .row (.slice (some ⟨gr, 0, none⟩) ranks ranks) 86 2 ranks (List.flatMap bukL rs), .blk t #[sv, .int .i64 ((room : Nat) : Int), .func (.func 103) #[] #[]] 228, .row (sv) 230 3 (List.length xs) (List.flatMap pairLB xs), .obj D ((.deferred (some []))), .blk g6 #[.int .i64 ((c : Nat) : Int)] 3, .blk q #[.pointer (some ⟨t, 0, none⟩)] 182, .row (.slice (some ⟨gd, 0, none⟩) (List.length rs) capd) 119 4 (List.length rs) (List.flatMap (dbL rL rE) rs), .row (.slice none 0 0) 206 5 (List.length xs) (List.flatMap (dpL pL pE) xs), .blk g1 #[.pointer (some ⟨p, 0, none⟩)] 82, .blk g2 #[.slice (some ⟨gd, 0, none⟩) (List.length rs) capd, .slice none 0 0, .int .i64 pL, .int .i64 pE, .int .i64 0, .int .i64 0, .int .i64 ((room : Nat) : Int)] 124, .blk g3 #[.int .i64 rL, .int .i64 rE, .int .i64 pL, .int .i64 pE, .int .i64 ((room : Nat) : Int), .int .i64 hv] 80, .blk g5 #[.bool qq] 4], fun w' => Hs M w0 w' [.blk p #[.int .i64 rL, .int .i64 rE, .int .i64 pL, .int .i64 pE, .int .i64 ((room : Nat) : Int), .int .i64 hv, .slice (some ⟨gr, 0, none⟩) ranks ranks, .pointer (some ⟨t, 0, none⟩)] 187, .row (.slice (some ⟨gr, 0, none⟩) ranks ranks) 86 2 ranks (List.flatMap bukL rs), .blk t #[sv, .int .i64 ((room : Nat) : Int), .func (.func 103) #[] #[]] 228, .row (sv) 230 3 (List.length xs) (List.flatMap pairLB xs), .obj D ((.deferred (some []))), .blk g6 #[.int .i64 ((c : Nat) : Int)] 3, .blk q #[.pointer (some ⟨t, 0, none⟩)] 182, .row (.slice (some ⟨gd, 0, none⟩) (List.length rs) capd) 119 4 (List.length rs) (List.flatMap (dbL rL rE) rs), .row (.slice none 0 0) 206 5 (List.length xs) (List.flatMap (dpL pL pE) xs), .blk g1 #[.pointer (some ⟨p, 0, none⟩)] 82, .blk g2 #[.slice (some ⟨gd, 0, none⟩) (List.length rs) capd, .slice none 0 0, .int .i64 pL, .int .i64 pE, .int .i64 0, .int .i64 0, .int .i64 ((room : Nat) : Int)] 124, .blk g3 #[.int .i64 rL, .int .i64 rE, .int .i64 pL, .int .i64 pE, .int .i64 ((room : Nat) : Int), .int .i64 hv] 80, .blk g4 #[.bool false] 4, .blk g5 #[.bool qq] 4], H, hsShut, fun _ h => h.pick [0, 1, 2, 3, 4, 5, 6, 7, 8, 9, 10, 11, 13] _ (by decide) (by kernel_rfl), fun _ h => h.pick [4, 5, 6, 0, 1, 2, 3, 7, 8, 9, 10, 11, 12] _ (by decide) (by kernel_rfl), ?_⟩
            refine s_quiet 9 rfl (by kernel_rfl) (y_val (.bool ((decide (lev rs + levX xs = 0)) == qq)) (by kernel_rfl) (fun _ => by kernel_rfl)) ?_
            refine s_quiet 10 rfl (by kernel_rfl) (y_val (.bool ((decide (lev rs + levX xs = 0)) == qq)) (by kernel_rfl) (fun _ => by kernel_rfl)) ?_
            refine s_quiet 11 rfl (by kernel_rfl) (y_val (.bool ((decide (lev rs + levX xs = 0)) == qq)) (by kernel_rfl) (fun _ => by kernel_rfl)) ?_
            rw [h4]
            refine s_quiet 12 rfl (by kernel_rfl) (y_load1 9 g1 0 #[.pointer (some ⟨p, 0, none⟩)] 82 (.pointer (some ⟨p, 0, none⟩)) (by kernel_rfl) (by kernel_rfl) (by kernel_rfl) (fun _ => by kernel_rfl)) ?_
            refine s_quiet 13 rfl (by kernel_rfl) (y_callK (.agg #[.int .i64 0, .int .i64 0]) (by kernel_rfl) (fun _ => by kernel_rfl) (fun _ H => (Rank_no (-1) (.inl (by decide)) _ (H.roOf [0] [.blk p #[.int .i64 rL, .int .i64 rE, .int .i64 pL, .int .i64 pE, .int .i64 ((room : Nat) : Int), .int .i64 hv, .slice (some ⟨gr, 0, none⟩) ranks ranks, .pointer (some ⟨t, 0, none⟩)] 187] (by kernel_rfl))))) ?_
            refine s_quiet 14 rfl (by kernel_rfl) (y_val (.agg #[.int .i64 0, .int .i64 0]) (by kernel_rfl) (fun _ => by kernel_rfl)) ?_
            refine s_quiet 15 rfl (by kernel_rfl) (y_val (.bool true) (by kernel_rfl) (fun _ => (run_eqS (t := 86) (x := .tmp 104) (y := .tmp 105) (xs := #[.int .i64 0, .int .i64 0]) (ys := #[.int .i64 0, .int .i64 0]) (B := true) (by kernel_rfl) (by kernel_rfl) (by kernel_rfl)))) ?_
            refine s_quiet 16 rfl (by kernel_rfl) (y_val (.bool true) (by kernel_rfl) (fun _ => by kernel_rfl)) ?_
            refine s_quiet 17 rfl (by kernel_rfl) (y_val (.bool true) (by kernel_rfl) (fun _ => by kernel_rfl)) ?_
            refine s_quiet 18 rfl (by kernel_rfl) (y_load1 9 g1 0 #[.pointer (some ⟨p, 0, none⟩)] 82 (.pointer (some ⟨p, 0, none⟩)) (by kernel_rfl) (by kernel_rfl) (by kernel_rfl) (fun _ => by kernel_rfl)) ?_
            refine s_quiet 19 rfl (by kernel_rfl) (y_val (.pointer (some ⟨g2, 0, none⟩)) (by kernel_rfl) (fun _ => by kernel_rfl)) ?_
            refine s_quiet 20 rfl (by kernel_rfl) (y_load1 10 g2 0 #[.slice (some ⟨gd, 0, none⟩) (List.length rs) capd, .slice none 0 0, .int .i64 pL, .int .i64 pE, .int .i64 0, .int .i64 0, .int .i64 ((room : Nat) : Int)] 124 (.slice (some ⟨gd, 0, none⟩) (List.length rs) capd) (by kernel_rfl) (by kernel_rfl) (by kernel_rfl) (fun _ => by kernel_rfl)) ?_
            refine s_quiet 21 rfl (by kernel_rfl) (y_val (.int .i64 (((List.length rs) : Nat) : Int)) (by kernel_rfl) (fun _ => by kernel_rfl)) ?_
            refine s_quiet 22 rfl (by kernel_rfl) (y_callK (.agg #[.int .i64 0, .int .i64 0]) (by kernel_rfl) (fun _ => by kernel_rfl) (fun _ H => (Rank_no (((List.length rs) : Nat) : Int) (.inr (by omega)) _ (H.roOf [0] [.blk p #[.int .i64 rL, .int .i64 rE, .int .i64 pL, .int .i64 pE, .int .i64 ((room : Nat) : Int), .int .i64 hv, .slice (some ⟨gr, 0, none⟩) ranks ranks, .pointer (some ⟨t, 0, none⟩)] 187] (by kernel_rfl))))) ?_
            refine s_quiet 23 rfl (by kernel_rfl) (y_val (.agg #[.int .i64 0, .int .i64 0]) (by kernel_rfl) (fun _ => by kernel_rfl)) ?_
            refine s_quiet 24 rfl (by kernel_rfl) (y_val (.bool true) (by kernel_rfl) (fun _ => (run_eqS (t := 86) (x := .tmp 113) (y := .tmp 114) (xs := #[.int .i64 0, .int .i64 0]) (ys := #[.int .i64 0, .int .i64 0]) (B := true) (by kernel_rfl) (by kernel_rfl) (by kernel_rfl)))) ?_
            refine s_quiet 25 rfl (by kernel_rfl) (y_val (.bool true) (by kernel_rfl) (fun _ => by kernel_rfl)) ?_
            refine s_one 26 rfl (by kernel_rfl) rfl ?_
            clear H
            intro v17 H
            refine x_store (t := 4) (v := .bool true) H 12 g4 0 _ #[.bool true] 4 [.bool true] _ rfl rfl (by kernel_rfl) (by kernel_rfl) (by kernel_rfl) rfl (by kernel_rfl) (by kernel_rfl) (by kernel_rfl) (by kernel_rfl) ?_
            clear H
            intro v18 H
            refine x_nil ?_
            refine x_then ?_
            refine ⟨fun w' => Hs M w0 w' [.blk p #[.int .i64 rL, .int .i64 rE, .int .i64 pL, .int .i64 pE, .int .i64 ((room : Nat) : Int), .int .i64 hv, .slice (some ⟨gr, 0, none⟩) ranks ranks, .pointer (some ⟨t, 0, none⟩)] 187, .row (.slice (some ⟨gr, 0, none⟩) ranks ranks) 86 2 ranks (List.flatMap bukL rs), .blk t #[sv, .int .i64 ((room : Nat) : Int), .func (.func 103) #[] #[]] 228, .row (sv) 230 3 (List.length xs) (List.flatMap pairLB xs), .obj D ((.deferred (some []))), .blk g6 #[.int .i64 ((c : Nat) : Int)] 3, .blk q #[.pointer (some ⟨t, 0, none⟩)] 182, .row (.slice (some ⟨gd, 0, none⟩) (List.length rs) capd) 119 4 (List.length rs) (List.flatMap (dbL rL rE) rs), .row (.slice none 0 0) 206 5 (List.length xs) (List.flatMap (dpL pL pE) xs), .blk g1 #[.pointer (some ⟨p, 0, none⟩)] 82, .blk g2 #[.slice (some ⟨gd, 0, none⟩) (List.length rs) capd, .slice none 0 0, .int .i64 pL, .int .i64 pE, .int .i64 0, .int .i64 0, .int .i64 ((room : Nat) : Int)] 124, .blk g3 #[.int .i64 rL, .int .i64 rE, .int .i64 pL, .int .i64 pE, .int .i64 ((room : Nat) : Int), .int .i64 hv] 80, .blk g4 #[.bool true] 4, .blk g5 #[.bool qq] 4], fun w' => Hs M w0 w' [.blk p #[.int .i64 rL, .int .i64 rE, .int .i64 pL, .int .i64 pE, .int .i64 ((room : Nat) : Int), .int .i64 hv, .slice (some ⟨gr, 0, none⟩) ranks ranks, .pointer (some ⟨t, 0, none⟩)] 187, .row (.slice (some ⟨gr, 0, none⟩) ranks ranks) 86 2 ranks (List.flatMap bukL rs), .blk t #[sv, .int .i64 ((room : Nat) : Int), .func (.func 103) #[] #[]] 228, .row (sv) 230 3 (List.length xs) (List.flatMap pairLB xs), .obj D ((.deferred (some []))), .blk g6 #[.int .i64 ((c : Nat) : Int)] 3, .blk q #[.pointer (some ⟨t, 0, none⟩)] 182, .row (.slice (some ⟨gd, 0, none⟩) (List.length rs) capd) 119 4 (List.length rs) (List.flatMap (dbL rL rE) rs), .row (.slice none 0 0) 206 5 (List.length xs) (List.flatMap (dpL pL pE) xs), .blk g1 #[.pointer (some ⟨p, 0, none⟩)] 82, .blk g2 #[.slice (some ⟨gd, 0, none⟩) (List.length rs) capd, .slice none 0 0, .int .i64 pL, .int .i64 pE, .int .i64 0, .int .i64 0, .int .i64 ((room : Nat) : Int)] 124, .blk g3 #[.int .i64 rL, .int .i64 rE, .int .i64 pL, .int .i64 pE, .int .i64 ((room : Nat) : Int), .int .i64 hv] 80, .blk g4 #[.bool true] 4, .blk g5 #[.bool qq] 4], H, hsShut, fun _ h => h.pick [0, 1, 2, 3, 4, 5, 6, 7, 8, 9, 10, 11, 12, 13] _ (by decide) (by kernel_rfl), fun _ h => h.pick [0, 1, 2, 3, 4, 5, 6, 7, 8, 9, 10, 11, 13] _ (by decide) (by kernel_rfl), ?_⟩
            refine s_done (by kernel_rfl) ?_
            clear H
            intro v19 H
            refine x_then ?_
            refine x_retc ?_
            refine x_retM1 [4, 0, 1, 2, 3, 5, 6, 7, 8, 9, 10, 11, 12, 13] [.blk p #[.int .i64 rL, .int .i64 rE, .int .i64 pL, .int .i64 pE, .int .i64 ((room : Nat) : Int), .int .i64 hv, .slice (some ⟨gr, 0, none⟩) ranks ranks, .pointer (some ⟨t, 0, none⟩)] 187, .row (.slice (some ⟨gr, 0, none⟩) ranks ranks) 86 2 ranks (List.flatMap bukL rs), .blk t #[sv, .int .i64 ((room : Nat) : Int), .func (.func 103) #[] #[]] 228, .row (sv) 230 3 (List.length xs) (List.flatMap pairLB xs), .blk g6 #[.int .i64 ((c : Nat) : Int)] 3, .blk q #[.pointer (some ⟨t, 0, none⟩)] 182, .row (.slice (some ⟨gd, 0, none⟩) (List.length rs) capd) 119 4 (List.length rs) (List.flatMap (dbL rL rE) rs), .row (.slice none 0 0) 206 5 (List.length xs) (List.flatMap (dpL pL pE) xs), .blk g1 #[.pointer (some ⟨p, 0, none⟩)] 82, .blk g2 #[.slice (some ⟨gd, 0, none⟩) (List.length rs) capd, .slice none 0 0, .int .i64 pL, .int .i64 pE, .int .i64 0, .int .i64 0, .int .i64 ((room : Nat) : Int)] 124, .blk g3 #[.int .i64 rL, .int .i64 rE, .int .i64 pL, .int .i64 pE, .int .i64 ((room : Nat) : Int), .int .i64 hv] 80, .blk g4 #[.bool true] 4, .blk g5 #[.bool qq] 4] (.bool true) H (by kernel_rfl) rfl (by decide) (fun _ H => (x_rescell1 H 11 g4 0 #[.bool true] 4 (.bool true) (fun x => x) (by kernel_rfl) (by kernel_rfl) (by kernel_rfl))) ?_
            clear H
            intro v20 H
            replace H := H.pick [0, 1, 2, 3, 6, 7] [.blk p #[.int .i64 rL, .int .i64 rE, .int .i64 pL, .int .i64 pE, .int .i64 ((room : Nat) : Int), .int .i64 hv, .slice (some ⟨gr, 0, none⟩) ranks ranks, .pointer (some ⟨t, 0, none⟩)] 187, .row (.slice (some ⟨gr, 0, none⟩) ranks ranks) 86 2 ranks (List.flatMap bukL rs), .blk t #[sv, .int .i64 ((room : Nat) : Int), .func (.func 103) #[] #[]] 228, .row (sv) 230 3 (List.length xs) (List.flatMap pairLB xs), .row (.slice (some ⟨gd, 0, none⟩) (List.length rs) capd) 119 4 (List.length rs) (List.flatMap (dbL rL rE) rs), .row (.slice none 0 0) 206 5 (List.length xs) (List.flatMap (dpL pL pE) xs)] (by decide) (by kernel_rfl)
            exact ⟨rfl, H⟩
      · skip
        clear H
        rintro D c pre ⟨c, qq⟩ W1 hpre hJ H
        rcases hJ with ⟨rfl, hJ⟩
        · skip
          exact absurd hpre hJ
    · skip
      have hkk : k = List.length rs := by omega
      rw [hkk, List.take_length] at r2
      replace H := H.pick [1, 0, 2, 3, 4, 5, 6, 7, 8, 9, 10, 11, 12] [.blk g6 #[.int .i64 0] 3, .blk q #[.pointer (some ⟨t, 0, none⟩)] 182, .blk p #[.int .i64 rL, .int .i64 rE, .int .i64 pL, .int .i64 pE, .int .i64 ((room : Nat) : Int), .int .i64 hv, .slice (some ⟨gr, 0, none⟩) ranks ranks, .pointer (some ⟨t, 0, none⟩)] 187, .row (.slice (some ⟨gr, 0, none⟩) ranks ranks) 86 2 ranks (List.flatMap bukL rs), .blk t #[sv, .int .i64 ((room : Nat) : Int), .func (.func 103) #[] #[]] 228, .row (sv) 230 3 (List.length xs) (List.flatMap pairLB xs), .row (.slice (some ⟨gd, 0, none⟩) (List.length rs) capd) 119 4 (List.length rs) (List.flatMap (dbL rL rE) rs), .row (.slice (some ⟨gw, 0, none⟩) (List.length xs) cw) 206 5 (List.length xs) (List.flatMap (dpL pL pE) xs), .blk g1 #[.pointer (some ⟨p, 0, none⟩)] 82, .blk g2 #[.slice (some ⟨gd, 0, none⟩) (List.length rs) capd, .slice (some ⟨gw, 0, none⟩) (List.length xs) cw, .int .i64 pL, .int .i64 pE, .int .i64 0, .int .i64 0, .int .i64 ((room : Nat) : Int)] 124, .blk g3 #[.int .i64 rL, .int .i64 rE, .int .i64 pL, .int .i64 pE, .int .i64 ((room : Nat) : Int), .int .i64 hv] 80, .blk g4 #[.bool false] 4, .blk g5 #[.bool qq] 4] (by decide) (by kernel_rfl)
      replace H : Hs M w0 _ [.blk g6 #[.int .i64 ((0 : Nat) : Int)] 3, .blk q #[.pointer (some ⟨t, 0, none⟩)] 182, .blk p #[.int .i64 rL, .int .i64 rE, .int .i64 pL, .int .i64 pE, .int .i64 ((room : Nat) : Int), .int .i64 hv, .slice (some ⟨gr, 0, none⟩) ranks ranks, .pointer (some ⟨t, 0, none⟩)] 187, .row (.slice (some ⟨gr, 0, none⟩) ranks ranks) 86 2 ranks (List.flatMap bukL rs), .blk t #[sv, .int .i64 ((room : Nat) : Int), .func (.func 103) #[] #[]] 228, .row (sv) 230 3 (List.length xs) (List.flatMap pairLB xs), .row (.slice (some ⟨gd, 0, none⟩) (List.length rs) capd) 119 4 (List.length rs) (List.flatMap (dbL rL rE) rs), .row (.slice (some ⟨gw, 0, none⟩) (List.length xs) cw) 206 5 (List.length xs) (List.flatMap (dpL pL pE) xs), .blk g1 #[.pointer (some ⟨p, 0, none⟩)] 82, .blk g2 #[.slice (some ⟨gd, 0, none⟩) (List.length rs) capd, .slice (some ⟨gw, 0, none⟩) (List.length xs) cw, .int .i64 pL, .int .i64 pE, .int .i64 0, .int .i64 0, .int .i64 ((room : Nat) : Int)] 124, .blk g3 #[.int .i64 rL, .int .i64 rE, .int .i64 pL, .int .i64 pE, .int .i64 ((room : Nat) : Int), .int .i64 hv] 80, .blk g4 #[.bool false] 4, .blk g5 #[.bool qq] 4] := H
      refine x_rangeB (α := PairB) (G := Nat × Bool) xs (fun x => #[.int .i64 x.1, .agg #[.int .i64 x.2.1, .int .i64 x.2.2]]) [.blk q #[.pointer (some ⟨t, 0, none⟩)] 182, .blk t #[sv, .int .i64 ((room : Nat) : Int), .func (.func 103) #[] #[]] 228, .row (sv) 230 3 (List.length xs) (List.flatMap pairLB xs)] [1, 4, 5] (fps [.blk g6 #[.int .i64 ((0 : Nat) : Int)] 3, .blk q #[.pointer (some ⟨t, 0, none⟩)] 182, .blk p #[.int .i64 rL, .int .i64 rE, .int .i64 pL, .int .i64 pE, .int .i64 ((room : Nat) : Int), .int .i64 hv, .slice (some ⟨gr, 0, none⟩) ranks ranks, .pointer (some ⟨t, 0, none⟩)] 187, .row (.slice (some ⟨gr, 0, none⟩) ranks ranks) 86 2 ranks (List.flatMap bukL rs), .blk t #[sv, .int .i64 ((room : Nat) : Int), .func (.func 103) #[] #[]] 228, .row (sv) 230 3 (List.length xs) (List.flatMap pairLB xs), .row (.slice (some ⟨gd, 0, none⟩) (List.length rs) capd) 119 4 (List.length rs) (List.flatMap (dbL rL rE) rs), .row (.slice (some ⟨gw, 0, none⟩) (List.length xs) cw) 206 5 (List.length xs) (List.flatMap (dpL pL pE) xs), .blk g1 #[.pointer (some ⟨p, 0, none⟩)] 82, .blk g2 #[.slice (some ⟨gd, 0, none⟩) (List.length rs) capd, .slice (some ⟨gw, 0, none⟩) (List.length xs) cw, .int .i64 pL, .int .i64 pE, .int .i64 0, .int .i64 0, .int .i64 ((room : Nat) : Int)] 124, .blk g3 #[.int .i64 rL, .int .i64 rE, .int .i64 pL, .int .i64 pE, .int .i64 ((room : Nat) : Int), .int .i64 hv] 80, .blk g4 #[.bool false] 4, .blk g5 #[.bool qq] 4]) (fun pre gh => match gh with | (c, qq) => c = List.length pre ∧ (pre <+: xs → (qq = true ↔ lev rs + levX pre = 0))) (fun pre gh => match gh with | (c, qq) => [.blk g6 #[.int .i64 ((c : Nat) : Int)] 3, .blk q #[.pointer (some ⟨t, 0, none⟩)] 182, .blk p #[.int .i64 rL, .int .i64 rE, .int .i64 pL, .int .i64 pE, .int .i64 ((room : Nat) : Int), .int .i64 hv, .slice (some ⟨gr, 0, none⟩) ranks ranks, .pointer (some ⟨t, 0, none⟩)] 187, .row (.slice (some ⟨gr, 0, none⟩) ranks ranks) 86 2 ranks (List.flatMap bukL rs), .blk t #[sv, .int .i64 ((room : Nat) : Int), .func (.func 103) #[] #[]] 228, .row (sv) 230 3 (List.length xs) (List.flatMap pairLB xs), .row (.slice (some ⟨gd, 0, none⟩) (List.length rs) capd) 119 4 (List.length rs) (List.flatMap (dbL rL rE) rs), .row (.slice (some ⟨gw, 0, none⟩) (List.length xs) cw) 206 5 (List.length xs) (List.flatMap (dpL pL pE) xs), .blk g1 #[.pointer (some ⟨p, 0, none⟩)] 82, .blk g2 #[.slice (some ⟨gd, 0, none⟩) (List.length rs) capd, .slice (some ⟨gw, 0, none⟩) (List.length xs) cw, .int .i64 pL, .int .i64 pE, .int .i64 0, .int .i64 0, .int .i64 ((room : Nat) : Int)] 124, .blk g3 #[.int .i64 rL, .int .i64 rE, .int .i64 pL, .int .i64 pE, .int .i64 ((room : Nat) : Int), .int .i64 hv] 80, .blk g4 #[.bool false] 4, .blk g5 #[.bool qq] 4]) (fun cd pre gh => match gh with | (c, qq) => (cd = .ret ∧ (¬ (pre <+: xs)))) (fun x b => [.blk b #[.int .i64 x.2.1, .int .i64 x.2.2] 86]) (fun x b => { tmps := #[.pointer (some ⟨p, 0, none⟩), .agg #[.slice (some ⟨gd, 0, none⟩) (List.length rs) capd, .slice (some ⟨gw, 0, none⟩) (List.length xs) cw, .int .i64 pL, .int .i64 pE, .int .i64 0, .int .i64 0, .int .i64 ((room : Nat) : Int)], .agg #[.int .i64 rL, .int .i64 rE, .int .i64 pL, .int .i64 pE, .int .i64 ((room : Nat) : Int), .int .i64 hv], .pointer (some ⟨g1, 0, none⟩), .pointer (some ⟨g2, 0, none⟩), .pointer (some ⟨g3, 0, none⟩), .pointer (some ⟨g4, 0, none⟩), .pointer (some ⟨g5, 0, none⟩), (uf1 0), (uf1 1), .pointer (some ⟨g6, 0, none⟩), .int .i64 x.1, .pointer (some ⟨b, 0, none⟩), undef, undef, .pointer (some ⟨g2, 0, none⟩), .slice (some ⟨gd, 0, none⟩) (List.length rs) capd, .int .i64 (((List.length rs) : Nat) : Int), .int .i64 ((k : Nat) : Int), .bool false, (uf1 3), (uf1 4), (uf1 5), (uf1 6), (uf1 7), (uf1 8), (uf1 9), (uf1 10), (uf1 11), (uf1 12), (uf1 13), (uf1 14), (uf1 15), (uf1 16), (uf1 17), (uf1 18), (uf1 19), (uf1 20), .pointer (some ⟨p, 0, none⟩), .func (.func 167) #[] #[.pointer (some ⟨q, 0, none⟩)], .int .i64 x.1, .agg #[.int .i64 x.2.1, .int .i64 x.2.2], undef, undef, undef, undef, undef, undef, undef, undef, undef, undef, undef, undef, undef, undef, undef, undef, undef, undef, undef, undef, undef, undef, undef, undef, undef, undef, undef, undef, undef, undef, undef, undef, undef, undef, undef, undef, undef, undef, undef, undef, undef, undef, undef, undef, undef, undef, undef, undef, undef, undef, undef, undef, undef, undef, undef, undef, undef, undef, undef, undef, undef, undef, undef, undef, undef, undef, undef, undef, undef, undef, undef, undef, undef, undef, undef], defers := [] }) (0, qq) (by kernel_rfl) (enters_of Try.func167 (by kernel_rfl) rfl) (tvalsB_of (by omega) _ (H.roOf [1, 4, 5] _ (by kernel_rfl))) (fun _ => rfl) rfl (by rintro _ ⟨c, qq⟩; rfl) (by rintro _ ⟨c, qq⟩; rfl) (by rintro _ ⟨c, qq⟩; rfl) (fun _ _ => rfl) (fun _ _ => rfl) H (⟨rfl, fun _ => by rw [r2]; simp [levX]⟩) ?_ ?_ ?_ ?_
      · skip
        clear H
        rintro lrnd pre x ⟨c, qq⟩ W2 hI H
        refine x_at (b := { tmps := #[.pointer (some ⟨p, 0, none⟩), .agg #[.slice (some ⟨gd, 0, none⟩) (List.length rs) capd, .slice (some ⟨gw, 0, none⟩) (List.length xs) cw, .int .i64 pL, .int .i64 pE, .int .i64 0, .int .i64 0, .int .i64 ((room : Nat) : Int)], .agg #[.int .i64 rL, .int .i64 rE, .int .i64 pL, .int .i64 pE, .int .i64 ((room : Nat) : Int), .int .i64 hv], .pointer (some ⟨g1, 0, none⟩), .pointer (some ⟨g2, 0, none⟩), .pointer (some ⟨g3, 0, none⟩), .pointer (some ⟨g4, 0, none⟩), .pointer (some ⟨g5, 0, none⟩), (uf1 0), (uf1 1), .pointer (some ⟨g6, 0, none⟩), undef, undef, undef, undef, .pointer (some ⟨g2, 0, none⟩), .slice (some ⟨gd, 0, none⟩) (List.length rs) capd, .int .i64 (((List.length rs) : Nat) : Int), .int .i64 ((k : Nat) : Int), .bool false, (uf1 3), (uf1 4), (uf1 5), (uf1 6), (uf1 7), (uf1 8), (uf1 9), (uf1 10), (uf1 11), (uf1 12), (uf1 13), (uf1 14), (uf1 15), (uf1 16), (uf1 17), (uf1 18), (uf1 19), (uf1 20), .pointer (some ⟨p, 0, none⟩), .func (.func 167) #[] #[.pointer (some ⟨q, 0, none⟩)], .int .i64 x.1, .agg #[.int .i64 x.2.1, .int .i64 x.2.2], undef, undef, undef, undef, undef, undef, undef, undef, undef, undef, undef, undef, undef, undef, undef, undef, undef, undef, undef, undef, undef, undef, undef, undef, undef, undef, undef, undef, undef, undef, undef, undef, undef, undef, undef, undef, undef, undef, undef, undef, undef, undef, undef, undef, undef, undef, undef, undef, undef, undef, undef, undef, undef, undef, undef, undef, undef, undef, undef, undef, undef, undef, undef, undef, undef, undef, undef, undef, undef, undef, undef, undef, undef, undef, undef], defers := [] }) (by kernel_rfl) ?_
        refine x_seq ?_
        refine x_region ?_
        refine x_val (.int .i64 x.1) (by kernel_rfl) rfl (by kernel_rfl) ?_
        refine x_nil ?_
        refine x_then ?_
        refine x_region ?_
        refine x_box H #[.int .i64 0, .int .i64 0] 86 (by kernel_rfl) rfl (by kernel_rfl) ?_
        clear H
        intro v21 g8 H
        refine x_store (t := 86) (v := .agg #[.int .i64 x.2.1, .int .i64 x.2.2]) H 0 g8 0 _ #[.int .i64 x.2.1, .int .i64 x.2.2] 86 [.int .i64 x.2.1, .int .i64 x.2.2] _ rfl rfl (by kernel_rfl) (by kernel_rfl) (by kernel_rfl) rfl (by kernel_rfl) (by kernel_rfl) (by kernel_rfl) (by kernel_rfl) ?_
        clear H
        intro v22 H
        refine x_nil ?_
        refine x_then ?_
        exact ⟨g8, (by kernel_rfl), H⟩
      · skip
        clear H
        rintro lrnd pre x ⟨c, qq⟩ b W2 hI hlen H
        replace H : Hs (fps [.blk b #[.int .i64 x.2.1, .int .i64 x.2.2] 86] ++ (fps [.blk g6 #[.int .i64 ((0 : Nat) : Int)] 3, .blk q #[.pointer (some ⟨t, 0, none⟩)] 182, .blk p #[.int .i64 rL, .int .i64 rE, .int .i64 pL, .int .i64 pE, .int .i64 ((room : Nat) : Int), .int .i64 hv, .slice (some ⟨gr, 0, none⟩) ranks ranks, .pointer (some ⟨t, 0, none⟩)] 187, .row (.slice (some ⟨gr, 0, none⟩) ranks ranks) 86 2 ranks (List.flatMap bukL rs), .blk t #[sv, .int .i64 ((room : Nat) : Int), .func (.func 103) #[] #[]] 228, .row (sv) 230 3 (List.length xs) (List.flatMap pairLB xs), .row (.slice (some ⟨gd, 0, none⟩) (List.length rs) capd) 119 4 (List.length rs) (List.flatMap (dbL rL rE) rs), .row (.slice (some ⟨gw, 0, none⟩) (List.length xs) cw) 206 5 (List.length xs) (List.flatMap (dpL pL pE) xs), .blk g1 #[.pointer (some ⟨p, 0, none⟩)] 82, .blk g2 #[.slice (some ⟨gd, 0, none⟩) (List.length rs) capd, .slice (some ⟨gw, 0, none⟩) (List.length xs) cw, .int .i64 pL, .int .i64 pE, .int .i64 0, .int .i64 0, .int .i64 ((room : Nat) : Int)] 124, .blk g3 #[.int .i64 rL, .int .i64 rE, .int .i64 pL, .int .i64 pE, .int .i64 ((room : Nat) : Int), .int .i64 hv] 80, .blk g4 #[.bool false] 4, .blk g5 #[.bool qq] 4])) W2 W2 [.blk b #[.int .i64 x.2.1, .int .i64 x.2.2] 86, .blk g6 #[.int .i64 ((c : Nat) : Int)] 3, .blk q #[.pointer (some ⟨t, 0, none⟩)] 182, .blk p #[.int .i64 rL, .int .i64 rE, .int .i64 pL, .int .i64 pE, .int .i64 ((room : Nat) : Int), .int .i64 hv, .slice (some ⟨gr, 0, none⟩) ranks ranks, .pointer (some ⟨t, 0, none⟩)] 187, .row (.slice (some ⟨gr, 0, none⟩) ranks ranks) 86 2 ranks (List.flatMap bukL rs), .blk t #[sv, .int .i64 ((room : Nat) : Int), .func (.func 103) #[] #[]] 228, .row (sv) 230 3 (List.length xs) (List.flatMap pairLB xs), .row (.slice (some ⟨gd, 0, none⟩) (List.length rs) capd) 119 4 (List.length rs) (List.flatMap (dbL rL rE) rs), .row (.slice (some ⟨gw, 0, none⟩) (List.length xs) cw) 206 5 (List.length xs) (List.flatMap (dpL pL pE) xs), .blk g1 #[.pointer (some ⟨p, 0, none⟩)] 82, .blk g2 #[.slice (some ⟨gd, 0, none⟩) (List.length rs) capd, .slice (some ⟨gw, 0, none⟩) (List.length xs) cw, .int .i64 pL, .int .i64 pE, .int .i64 0, .int .i64 0, .int .i64 ((room : Nat) : Int)] 124, .blk g3 #[.int .i64 rL, .int .i64 rE, .int .i64 pL, .int .i64 pE, .int .i64 ((room : Nat) : Int), .int .i64 hv] 80, .blk g4 #[.bool false] 4, .blk g5 #[.bool qq] 4] := H
        refine x_block ?_
        refine x_seq ?_
        refine x_seq ?_
        refine x_region_whole (fun w' => Hs (fps [.blk b #[.int .i64 x.2.1, .int .i64 x.2.2] 86] ++ (fps [.blk g6 #[.int .i64 ((0 : Nat) : Int)] 3, .blk q #[.pointer (some ⟨t, 0, none⟩)] 182, .blk p #[.int .i64 rL, .int .i64 rE, .int .i64 pL, .int .i64 pE, .int .i64 ((room : Nat) : Int), .int .i64 hv, .slice (some ⟨gr, 0, none⟩) ranks ranks, .pointer (some ⟨t, 0, none⟩)] 187, .row (.slice (some ⟨gr, 0, none⟩) ranks ranks) 86 2 ranks (List.flatMap bukL rs), .blk t #[sv, .int .i64 ((room : Nat) : Int), .func (.func 103) #[] #[]] 228, .row (sv) 230 3 (List.length xs) (List.flatMap pairLB xs), .row (.slice (some ⟨gd, 0, none⟩) (List.length rs) capd) 119 4 (List.length rs) (List.flatMap (dbL rL rE) rs), .row (.slice (some ⟨gw, 0, none⟩) (List.length xs) cw) 206 5 (List.length xs) (List.flatMap (dpL pL pE) xs), .blk g1 #[.pointer (some ⟨p, 0, none⟩)] 82, .blk g2 #[.slice (some ⟨gd, 0, none⟩) (List.length rs) capd, .slice (some ⟨gw, 0, none⟩) (List.length xs) cw, .int .i64 pL, .int .i64 pE, .int .i64 0, .int .i64 0, .int .i64 ((room : Nat) : Int)] 124, .blk g3 #[.int .i64 rL, .int .i64 rE, .int .i64 pL, .int .i64 pE, .int .i64 ((room : Nat) : Int), .int .i64 hv] 80, .blk g4 #[.bool false] 4, .blk g5 #[.bool qq] 4])) W2 w' [.blk b #[.int .i64 x.2.1, .int .i64 x.2.2] 86, .blk g6 #[.int .i64 ((c : Nat) : Int)] 3, .blk q #[.pointer (some ⟨t, 0, none⟩)] 182, .blk p #[.int .i64 rL, .int .i64 rE, .int .i64 pL, .int .i64 pE, .int .i64 ((room : Nat) : Int), .int .i64 hv, .slice (some ⟨gr, 0, none⟩) ranks ranks, .pointer (some ⟨t, 0, none⟩)] 187, .row (.slice (some ⟨gr, 0, none⟩) ranks ranks) 86 2 ranks (List.flatMap bukL rs), .blk t #[sv, .int .i64 ((room : Nat) : Int), .func (.func 103) #[] #[]] 228, .row (sv) 230 3 (List.length xs) (List.flatMap pairLB xs), .row (.slice (some ⟨gd, 0, none⟩) (List.length rs) capd) 119 4 (List.length rs) (List.flatMap (dbL rL rE) rs), .row (.slice (some ⟨gw, 0, none⟩) (List.length xs) cw) 206 5 (List.length xs) (List.flatMap (dpL pL pE) xs), .blk g1 #[.pointer (some ⟨p, 0, none⟩)] 82, .blk g2 #[.slice (some ⟨gd, 0, none⟩) (List.length rs) capd, .slice (some ⟨gw, 0, none⟩) (List.length xs) cw, .int .i64 pL, .int .i64 pE, .int .i64 0, .int .i64 0, .int .i64 ((room : Nat) : Int)] 124, .blk g3 #[.int .i64 rL, .int .i64 rE, .int .i64 pL, .int .i64 pE, .int .i64 ((room : Nat) : Int), .int .i64 hv] 80, .blk g4 #[.bool false] 4, .blk g5 #[.bool qq] 4]) (by kernel_rfl) (by kernel_rfl) (by kernel_rfl) H.drew ?_
        refine q_load1 1 g6 0 #[.int .i64 ((c : Nat) : Int)] 3 (.int .i64 ((c : Nat) : Int)) (by kernel_rfl) (by kernel_rfl) (by kernel_rfl) (fun _ => by kernel_rfl) ?_
        refine q_val (.pointer (some ⟨g2, 1, none⟩)) (by kernel_rfl) (fun _ => by kernel_rfl) ?_
        refine q_load1 10 g2 1 #[.slice (some ⟨gd, 0, none⟩) (List.length rs) capd, .slice (some ⟨gw, 0, none⟩) (List.length xs) cw, .int .i64 pL, .int .i64 pE, .int .i64 0, .int .i64 0, .int .i64 ((room : Nat) : Int)] 124 (.slice (some ⟨gw, 0, none⟩) (List.length xs) cw) (by kernel_rfl) (by kernel_rfl) (by kernel_rfl) (fun _ => by kernel_rfl) ?_
        refine q_val (.int .i64 (((List.length xs) : Nat) : Int)) (by kernel_rfl) (fun _ => by kernel_rfl) ?_
        refine q_val (.bool (decide ((((List.length xs) : Nat) : Int) ≤ ((c : Nat) : Int)))) (by kernel_rfl) (fun _ => by kernel_rfl) ?_
        refine q_val (.bool (decide ((((List.length xs) : Nat) : Int) ≤ ((c : Nat) : Int)))) (by kernel_rfl) (fun _ => by kernel_rfl) ?_
        cases h5 : decide ((((List.length xs) : Nat) : Int) ≤ ((c : Nat) : Int))
        · skip
          have h5p := of_decide_eq_false h5
          refine q_val (.pointer (some ⟨g2, 1, none⟩)) (by kernel_rfl) (fun _ => by kernel_rfl) ?_
          refine q_load1 10 g2 1 #[.slice (some ⟨gd, 0, none⟩) (List.length rs) capd, .slice (some ⟨gw, 0, none⟩) (List.length xs) cw, .int .i64 pL, .int .i64 pE, .int .i64 0, .int .i64 0, .int .i64 ((room : Nat) : Int)] 124 (.slice (some ⟨gw, 0, none⟩) (List.length xs) cw) (by kernel_rfl) (by kernel_rfl) (by kernel_rfl) (fun _ => by kernel_rfl) ?_
          refine q_load1 1 g6 0 #[.int .i64 ((c : Nat) : Int)] 3 (.int .i64 ((c : Nat) : Int)) (by kernel_rfl) (by kernel_rfl) (by kernel_rfl) (fun _ => by kernel_rfl) ?_
          refine q_ix (t := 122) gw 0 c (List.length xs) cw 206 5 (c * 5) (by omega) (by omega) (by kernel_rfl) (by kernel_rfl) (by kernel_rfl) (fun _ => by kernel_rfl) ?_
          refine q_val (.pointer (some ⟨gw, c * 5, none⟩)) (by kernel_rfl) (fun _ => by kernel_rfl) ?_
          refine q_loadc gw (c * 5) (.int .i64 ((xs.getD c (0, 0, 0)).1)) (fun _ H => (H.rowCells 8 rfl (c * 5) (flatAt (dpLen pL pE) (0, 0, 0) _ (by omega))) 0 _ rfl) (by kernel_rfl) (fun _ => by kernel_rfl) ?_
          refine q_val (.int .i64 x.1) (by kernel_rfl) (fun _ => by kernel_rfl) ?_
          refine q_val (.bool (!(decide (((xs.getD c (0, 0, 0)).1) = x.1)))) (by kernel_rfl) (fun _ => by kernel_rfl) ?_
          refine q_val (.bool (!(decide (((xs.getD c (0, 0, 0)).1) = x.1)))) (by kernel_rfl) (fun _ => by kernel_rfl) ?_
          refine q_val (.bool (!(decide (((xs.getD c (0, 0, 0)).1) = x.1)))) (by kernel_rfl) (fun _ => by kernel_rfl) ?_
          cases h6 : decide (((xs.getD c (0, 0, 0)).1) = x.1)
          · skip
            have h6p := of_decide_eq_false h6
            refine q_skip (by kernel_rfl) ?_
            refine q_skip (by kernel_rfl) ?_
            refine q_skip (by kernel_rfl) ?_
            refine q_skip (by kernel_rfl) ?_
            refine q_skip (by kernel_rfl) ?_
            refine q_skip (by kernel_rfl) ?_
            refine q_skip (by kernel_rfl) ?_
            refine q_skip (by kernel_rfl) ?_
            refine q_skip (by kernel_rfl) ?_
            refine q_skip (by kernel_rfl) ?_
            refine q_skip (by kernel_rfl) ?_
            refine q_val (.bool true) (by kernel_rfl) (fun _ => by kernel_rfl) ?_
            refine q_nil ?_
            clear H
            intro v23 H
            refine x_then ?_
            refine x_t (by kernel_rfl) ?_
            refine x_seq ?_
            refine x_region ?_
            refine x_store (t := 4) (v := .bool false) H 12 g4 0 _ #[.bool false] 4 [.bool false] _ rfl rfl (by kernel_rfl) (by kernel_rfl) (by kernel_rfl) rfl (by kernel_rfl) (by kernel_rfl) (by kernel_rfl) (by kernel_rfl) ?_
            clear H
            intro v24 H
            refine x_nil ?_
            refine x_then ?_
            refine x_retc ?_
            refine x_then_ret ?_
            refine x_blk_ret ?_
            replace H := H.pick [1, 2, 3, 4, 5, 6, 7, 8, 9, 10, 11, 12, 13] [.blk g6 #[.int .i64 ((c : Nat) : Int)] 3, .blk q #[.pointer (some ⟨t, 0, none⟩)] 182, .blk p #[.int .i64 rL, .int .i64 rE, .int .i64 pL, .int .i64 pE, .int .i64 ((room : Nat) : Int), .int .i64 hv, .slice (some ⟨gr, 0, none⟩) ranks ranks, .pointer (some ⟨t, 0, none⟩)] 187, .row (.slice (some ⟨gr, 0, none⟩) ranks ranks) 86 2 ranks (List.flatMap bukL rs), .blk t #[sv, .int .i64 ((room : Nat) : Int), .func (.func 103) #[] #[]] 228, .row (sv) 230 3 (List.length xs) (List.flatMap pairLB xs), .row (.slice (some ⟨gd, 0, none⟩) (List.length rs) capd) 119 4 (List.length rs) (List.flatMap (dbL rL rE) rs), .row (.slice (some ⟨gw, 0, none⟩) (List.length xs) cw) 206 5 (List.length xs) (List.flatMap (dpL pL pE) xs), .blk g1 #[.pointer (some ⟨p, 0, none⟩)] 82, .blk g2 #[.slice (some ⟨gd, 0, none⟩) (List.length rs) capd, .slice (some ⟨gw, 0, none⟩) (List.length xs) cw, .int .i64 pL, .int .i64 pE, .int .i64 0, .int .i64 0, .int .i64 ((room : Nat) : Int)] 124, .blk g3 #[.int .i64 rL, .int .i64 rE, .int .i64 pL, .int .i64 pE, .int .i64 ((room : Nat) : Int), .int .i64 hv] 80, .blk g4 #[.bool false] 4, .blk g5 #[.bool qq] 4] (by decide) (by kernel_rfl)
            exact ⟨(c, qq), ⟨rfl, (fun hp => by have z := prefix_getB hp; rw [← hI.1] at z; exact absurd (congrArg Prod.fst z.1) (of_decide_eq_false h6))⟩, H⟩
          · skip
            have h6p := of_decide_eq_true h6
            refine q_val (.pointer (some ⟨g3, 2, none⟩)) (by kernel_rfl) (fun _ => by kernel_rfl) ?_
            refine q_loadn (t := 78) 11 g3 2 #[.int .i64 rL, .int .i64 rE, .int .i64 pL, .int .i64 pE, .int .i64 ((room : Nat) : Int), .int .i64 hv] 80 [.int .i64 pL, .int .i64 pE] (by kernel_rfl) (by kernel_rfl) (by kernel_rfl) (by kernel_rfl) (by kernel_rfl) ?_
            refine q_loadn (t := 86) 0 b 0 #[.int .i64 x.2.1, .int .i64 x.2.2] 86 [.int .i64 x.2.1, .int .i64 x.2.2] (by kernel_rfl) (by kernel_rfl) (by kernel_rfl) (by kernel_rfl) (by kernel_rfl) ?_
            refine q_callB (.agg #[.int .i64 pL, .int .i64 pE, .int .i64 x.2.1, .int .i64 x.2.2]) (by kernel_rfl) (fun _ => by kernel_rfl) (fun _ => (ofB pL pE x.2.1 x.2.2 _)) ?_
            refine q_val (.pointer (some ⟨g2, 1, none⟩)) (by kernel_rfl) (fun _ => by kernel_rfl) ?_
            refine q_load1 10 g2 1 #[.slice (some ⟨gd, 0, none⟩) (List.length rs) capd, .slice (some ⟨gw, 0, none⟩) (List.length xs) cw, .int .i64 pL, .int .i64 pE, .int .i64 0, .int .i64 0, .int .i64 ((room : Nat) : Int)] 124 (.slice (some ⟨gw, 0, none⟩) (List.length xs) cw) (by kernel_rfl) (by kernel_rfl) (by kernel_rfl) (fun _ => by kernel_rfl) ?_
            refine q_load1 1 g6 0 #[.int .i64 ((c : Nat) : Int)] 3 (.int .i64 ((c : Nat) : Int)) (by kernel_rfl) (by kernel_rfl) (by kernel_rfl) (fun _ => by kernel_rfl) ?_
            refine q_ix (t := 122) gw 0 c (List.length xs) cw 206 5 (c * 5) (by omega) (by omega) (by kernel_rfl) (by kernel_rfl) (by kernel_rfl) (fun _ => by kernel_rfl) ?_
            refine q_val (.pointer (some ⟨gw, c * 5 + 1, none⟩)) (by kernel_rfl) (fun _ => by kernel_rfl) ?_
            refine q_loadcn (t := 119) gw (c * 5 + 1) [.int .i64 pL, .int .i64 pE, .int .i64 ((xs.getD c (0, 0, 0)).2.1), .int .i64 ((xs.getD c (0, 0, 0)).2.2)] (fun _ H => subCells (vs := [.int .i64 ((xs.getD c (0, 0, 0)).1), .int .i64 pL, .int .i64 pE, .int .i64 ((xs.getD c (0, 0, 0)).2.1), .int .i64 ((xs.getD c (0, 0, 0)).2.2)]) (H.rowCells 8 rfl (c * 5) (flatAt (dpLen pL pE) (0, 0, 0) _ (by omega))) 1 _ rfl) (by kernel_rfl) (by kernel_rfl) (by kernel_rfl) ?_
            refine q_val (.bool (!(decide ((pL : Int) = pL) && (decide ((pE : Int) = pE) && (decide ((x.2.1 : Int) = ((xs.getD c (0, 0, 0)).2.1)) && (decide ((x.2.2 : Int) = ((xs.getD c (0, 0, 0)).2.2)) && true)))))) (by kernel_rfl) (fun _ => (run_neS (t := 119) (x := .tmp 61) (y := .tmp 67) (xs := #[.int .i64 pL, .int .i64 pE, .int .i64 x.2.1, .int .i64 x.2.2]) (ys := #[.int .i64 pL, .int .i64 pE, .int .i64 ((xs.getD c (0, 0, 0)).2.1), .int .i64 ((xs.getD c (0, 0, 0)).2.2)]) (B := decide ((pL : Int) = pL) && (decide ((pE : Int) = pE) && (decide ((x.2.1 : Int) = ((xs.getD c (0, 0, 0)).2.1)) && (decide ((x.2.2 : Int) = ((xs.getD c (0, 0, 0)).2.2)) && true)))) (by kernel_rfl) (by kernel_rfl) (by kernel_rfl))) ?_
            refine q_val (.bool (!(decide ((pL : Int) = pL) && (decide ((pE : Int) = pE) && (decide ((x.2.1 : Int) = ((xs.getD c (0, 0, 0)).2.1)) && (decide ((x.2.2 : Int) = ((xs.getD c (0, 0, 0)).2.2)) && true)))))) (by kernel_rfl) (fun _ => by kernel_rfl) ?_
            refine q_nil ?_
            clear H
            intro v25 H
            refine x_then ?_
            cases h7 : decide ((pL : Int) = pL) && (decide ((pE : Int) = pE) && (decide ((x.2.1 : Int) = ((xs.getD c (0, 0, 0)).2.1)) && (decide ((x.2.2 : Int) = ((xs.getD c (0, 0, 0)).2.2)) && true)))
            · skip
              refine x_t (by kernel_rfl) ?_
              refine x_seq ?_
              refine x_region ?_
              refine x_store (t := 4) (v := .bool false) H 12 g4 0 _ #[.bool false] 4 [.bool false] _ rfl rfl (by kernel_rfl) (by kernel_rfl) (by kernel_rfl) rfl (by kernel_rfl) (by kernel_rfl) (by kernel_rfl) (by kernel_rfl) ?_
              clear H
              intro v26 H
              refine x_nil ?_
              refine x_then ?_
              refine x_retc ?_
              refine x_then_ret ?_
              refine x_blk_ret ?_
              replace H := H.pick [1, 2, 3, 4, 5, 6, 7, 8, 9, 10, 11, 12, 13] [.blk g6 #[.int .i64 ((c : Nat) : Int)] 3, .blk q #[.pointer (some ⟨t, 0, none⟩)] 182, .blk p #[.int .i64 rL, .int .i64 rE, .int .i64 pL, .int .i64 pE, .int .i64 ((room : Nat) : Int), .int .i64 hv, .slice (some ⟨gr, 0, none⟩) ranks ranks, .pointer (some ⟨t, 0, none⟩)] 187, .row (.slice (some ⟨gr, 0, none⟩) ranks ranks) 86 2 ranks (List.flatMap bukL rs), .blk t #[sv, .int .i64 ((room : Nat) : Int), .func (.func 103) #[] #[]] 228, .row (sv) 230 3 (List.length xs) (List.flatMap pairLB xs), .row (.slice (some ⟨gd, 0, none⟩) (List.length rs) capd) 119 4 (List.length rs) (List.flatMap (dbL rL rE) rs), .row (.slice (some ⟨gw, 0, none⟩) (List.length xs) cw) 206 5 (List.length xs) (List.flatMap (dpL pL pE) xs), .blk g1 #[.pointer (some ⟨p, 0, none⟩)] 82, .blk g2 #[.slice (some ⟨gd, 0, none⟩) (List.length rs) capd, .slice (some ⟨gw, 0, none⟩) (List.length xs) cw, .int .i64 pL, .int .i64 pE, .int .i64 0, .int .i64 0, .int .i64 ((room : Nat) : Int)] 124, .blk g3 #[.int .i64 rL, .int .i64 rE, .int .i64 pL, .int .i64 pE, .int .i64 ((room : Nat) : Int), .int .i64 hv] 80, .blk g4 #[.bool false] 4, .blk g5 #[.bool qq] 4] (by decide) (by kernel_rfl)
              exact ⟨(c, qq), ⟨rfl, (fun hp => by have z := prefix_getB hp; rw [← hI.1] at z; rw [z.1] at h7; simp at h7)⟩, H⟩
            · skip
              refine x_f (by kernel_rfl) ?_
              refine x_skipc ?_
              refine x_then ?_
              refine x_seq ?_
              refine x_seq ?_
              refine x_region ?_
              refine x_load1 H 9 g1 0 _ _ (.pointer (some ⟨p, 0, none⟩)) rfl (by kernel_rfl) (by kernel_rfl) rfl (by kernel_rfl) ?_
              refine x_val (.int .i64 x.1) (by kernel_rfl) rfl (by kernel_rfl) ?_
              have hcl : c < xs.length := by omega
              have hxe : x = xs.getD c (0, 0, 0) := by have z1 := h6p; have z2 := h7; simp only [Bool.and_eq_true, decide_eq_true_eq, and_true] at z2; exact Prod.ext (by omega) (Prod.ext (by omega) (by omega))
              have hpg := hu.pg hcl hxe
              refine x_callB (.tuple #[.agg #[.int .i64 x.2.1, .int .i64 x.2.2], .bool true]) H (by kernel_rfl) rfl (by kernel_rfl) (by have h := Page_any x.1 (by omega) _ (H.roOf [3, 5, 6] [.blk p #[.int .i64 rL, .int .i64 rE, .int .i64 pL, .int .i64 pE, .int .i64 ((room : Nat) : Int), .int .i64 hv, .slice (some ⟨gr, 0, none⟩) ranks ranks, .pointer (some ⟨t, 0, none⟩)] 187, .blk t #[sv, .int .i64 ((room : Nat) : Int), .func (.func 103) #[] #[]] 228, .row (sv) 230 3 (List.length xs) (List.flatMap pairLB xs)] (by kernel_rfl)); rw [hpg.1, hpg.2] at h; exact h) ?_
              clear H
              intro v27 H
              refine x_val (.tuple #[.agg #[.int .i64 x.2.1, .int .i64 x.2.2], .bool true]) (by kernel_rfl) rfl (by kernel_rfl) ?_
              refine x_val (.agg #[.int .i64 x.2.1, .int .i64 x.2.2]) (by kernel_rfl) rfl (by kernel_rfl) ?_
              refine x_val (.bool true) (by kernel_rfl) rfl (by kernel_rfl) ?_
              refine x_box H #[.int .i64 0, .int .i64 0] 86 (by kernel_rfl) rfl (by kernel_rfl) ?_
              clear H
              intro v28 g9 H
              refine x_store (t := 86) (v := .agg #[.int .i64 x.2.1, .int .i64 x.2.2]) H 0 g9 0 _ #[.int .i64 x.2.1, .int .i64 x.2.2] 86 [.int .i64 x.2.1, .int .i64 x.2.2] [.blk g9 #[.int .i64 x.2.1, .int .i64 x.2.2] 86, .blk b #[.int .i64 x.2.1, .int .i64 x.2.2] 86, .blk g6 #[.int .i64 ((c : Nat) : Int)] 3, .blk q #[.pointer (some ⟨t, 0, none⟩)] 182, .blk p #[.int .i64 rL, .int .i64 rE, .int .i64 pL, .int .i64 pE, .int .i64 ((room : Nat) : Int), .int .i64 hv, .slice (some ⟨gr, 0, none⟩) ranks ranks, .pointer (some ⟨t, 0, none⟩)] 187, .row (.slice (some ⟨gr, 0, none⟩) ranks ranks) 86 2 ranks (List.flatMap bukL rs), .blk t #[sv, .int .i64 ((room : Nat) : Int), .func (.func 103) #[] #[]] 228, .row (sv) 230 3 (List.length xs) (List.flatMap pairLB xs), .row (.slice (some ⟨gd, 0, none⟩) (List.length rs) capd) 119 4 (List.length rs) (List.flatMap (dbL rL rE) rs), .row (.slice (some ⟨gw, 0, none⟩) (List.length xs) cw) 206 5 (List.length xs) (List.flatMap (dpL pL pE) xs), .blk g1 #[.pointer (some ⟨p, 0, none⟩)] 82, .blk g2 #[.slice (some ⟨gd, 0, none⟩) (List.length rs) capd, .slice (some ⟨gw, 0, none⟩) (List.length xs) cw, .int .i64 pL, .int .i64 pE, .int .i64 0, .int .i64 0, .int .i64 ((room : Nat) : Int)] 124, .blk g3 #[.int .i64 rL, .int .i64 rE, .int .i64 pL, .int .i64 pE, .int .i64 ((room : Nat) : Int), .int .i64 hv] 80, .blk g4 #[.bool false] 4, .blk g5 #[.bool qq] 4] rfl rfl (by kernel_rfl) (by kernel_rfl) (by kernel_rfl) (by kernel_rfl) (by kernel_rfl) (by kernel_rfl) (by kernel_rfl) (by kernel_rfl) ?_
              clear H
              intro v29 H
              refine x_val (.bool true) (by kernel_rfl) rfl (by kernel_rfl) ?_
              refine x_nil ?_
              refine x_then ?_
              refine x_seq ?_
              refine x_region ?_
              refine x_loadn (t := 86) H 0 g9 0 _ _ [.int .i64 x.2.1, .int .i64 x.2.2] rfl (by kernel_rfl) (by kernel_rfl) rfl (by kernel_rfl) (by kernel_rfl) ?_
              refine x_loadn (t := 86) H 1 b 0 _ _ [.int .i64 x.2.1, .int .i64 x.2.2] rfl (by kernel_rfl) (by kernel_rfl) rfl (by kernel_rfl) (by kernel_rfl) ?_
              have h8 : (decide ((x.2.1 : Int) = x.2.1) && (decide ((x.2.2 : Int) = x.2.2) && true)) = true := by simp
              refine x_val (.bool false) (by kernel_rfl) rfl ((run_neS (t := 86) (x := .tmp 76) (y := .tmp 77) (xs := #[.int .i64 x.2.1, .int .i64 x.2.2]) (ys := #[.int .i64 x.2.1, .int .i64 x.2.2]) (B := decide ((x.2.1 : Int) = x.2.1) && (decide ((x.2.2 : Int) = x.2.2) && true)) (by kernel_rfl) (by kernel_rfl) (by kernel_rfl)).trans (by rw [h8]; try rfl)) ?_
              refine x_val (.bool false) (by kernel_rfl) rfl (by kernel_rfl) ?_
              refine x_val (.bool true) (by kernel_rfl) rfl (by kernel_rfl) ?_
              refine x_val (.bool false) (by kernel_rfl) rfl (by kernel_rfl) ?_
              refine x_val (.bool false) (by kernel_rfl) rfl (by kernel_rfl) ?_
              refine x_nil ?_
              refine x_then ?_
              refine x_f (by kernel_rfl) ?_
              refine x_skipc ?_
              refine x_then ?_
              refine x_seq ?_
              refine x_region ?_
              refine x_load1 H 14 g5 0 _ _ (.bool qq) rfl (by kernel_rfl) (by kernel_rfl) rfl (by kernel_rfl) ?_
              refine x_val (.bool qq) (by kernel_rfl) rfl (by kernel_rfl) ?_
              cases h9 : qq
              · skip
                refine x_skip (by kernel_rfl) ?_
                refine x_skip (by kernel_rfl) ?_
                refine x_skip (by kernel_rfl) ?_
                refine x_val (.bool false) (by kernel_rfl) rfl (by kernel_rfl) ?_
                refine x_store (t := 4) (v := .bool false) H 14 g5 0 _ #[.bool false] 4 [.bool false] _ rfl rfl (by kernel_rfl) (by kernel_rfl) (by kernel_rfl) rfl (by kernel_rfl) (by kernel_rfl) (by kernel_rfl) (by kernel_rfl) ?_
                clear H
                intro v30 H
                refine x_nil ?_
                refine x_then ?_
                refine x_region ?_
                refine x_load1 H 2 g6 0 _ _ (.int .i64 ((c : Nat) : Int)) rfl (by kernel_rfl) (by kernel_rfl) rfl (by kernel_rfl) ?_
                refine x_ar (((c : Nat) : Int) + 1) ⟨by omega, by omega⟩ (by kernel_rfl) rfl (by kernel_rfl) ?_
                refine x_store (t := 3) (v := .int .i64 (((c : Nat) : Int) + 1)) H 2 g6 0 _ #[.int .i64 (((c : Nat) : Int) + 1)] 3 [.int .i64 (((c : Nat) : Int) + 1)] _ rfl rfl (by kernel_rfl) (by kernel_rfl) (by kernel_rfl) rfl (by kernel_rfl) (by kernel_rfl) (by kernel_rfl) (by kernel_rfl) ?_
                clear H
                intro v31 H
                refine x_nil ?_
                refine x_blk ?_
                replace H := H.pick [2, 3, 4, 5, 6, 7, 8, 9, 10, 11, 12, 13, 14] [.blk g6 #[.int .i64 (((c : Nat) : Int) + 1)] 3, .blk q #[.pointer (some ⟨t, 0, none⟩)] 182, .blk p #[.int .i64 rL, .int .i64 rE, .int .i64 pL, .int .i64 pE, .int .i64 ((room : Nat) : Int), .int .i64 hv, .slice (some ⟨gr, 0, none⟩) ranks ranks, .pointer (some ⟨t, 0, none⟩)] 187, .row (.slice (some ⟨gr, 0, none⟩) ranks ranks) 86 2 ranks (List.flatMap bukL rs), .blk t #[sv, .int .i64 ((room : Nat) : Int), .func (.func 103) #[] #[]] 228, .row (sv) 230 3 (List.length xs) (List.flatMap pairLB xs), .row (.slice (some ⟨gd, 0, none⟩) (List.length rs) capd) 119 4 (List.length rs) (List.flatMap (dbL rL rE) rs), .row (.slice (some ⟨gw, 0, none⟩) (List.length xs) cw) 206 5 (List.length xs) (List.flatMap (dpL pL pE) xs), .blk g1 #[.pointer (some ⟨p, 0, none⟩)] 82, .blk g2 #[.slice (some ⟨gd, 0, none⟩) (List.length rs) capd, .slice (some ⟨gw, 0, none⟩) (List.length xs) cw, .int .i64 pL, .int .i64 pE, .int .i64 0, .int .i64 0, .int .i64 ((room : Nat) : Int)] 124, .blk g3 #[.int .i64 rL, .int .i64 rE, .int .i64 pL, .int .i64 pE, .int .i64 ((room : Nat) : Int), .int .i64 hv] 80, .blk g4 #[.bool false] 4, .blk g5 #[.bool false] 4] (by decide) (by kernel_rfl)
                exact ⟨((c + 1), false), ⟨(by simp; exact hI.1), (fun hp => by have z := quiet_nextX hk.b hk.c hp hI.2; rw [h9] at z; simpa using z)⟩, H⟩
              · skip
                refine x_val (.pointer (some ⟨b, 0, none⟩)) (by kernel_rfl) rfl (by kernel_rfl) ?_
                refine x_load1 H 1 b 0 _ _ (.int .i64 x.2.1) rfl (by kernel_rfl) (by kernel_rfl) rfl (by kernel_rfl) ?_
                refine x_val (.bool (decide (x.2.1 = 0))) (by kernel_rfl) rfl (by kernel_rfl) ?_
                refine x_val (.bool (decide (x.2.1 = 0))) (by kernel_rfl) rfl (by kernel_rfl) ?_
                refine x_store (t := 4) (v := .bool (decide (x.2.1 = 0))) H 14 g5 0 _ #[.bool (decide (x.2.1 = 0))] 4 [.bool (decide (x.2.1 = 0))] _ rfl rfl (by kernel_rfl) (by kernel_rfl) (by kernel_rfl) rfl (by kernel_rfl) (by kernel_rfl) (by kernel_rfl) (by kernel_rfl) ?_
                clear H
                intro v32 H
                refine x_nil ?_
                refine x_then ?_
                refine x_region ?_
                refine x_load1 H 2 g6 0 _ _ (.int .i64 ((c : Nat) : Int)) rfl (by kernel_rfl) (by kernel_rfl) rfl (by kernel_rfl) ?_
                refine x_ar (((c : Nat) : Int) + 1) ⟨by omega, by omega⟩ (by kernel_rfl) rfl (by kernel_rfl) ?_
                refine x_store (t := 3) (v := .int .i64 (((c : Nat) : Int) + 1)) H 2 g6 0 _ #[.int .i64 (((c : Nat) : Int) + 1)] 3 [.int .i64 (((c : Nat) : Int) + 1)] _ rfl rfl (by kernel_rfl) (by kernel_rfl) (by kernel_rfl) rfl (by kernel_rfl) (by kernel_rfl) (by kernel_rfl) (by kernel_rfl) ?_
                clear H
                intro v33 H
                refine x_nil ?_
                refine x_blk ?_
                replace H := H.pick [2, 3, 4, 5, 6, 7, 8, 9, 10, 11, 12, 13, 14] [.blk g6 #[.int .i64 (((c : Nat) : Int) + 1)] 3, .blk q #[.pointer (some ⟨t, 0, none⟩)] 182, .blk p #[.int .i64 rL, .int .i64 rE, .int .i64 pL, .int .i64 pE, .int .i64 ((room : Nat) : Int), .int .i64 hv, .slice (some ⟨gr, 0, none⟩) ranks ranks, .pointer (some ⟨t, 0, none⟩)] 187, .row (.slice (some ⟨gr, 0, none⟩) ranks ranks) 86 2 ranks (List.flatMap bukL rs), .blk t #[sv, .int .i64 ((room : Nat) : Int), .func (.func 103) #[] #[]] 228, .row (sv) 230 3 (List.length xs) (List.flatMap pairLB xs), .row (.slice (some ⟨gd, 0, none⟩) (List.length rs) capd) 119 4 (List.length rs) (List.flatMap (dbL rL rE) rs), .row (.slice (some ⟨gw, 0, none⟩) (List.length xs) cw) 206 5 (List.length xs) (List.flatMap (dpL pL pE) xs), .blk g1 #[.pointer (some ⟨p, 0, none⟩)] 82, .blk g2 #[.slice (some ⟨gd, 0, none⟩) (List.length rs) capd, .slice (some ⟨gw, 0, none⟩) (List.length xs) cw, .int .i64 pL, .int .i64 pE, .int .i64 0, .int .i64 0, .int .i64 ((room : Nat) : Int)] 124, .blk g3 #[.int .i64 rL, .int .i64 rE, .int .i64 pL, .int .i64 pE, .int .i64 ((room : Nat) : Int), .int .i64 hv] 80, .blk g4 #[.bool false] 4, .blk g5 #[.bool (decide (x.2.1 = 0))] 4] (by decide) (by kernel_rfl)
                exact ⟨((c + 1), (decide (x.2.1 = 0))), ⟨(by simp; exact hI.1), (fun hp => by have z := quiet_nextX hk.b hk.c hp hI.2; rw [h9] at z; simpa using z)⟩, H⟩
        · skip
          have h5p := of_decide_eq_true h5
          refine q_skip (by kernel_rfl) ?_
          refine q_skip (by kernel_rfl) ?_
          refine q_skip (by kernel_rfl) ?_
          refine q_skip (by kernel_rfl) ?_
          refine q_skip (by kernel_rfl) ?_
          refine q_skip (by kernel_rfl) ?_
          refine q_skip (by kernel_rfl) ?_
          refine q_skip (by kernel_rfl) ?_
          refine q_val (.bool true) (by kernel_rfl) (fun _ => by kernel_rfl) ?_
          refine q_val (.bool true) (by kernel_rfl) (fun _ => by kernel_rfl) ?_
          refine q_skip (by kernel_rfl) ?_
          refine q_skip (by kernel_rfl) ?_
          refine q_skip (by kernel_rfl) ?_
          refine q_skip (by kernel_rfl) ?_
          refine q_skip (by kernel_rfl) ?_
          refine q_skip (by kernel_rfl) ?_
          refine q_skip (by kernel_rfl) ?_
          refine q_skip (by kernel_rfl) ?_
          refine q_skip (by kernel_rfl) ?_
          refine q_skip (by kernel_rfl) ?_
          refine q_skip (by kernel_rfl) ?_
          refine q_val (.bool true) (by kernel_rfl) (fun _ => by kernel_rfl) ?_
          refine q_nil ?_
          clear H
          intro v34 H
          refine x_then ?_
          refine x_t (by kernel_rfl) ?_
          refine x_seq ?_
          refine x_region ?_
          refine x_store (t := 4) (v := .bool false) H 12 g4 0 _ #[.bool false] 4 [.bool false] [.blk b #[.int .i64 x.2.1, .int .i64 x.2.2] 86, .blk g6 #[.int .i64 ((c : Nat) : Int)] 3, .blk q #[.pointer (some ⟨t, 0, none⟩)] 182, .blk p #[.int .i64 rL, .int .i64 rE, .int .i64 pL, .int .i64 pE, .int .i64 ((room : Nat) : Int), .int .i64 hv, .slice (some ⟨gr, 0, none⟩) ranks ranks, .pointer (some ⟨t, 0, none⟩)] 187, .row (.slice (some ⟨gr, 0, none⟩) ranks ranks) 86 2 ranks (List.flatMap bukL rs), .blk t #[sv, .int .i64 ((room : Nat) : Int), .func (.func 103) #[] #[]] 228, .row (sv) 230 3 (List.length xs) (List.flatMap pairLB xs), .row (.slice (some ⟨gd, 0, none⟩) (List.length rs) capd) 119 4 (List.length rs) (List.flatMap (dbL rL rE) rs), .row (.slice (some ⟨gw, 0, none⟩) (List.length xs) cw) 206 5 (List.length xs) (List.flatMap (dpL pL pE) xs), .blk g1 #[.pointer (some ⟨p, 0, none⟩)] 82, .blk g2 #[.slice (some ⟨gd, 0, none⟩) (List.length rs) capd, .slice (some ⟨gw, 0, none⟩) (List.length xs) cw, .int .i64 pL, .int .i64 pE, .int .i64 0, .int .i64 0, .int .i64 ((room : Nat) : Int)] 124, .blk g3 #[.int .i64 rL, .int .i64 rE, .int .i64 pL, .int .i64 pE, .int .i64 ((room : Nat) : Int), .int .i64 hv] 80, .blk g4 #[.bool false] 4, .blk g5 #[.bool qq] 4] rfl rfl (by kernel_rfl) (by kernel_rfl) (by kernel_rfl) (by kernel_rfl) (by kernel_rfl) (by kernel_rfl) (by kernel_rfl) (by kernel_rfl) ?_
          clear H
          intro v35 H
          refine x_nil ?_
          refine x_then ?_
          refine x_retc ?_
          refine x_then_ret ?_
          refine x_blk_ret ?_
          replace H := H.pick [1, 2, 3, 4, 5, 6, 7, 8, 9, 10, 11, 12, 13] [.blk g6 #[.int .i64 ((c : Nat) : Int)] 3, .blk q #[.pointer (some ⟨t, 0, none⟩)] 182, .blk p #[.int .i64 rL, .int .i64 rE, .int .i64 pL, .int .i64 pE, .int .i64 ((room : Nat) : Int), .int .i64 hv, .slice (some ⟨gr, 0, none⟩) ranks ranks, .pointer (some ⟨t, 0, none⟩)] 187, .row (.slice (some ⟨gr, 0, none⟩) ranks ranks) 86 2 ranks (List.flatMap bukL rs), .blk t #[sv, .int .i64 ((room : Nat) : Int), .func (.func 103) #[] #[]] 228, .row (sv) 230 3 (List.length xs) (List.flatMap pairLB xs), .row (.slice (some ⟨gd, 0, none⟩) (List.length rs) capd) 119 4 (List.length rs) (List.flatMap (dbL rL rE) rs), .row (.slice (some ⟨gw, 0, none⟩) (List.length xs) cw) 206 5 (List.length xs) (List.flatMap (dpL pL pE) xs), .blk g1 #[.pointer (some ⟨p, 0, none⟩)] 82, .blk g2 #[.slice (some ⟨gd, 0, none⟩) (List.length rs) capd, .slice (some ⟨gw, 0, none⟩) (List.length xs) cw, .int .i64 pL, .int .i64 pE, .int .i64 0, .int .i64 0, .int .i64 ((room : Nat) : Int)] 124, .blk g3 #[.int .i64 rL, .int .i64 rE, .int .i64 pL, .int .i64 pE, .int .i64 ((room : Nat) : Int), .int .i64 hv] 80, .blk g4 #[.bool false] 4, .blk g5 #[.bool qq] 4] (by decide) (by kernel_rfl)
          exact ⟨(c, qq), ⟨rfl, (fun hp => by have z := prefix_getB hp; rw [← hI.1] at z; omega)⟩, H⟩
      · skip
        clear H
        rintro D ⟨c, qq⟩ W2 hI H
        have hI1 := hI.1
        have hI2 := hI.2 (List.prefix_refl _)
        refine x_blk ?_
        refine x_then ?_
        refine x_seq ?_
        cases h10 : decide (((c : Nat) : Int) = (((List.length xs) : Nat) : Int))
        · skip
          have h10p := of_decide_eq_false h10
          exact absurd h10p (by omega)
        · skip
          have h10p := of_decide_eq_true h10
          cases h11 : (decide (lev rs + levX xs = 0)) == qq
          · skip
            exact absurd (show ((decide (lev rs + levX xs = 0)) == qq) = true from by simp only [beq_iff_eq]; exact Bool.eq_iff_iff.2 (decide_eq_true_iff.trans hI2.symm)) (by rw [h11]; decide)
          · skip
            refine x_region_s 27 (fun w' => Hs M w0 w' [.obj D ((.deferred (some []))), .blk g6 #[.int .i64 ((c : Nat) : Int)] 3, .blk q #[.pointer (some ⟨t, 0, none⟩)] 182, .blk p #[.int .i64 rL, .int .i64 rE, .int .i64 pL, .int .i64 pE, .int .i64 ((room : Nat) : Int), .int .i64 hv, .slice (some ⟨gr, 0, none⟩) ranks ranks, .pointer (some ⟨t, 0, none⟩)] 187, .row (.slice (some ⟨gr, 0, none⟩) ranks ranks) 86 2 ranks (List.flatMap bukL rs), .blk t #[sv, .int .i64 ((room : Nat) : Int), .func (.func 103) #[] #[]] 228, .row (sv) 230 3 (List.length xs) (List.flatMap pairLB xs), .row (.slice (some ⟨gd, 0, none⟩) (List.length rs) capd) 119 4 (List.length rs) (List.flatMap (dbL rL rE) rs), .row (.slice (some ⟨gw, 0, none⟩) (List.length xs) cw) 206 5 (List.length xs) (List.flatMap (dpL pL pE) xs), .blk g1 #[.pointer (some ⟨p, 0, none⟩)] 82, .blk g2 #[.slice (some ⟨gd, 0, none⟩) (List.length rs) capd, .slice (some ⟨gw, 0, none⟩) (List.length xs) cw, .int .i64 pL, .int .i64 pE, .int .i64 0, .int .i64 0, .int .i64 ((room : Nat) : Int)] 124, .blk g3 #[.int .i64 rL, .int .i64 rE, .int .i64 pL, .int .i64 pE, .int .i64 ((room : Nat) : Int), .int .i64 hv] 80, .blk g5 #[.bool qq] 4]) (fun w' => Hs M w0 w' [.obj D ((.deferred (some []))), .blk g6 #[.int .i64 ((c : Nat) : Int)] 3, .blk q #[.pointer (some ⟨t, 0, none⟩)] 182, .blk p #[.int .i64 rL, .int .i64 rE, .int .i64 pL, .int .i64 pE, .int .i64 ((room : Nat) : Int), .int .i64 hv, .slice (some ⟨gr, 0, none⟩) ranks ranks, .pointer (some ⟨t, 0, none⟩)] 187, .row (.slice (some ⟨gr, 0, none⟩) ranks ranks) 86 2 ranks (List.flatMap bukL rs), .blk t #[sv, .int .i64 ((room : Nat) : Int), .func (.func 103) #[] #[]] 228, .row (sv) 230 3 (List.length xs) (List.flatMap pairLB xs), .row (.slice (some ⟨gd, 0, none⟩) (List.length rs) capd) 119 4 (List.length rs) (List.flatMap (dbL rL rE) rs), .row (.slice (some ⟨gw, 0, none⟩) (List.length xs) cw) 206 5 (List.length xs) (List.flatMap (dpL pL pE) xs), .blk g1 #[.pointer (some ⟨p, 0, none⟩)] 82, .blk g2 #[.slice (some ⟨gd, 0, none⟩) (List.length rs) capd, .slice (some ⟨gw, 0, none⟩) (List.length xs) cw, .int .i64 pL, .int .i64 pE, .int .i64 0, .int .i64 0, .int .i64 ((room : Nat) : Int)] 124, .blk g3 #[.int .i64 rL, .int .i64 rE, .int .i64 pL, .int .i64 pE, .int .i64 ((room : Nat) : Int), .int .i64 hv] 80, .blk g4 #[.bool false] 4, .blk g5 #[.bool qq] 4]) (by kernel_rfl) (by kernel_rfl) (by kernel_rfl) hsShut (fun _ h => h.pick [0, 1, 2, 3, 4, 5, 6, 7, 8, 9, 10, 11, 13] _ (by decide) (by kernel_rfl)) H.drew ?_
            refine s_quiet 0 rfl (by kernel_rfl) (y_load1 1 g6 0 #[.int .i64 ((c : Nat) : Int)] 3 (.int .i64 ((c : Nat) : Int)) (by kernel_rfl) (by kernel_rfl) (by kernel_rfl) (fun _ => by kernel_rfl)) ?_
            refine s_quiet 1 rfl (by kernel_rfl) (y_val (.pointer (some ⟨g2, 1, none⟩)) (by kernel_rfl) (fun _ => by kernel_rfl)) ?_
            refine s_quiet 2 rfl (by kernel_rfl) (y_load1 10 g2 1 #[.slice (some ⟨gd, 0, none⟩) (List.length rs) capd, .slice (some ⟨gw, 0, none⟩) (List.length xs) cw, .int .i64 pL, .int .i64 pE, .int .i64 0, .int .i64 0, .int .i64 ((room : Nat) : Int)] 124 (.slice (some ⟨gw, 0, none⟩) (List.length xs) cw) (by kernel_rfl) (by kernel_rfl) (by kernel_rfl) (fun _ => by kernel_rfl)) ?_
            refine s_quiet 3 rfl (by kernel_rfl) (y_val (.int .i64 (((List.length xs) : Nat) : Int)) (by kernel_rfl) (fun _ => by kernel_rfl)) ?_
            refine s_quiet 4 rfl (by kernel_rfl) (y_val (.bool (decide (((c : Nat) : Int) = (((List.length xs) : Nat) : Int)))) (by kernel_rfl) (fun _ => by kernel_rfl)) ?_
            refine s_quiet 5 rfl (by kernel_rfl) (y_val (.bool (decide (((c : Nat) : Int) = (((List.length xs) : Nat) : Int)))) (by kernel_rfl) (fun _ => by kernel_rfl)) ?_
            rw [h10]
            refine s_quiet 6 rfl (by kernel_rfl) (y_load1 9 g1 0 #[.pointer (some ⟨p, 0, none⟩)] 82 (.pointer (some ⟨p, 0, none⟩)) (by kernel_rfl) (by kernel_rfl) (by kernel_rfl) (fun _ => by kernel_rfl)) ?_
            refine s_quiet 8 rfl (by kernel_rfl) (y_load1 12 g5 0 #[.bool qq] 4 (.bool qq) (by kernel_rfl) (by kernel_rfl) (by kernel_rfl) (fun _ => by kernel_rfl)) ?_
            refine s_one 7 rfl (by kernel_rfl) rfl ?_
            clear H
            intro v36 H
            refine x_callH (.bool (decide (lev rs + levX xs = 0))) [.blk p #[.int .i64 rL, .int .i64 rE, .int .i64 pL, .int .i64 pE, .int .i64 ((room : Nat) : Int), .int .i64 hv, .slice (some ⟨gr, 0, none⟩) ranks ranks, .pointer (some ⟨t, 0, none⟩)] 187, .row (.slice (some ⟨gr, 0, none⟩) ranks ranks) 86 2 ranks (List.flatMap bukL rs), .blk t #[sv, .int .i64 ((room : Nat) : Int), .func (.func 103) #[] #[]] 228, .row (sv) 230 3 (List.length xs) (List.flatMap pairLB xs), .obj D ((.deferred (some []))), .blk g6 #[.int .i64 ((c : Nat) : Int)] 3, .blk q #[.pointer (some ⟨t, 0, none⟩)] 182, .row (.slice (some ⟨gd, 0, none⟩) (List.length rs) capd) 119 4 (List.length rs) (List.flatMap (dbL rL rE) rs), .row (.slice (some ⟨gw, 0, none⟩) (List.length xs) cw) 206 5 (List.length xs) (List.flatMap (dpL pL pE) xs), .blk g1 #[.pointer (some ⟨p, 0, none⟩)] 82, .blk g2 #[.slice (some ⟨gd, 0, none⟩) (List.length rs) capd, .slice (some ⟨gw, 0, none⟩) (List.length xs) cw, .int .i64 pL, .int .i64 pE, .int .i64 0, .int .i64 0, .int .i64 ((room : Nat) : Int)] 124, .blk g3 #[.int .i64 rL, .int .i64 rE, .int .i64 pL, .int .i64 pE, .int .i64 ((room : Nat) : Int), .int .i64 hv] 80, .blk g4 #[.bool false] 4, .blk g5 #[.bool qq] 4] (by kernel_rfl) rfl (by kernel_rfl) (Hs.use (A := [.blk p #[.int .i64 rL, .int .i64 rE, .int .i64 pL, .int .i64 pE, .int .i64 ((room : Nat) : Int), .int .i64 hv, .slice (some ⟨gr, 0, none⟩) ranks ranks, .pointer (some ⟨t, 0, none⟩)] 187, .row (.slice (some ⟨gr, 0, none⟩) ranks ranks) 86 2 ranks (List.flatMap bukL rs), .blk t #[sv, .int .i64 ((room : Nat) : Int), .func (.func 103) #[] #[]] 228, .row (sv) 230 3 (List.length xs) (List.flatMap pairLB xs)]) (R := [.obj D ((.deferred (some []))), .blk g6 #[.int .i64 ((c : Nat) : Int)] 3, .blk q #[.pointer (some ⟨t, 0, none⟩)] 182, .row (.slice (some ⟨gd, 0, none⟩) (List.length rs) capd) 119 4 (List.length rs) (List.flatMap (dbL rL rE) rs), .row (.slice (some ⟨gw, 0, none⟩) (List.length xs) cw) 206 5 (List.length xs) (List.flatMap (dpL pL pE) xs), .blk g1 #[.pointer (some ⟨p, 0, none⟩)] 82, .blk g2 #[.slice (some ⟨gd, 0, none⟩) (List.length rs) capd, .slice (some ⟨gw, 0, none⟩) (List.length xs) cw, .int .i64 pL, .int .i64 pE, .int .i64 0, .int .i64 0, .int .i64 ((room : Nat) : Int)] 124, .blk g3 #[.int .i64 rL, .int .i64 rE, .int .i64 pL, .int .i64 pE, .int .i64 ((room : Nat) : Int), .int .i64 hv] 80, .blk g4 #[.bool false] 4, .blk g5 #[.bool qq] 4]) (H.pick [3, 4, 5, 6, 0, 1, 2, 7, 8, 9, 10, 11, 12, 13] _ (by decide) (by kernel_rfl)) (fun h => Quiet_any hk.n hk.m hP.m hk.b hk.c _ h)) ?_
            clear H
            intro v37 H
            refine x_nil ?_
            refine x_then ?_
            refine ⟨fun w' => Hs M w0 w' [.blk p #[.int .i64 rL, .int .i64 rE, .int .i64 pL, .int .i64 pE, .int .i64 ((room : Nat) : Int), .int .i64 hv, .slice (some ⟨gr, 0, none⟩) ranks ranks, .pointer (some ⟨t, 0, none⟩)] 187, .row (.slice (some ⟨gr, 0, none⟩) ranks ranks) 86 2 ranks (List.flatMap bukL rs), .blk t #[sv, .int .i64 ((room : Nat) : Int), .func (.func 103) #[] #[]] 228, .row (sv) 230 3 (List.length xs) (List.flatMap pairLB xs), .obj D ((.deferred (some []))), .blk g6 #[.int .i64 ((c : Nat) : Int)] 3, .blk q #[.pointer (some ⟨t, 0, none⟩)] 182, .row (.slice (some ⟨gd, 0, none⟩) (List.length rs) capd) 119 4 (List.length rs) (List.flatMap (dbL rL rE) rs), .row (.slice (some ⟨gw, 0, none⟩) (List.length xs) cw) 206 5 (List.length xs) (List.flatMap (dpL pL pE) xs), .blk g1 #[.pointer (some ⟨p, 0, none⟩)] 82, .blk g2 #[.slice (some ⟨gd, 0, none⟩) (List.length rs) capd, .slice (some ⟨gw, 0, none⟩) (List.length xs) cw, .int .i64 pL, .int .i64 pE, .int .i64 0, .int .i64 0, .int .i64 ((room : Nat) : Int)] 124, .blk g3 #[.int .i64 rL, .int .i64 rE, .int .i64 pL, .int .i64 pE, .int .i64 ((room : Nat) : Int), .int .i64 hv] 80, .blk g5 #[.bool qq] 4], fun w' => Hs M w0 w' [.blk p #[.int .i64 rL, .int .i64 rE, .int .i64 pL, .int .i64 pE, .int .i64 ((room : Nat) : Int), .int .i64 hv, .slice (some ⟨gr, 0, none⟩) ranks ranks, .pointer (some ⟨t, 0, none⟩)] 187, .row (.slice (some ⟨gr, 0, none⟩) ranks ranks) 86 2 ranks (List.flatMap bukL rs), .blk t #[sv, .int .i64 ((room : Nat) : Int), .func (.func 103) #[] #[]] 228, .row (sv) 230 3 (List.length xs) (List.flatMap pairLB xs), .obj D ((.deferred (some []))), .blk g6 #[.int .i64 ((c : Nat) : Int)] 3, .blk q #[.pointer (some ⟨t, 0, none⟩)] 182, .row (.slice (some ⟨gd, 0, none⟩) (List.length rs) capd) 119 4 (List.length rs) (List.flatMap (dbL rL rE) rs), .row (.slice (some ⟨gw, 0, none⟩) (List.length xs) cw) 206 5 (List.length xs) (List.flatMap (dpL pL pE) xs), .blk g1 #[.pointer (some ⟨p, 0, none⟩)] 82, .blk g2 #[.slice (some ⟨gd, 0, none⟩) (List.length rs) capd, .slice (some ⟨gw, 0, none⟩) (List.length xs) cw, .int .i64 pL, .int .i64 pE, .int .i64 0, .int .i64 0, .int .i64 ((room : Nat) : Int)] 124, .blk g3 #[.int .i64 rL, .int .i64 rE, .int .i64 pL, .int .i64 pE, .int .i64 ((room : Nat) : Int), .int .i64 hv] 80, .blk g4 #[.bool false] 4, .blk g5 #[.bool qq] 4], H, hsShut, fun _ h => h.pick [0, 1, 2, 3, 4, 5, 6, 7, 8, 9, 10, 11, 13] _ (by decide) (by kernel_rfl), fun _ h => h.pick [4, 5, 6, 0, 1, 2, 3, 7, 8, 9, 10, 11, 12] _ (by decide) (by kernel_rfl), ?_⟩
            refine s_quiet 9 rfl (by kernel_rfl) (y_val (.bool ((decide (lev rs + levX xs = 0)) == qq)) (by kernel_rfl) (fun _ => by kernel_rfl)) ?_
            refine s_quiet 10 rfl (by kernel_rfl) (y_val (.bool ((decide (lev rs + levX xs = 0)) == qq)) (by kernel_rfl) (fun _ => by kernel_rfl)) ?_
            refine s_quiet 11 rfl (by kernel_rfl) (y_val (.bool ((decide (lev rs + levX xs = 0)) == qq)) (by kernel_rfl) (fun _ => by kernel_rfl)) ?_
            rw [h11]
            refine s_quiet 12 rfl (by kernel_rfl) (y_load1 9 g1 0 #[.pointer (some ⟨p, 0, none⟩)] 82 (.pointer (some ⟨p, 0, none⟩)) (by kernel_rfl) (by kernel_rfl) (by kernel_rfl) (fun _ => by kernel_rfl)) ?_
            refine s_quiet 13 rfl (by kernel_rfl) (y_callK (.agg #[.int .i64 0, .int .i64 0]) (by kernel_rfl) (fun _ => by kernel_rfl) (fun _ H => (Rank_no (-1) (.inl (by decide)) _ (H.roOf [0] [.blk p #[.int .i64 rL, .int .i64 rE, .int .i64 pL, .int .i64 pE, .int .i64 ((room : Nat) : Int), .int .i64 hv, .slice (some ⟨gr, 0, none⟩) ranks ranks, .pointer (some ⟨t, 0, none⟩)] 187] (by kernel_rfl))))) ?_
            refine s_quiet 14 rfl (by kernel_rfl) (y_val (.agg #[.int .i64 0, .int .i64 0]) (by kernel_rfl) (fun _ => by kernel_rfl)) ?_
            refine s_quiet 15 rfl (by kernel_rfl) (y_val (.bool true) (by kernel_rfl) (fun _ => (run_eqS (t := 86) (x := .tmp 104) (y := .tmp 105) (xs := #[.int .i64 0, .int .i64 0]) (ys := #[.int .i64 0, .int .i64 0]) (B := true) (by kernel_rfl) (by kernel_rfl) (by kernel_rfl)))) ?_
            refine s_quiet 16 rfl (by kernel_rfl) (y_val (.bool true) (by kernel_rfl) (fun _ => by kernel_rfl)) ?_
            refine s_quiet 17 rfl (by kernel_rfl) (y_val (.bool true) (by kernel_rfl) (fun _ => by kernel_rfl)) ?_
            refine s_quiet 18 rfl (by kernel_rfl) (y_load1 9 g1 0 #[.pointer (some ⟨p, 0, none⟩)] 82 (.pointer (some ⟨p, 0, none⟩)) (by kernel_rfl) (by kernel_rfl) (by kernel_rfl) (fun _ => by kernel_rfl)) ?_
            refine s_quiet 19 rfl (by kernel_rfl) (y_val (.pointer (some ⟨g2, 0, none⟩)) (by kernel_rfl) (fun _ => by kernel_rfl)) ?_
            refine s_quiet 20 rfl (by kernel_rfl) (y_load1 10 g2 0 #[.slice (some ⟨gd, 0, none⟩) (List.length rs) capd, .slice (some ⟨gw, 0, none⟩) (List.length xs) cw, .int .i64 pL, .int .i64 pE, .int .i64 0, .int .i64 0, .int .i64 ((room : Nat) : Int)] 124 (.slice (some ⟨gd, 0, none⟩) (List.length rs) capd) (by kernel_rfl) (by kernel_rfl) (by kernel_rfl) (fun _ => by kernel_rfl)) ?_
            refine s_quiet 21 rfl (by kernel_rfl) (y_val (.int .i64 (((List.length rs) : Nat) : Int)) (by kernel_rfl) (fun _ => by kernel_rfl)) ?_
            refine s_quiet 22 rfl (by kernel_rfl) (y_callK (.agg #[.int .i64 0, .int .i64 0]) (by kernel_rfl) (fun _ => by kernel_rfl) (fun _ H => (Rank_no (((List.length rs) : Nat) : Int) (.inr (by omega)) _ (H.roOf [0] [.blk p #[.int .i64 rL, .int .i64 rE, .int .i64 pL, .int .i64 pE, .int .i64 ((room : Nat) : Int), .int .i64 hv, .slice (some ⟨gr, 0, none⟩) ranks ranks, .pointer (some ⟨t, 0, none⟩)] 187] (by kernel_rfl))))) ?_
            refine s_quiet 23 rfl (by kernel_rfl) (y_val (.agg #[.int .i64 0, .int .i64 0]) (by kernel_rfl) (fun _ => by kernel_rfl)) ?_
            refine s_quiet 24 rfl (by kernel_rfl) (y_val (.bool true) (by kernel_rfl) (fun _ => (run_eqS (t := 86) (x := .tmp 113) (y := .tmp 114) (xs := #[.int .i64 0, .int .i64 0]) (ys := #[.int .i64 0, .int .i64 0]) (B := true) (by kernel_rfl) (by kernel_rfl) (by kernel_rfl)))) ?_
            refine s_quiet 25 rfl (by kernel_rfl) (y_val (.bool true) (by kernel_rfl) (fun _ => by kernel_rfl)) ?_
            refine s_one 26 rfl (by kernel_rfl) rfl ?_
            clear H
            intro v38 H
            refine x_store (t := 4) (v := .bool true) H 12 g4 0 _ #[.bool true] 4 [.bool true] _ rfl rfl (by kernel_rfl) (by kernel_rfl) (by kernel_rfl) rfl (by kernel_rfl) (by kernel_rfl) (by kernel_rfl) (by kernel_rfl) ?_
            clear H
            intro v39 H
            refine x_nil ?_
            refine x_then ?_
            refine ⟨fun w' => Hs M w0 w' [.blk p #[.int .i64 rL, .int .i64 rE, .int .i64 pL, .int .i64 pE, .int .i64 ((room : Nat) : Int), .int .i64 hv, .slice (some ⟨gr, 0, none⟩) ranks ranks, .pointer (some ⟨t, 0, none⟩)] 187, .row (.slice (some ⟨gr, 0, none⟩) ranks ranks) 86 2 ranks (List.flatMap bukL rs), .blk t #[sv, .int .i64 ((room : Nat) : Int), .func (.func 103) #[] #[]] 228, .row (sv) 230 3 (List.length xs) (List.flatMap pairLB xs), .obj D ((.deferred (some []))), .blk g6 #[.int .i64 ((c : Nat) : Int)] 3, .blk q #[.pointer (some ⟨t, 0, none⟩)] 182, .row (.slice (some ⟨gd, 0, none⟩) (List.length rs) capd) 119 4 (List.length rs) (List.flatMap (dbL rL rE) rs), .row (.slice (some ⟨gw, 0, none⟩) (List.length xs) cw) 206 5 (List.length xs) (List.flatMap (dpL pL pE) xs), .blk g1 #[.pointer (some ⟨p, 0, none⟩)] 82, .blk g2 #[.slice (some ⟨gd, 0, none⟩) (List.length rs) capd, .slice (some ⟨gw, 0, none⟩) (List.length xs) cw, .int .i64 pL, .int .i64 pE, .int .i64 0, .int .i64 0, .int .i64 ((room : Nat) : Int)] 124, .blk g3 #[.int .i64 rL, .int .i64 rE, .int .i64 pL, .int .i64 pE, .int .i64 ((room : Nat) : Int), .int .i64 hv] 80, .blk g4 #[.bool true] 4, .blk g5 #[.bool qq] 4], fun w' => Hs M w0 w' [.blk p #[.int .i64 rL, .int .i64 rE, .int .i64 pL, .int .i64 pE, .int .i64 ((room : Nat) : Int), .int .i64 hv, .slice (some ⟨gr, 0, none⟩) ranks ranks, .pointer (some ⟨t, 0, none⟩)] 187, .row (.slice (some ⟨gr, 0, none⟩) ranks ranks) 86 2 ranks (List.flatMap bukL rs), .blk t #[sv, .int .i64 ((room : Nat) : Int), .func (.func 103) #[] #[]] 228, .row (sv) 230 3 (List.length xs) (List.flatMap pairLB xs), .obj D ((.deferred (some []))), .blk g6 #[.int .i64 ((c : Nat) : Int)] 3, .blk q #[.pointer (some ⟨t, 0, none⟩)] 182, .row (.slice (some ⟨gd, 0, none⟩) (List.length rs) capd) 119 4 (List.length rs) (List.flatMap (dbL rL rE) rs), .row (.slice (some ⟨gw, 0, none⟩) (List.length xs) cw) 206 5 (List.length xs) (List.flatMap (dpL pL pE) xs), .blk g1 #[.pointer (some ⟨p, 0, none⟩)] 82, .blk g2 #[.slice (some ⟨gd, 0, none⟩) (List.length rs) capd, .slice (some ⟨gw, 0, none⟩) (List.length xs) cw, .int .i64 pL, .int .i64 pE, .int .i64 0, .int .i64 0, .int .i64 ((room : Nat) : Int)] 124, .blk g3 #[.int .i64 rL, .int .i64 rE, .int .i64 pL, .int .i64 pE, .int .i64 ((room : Nat) : Int), .int .i64 hv] 80, .blk g4 #[.bool true] 4, .blk g5 #[.bool qq] 4], H, hsShut, fun _ h => h.pick [0, 1, 2, 3, 4, 5, 6, 7, 8, 9, 10, 11, 12, 13] _ (by decide) (by kernel_rfl), fun _ h => h.pick [0, 1, 2, 3, 4, 5, 6, 7, 8, 9, 10, 11, 13] _ (by decide) (by kernel_rfl), ?_⟩
            refine s_done (by kernel_rfl) ?_
            clear H
            intro v40 H
            refine x_then ?_
            refine x_retc ?_
            refine x_retM1 [4, 0, 1, 2, 3, 5, 6, 7, 8, 9, 10, 11, 12, 13] [.blk p #[.int .i64 rL, .int .i64 rE, .int .i64 pL, .int .i64 pE, .int .i64 ((room : Nat) : Int), .int .i64 hv, .slice (some ⟨gr, 0, none⟩) ranks ranks, .pointer (some ⟨t, 0, none⟩)] 187, .row (.slice (some ⟨gr, 0, none⟩) ranks ranks) 86 2 ranks (List.flatMap bukL rs), .blk t #[sv, .int .i64 ((room : Nat) : Int), .func (.func 103) #[] #[]] 228, .row (sv) 230 3 (List.length xs) (List.flatMap pairLB xs), .blk g6 #[.int .i64 ((c : Nat) : Int)] 3, .blk q #[.pointer (some ⟨t, 0, none⟩)] 182, .row (.slice (some ⟨gd, 0, none⟩) (List.length rs) capd) 119 4 (List.length rs) (List.flatMap (dbL rL rE) rs), .row (.slice (some ⟨gw, 0, none⟩) (List.length xs) cw) 206 5 (List.length xs) (List.flatMap (dpL pL pE) xs), .blk g1 #[.pointer (some ⟨p, 0, none⟩)] 82, .blk g2 #[.slice (some ⟨gd, 0, none⟩) (List.length rs) capd, .slice (some ⟨gw, 0, none⟩) (List.length xs) cw, .int .i64 pL, .int .i64 pE, .int .i64 0, .int .i64 0, .int .i64 ((room : Nat) : Int)] 124, .blk g3 #[.int .i64 rL, .int .i64 rE, .int .i64 pL, .int .i64 pE, .int .i64 ((room : Nat) : Int), .int .i64 hv] 80, .blk g4 #[.bool true] 4, .blk g5 #[.bool qq] 4] (.bool true) H (by kernel_rfl) rfl (by decide) (fun _ H => (x_rescell1 H 11 g4 0 #[.bool true] 4 (.bool true) (fun x => x) (by kernel_rfl) (by kernel_rfl) (by kernel_rfl))) ?_
            clear H
            intro v41 H
            replace H := H.pick [0, 1, 2, 3, 6, 7] [.blk p #[.int .i64 rL, .int .i64 rE, .int .i64 pL, .int .i64 pE, .int .i64 ((room : Nat) : Int), .int .i64 hv, .slice (some ⟨gr, 0, none⟩) ranks ranks, .pointer (some ⟨t, 0, none⟩)] 187, .row (.slice (some ⟨gr, 0, none⟩) ranks ranks) 86 2 ranks (List.flatMap bukL rs), .blk t #[sv, .int .i64 ((room : Nat) : Int), .func (.func 103) #[] #[]] 228, .row (sv) 230 3 (List.length xs) (List.flatMap pairLB xs), .row (.slice (some ⟨gd, 0, none⟩) (List.length rs) capd) 119 4 (List.length rs) (List.flatMap (dbL rL rE) rs), .row (.slice (some ⟨gw, 0, none⟩) (List.length xs) cw) 206 5 (List.length xs) (List.flatMap (dpL pL pE) xs)] (by decide) (by kernel_rfl)
            exact ⟨rfl, H⟩
      · skip
        clear H
        rintro D c pre ⟨c, qq⟩ W2 hpre hJ H
        rcases hJ with ⟨rfl, hJ⟩
        · skip
          exact absurd hpre hJ
  · skip
    have h1p := of_decide_eq_true h1
    refine x_t (by kernel_rfl) ?_
    refine x_skipc ?_
    refine x_then ?_
    refine x_seq ?_
    refine x_block ?_
    refine x_seq ?_
    refine x_region ?_
    refine x_val (.int .i64 ((k : Nat) : Int)) (by kernel_rfl) rfl (by kernel_rfl) ?_
    refine x_ix (t := 121) gd 0 k (List.length rs) capd 119 4 (k * 4) (by omega) (by omega) (by kernel_rfl) (by kernel_rfl) (by kernel_rfl) rfl (by kernel_rfl) ?_
    refine x_loadcn (t := 119) gd (k * 4) [.int .i64 rL, .int .i64 rE, .int .i64 ((rs.getD k (0, 0)).1), .int .i64 ((rs.getD k (0, 0)).2)] (H.rowCells 4 rfl (k * 4) (flatAt (dbLen rL rE) (0, 0) _ (by omega))) (by kernel_rfl) rfl (by kernel_rfl) (by kernel_rfl) ?_
    refine x_box H #[.int .i64 0, .int .i64 0, .int .i64 0, .int .i64 0] 119 (by kernel_rfl) rfl (by kernel_rfl) ?_
    clear H
    intro v42 g10 H
    refine x_val (.int .i64 ((k : Nat) : Int)) (by kernel_rfl) rfl (by kernel_rfl) ?_
    refine x_store (t := 119) (v := .agg #[.int .i64 rL, .int .i64 rE, .int .i64 ((rs.getD k (0, 0)).1), .int .i64 ((rs.getD k (0, 0)).2)]) H 0 g10 0 _ #[.int .i64 rL, .int .i64 rE, .int .i64 ((rs.getD k (0, 0)).1), .int .i64 ((rs.getD k (0, 0)).2)] 119 [.int .i64 rL, .int .i64 rE, .int .i64 ((rs.getD k (0, 0)).1), .int .i64 ((rs.getD k (0, 0)).2)] _ rfl rfl (by kernel_rfl) (by kernel_rfl) (by kernel_rfl) rfl (by kernel_rfl) (by kernel_rfl) (by kernel_rfl) (by kernel_rfl) ?_
    clear H
    intro v43 H
    refine x_nil ?_
    refine x_then ?_
    refine x_seq ?_
    refine x_region ?_
    refine x_load1 H 11 g5 0 _ _ (.bool qq) rfl (by kernel_rfl) (by kernel_rfl) rfl (by kernel_rfl) ?_
    refine x_val (.bool qq) (by kernel_rfl) rfl (by kernel_rfl) ?_
    cases h12 : qq
    · skip
      refine x_skip (by kernel_rfl) ?_
      refine x_skip (by kernel_rfl) ?_
      refine x_skip (by kernel_rfl) ?_
      refine x_val (.bool false) (by kernel_rfl) rfl (by kernel_rfl) ?_
      refine x_store (t := 4) (v := .bool false) H 11 g5 0 _ #[.bool false] 4 [.bool false] _ rfl rfl (by kernel_rfl) (by kernel_rfl) (by kernel_rfl) rfl (by kernel_rfl) (by kernel_rfl) (by kernel_rfl) (by kernel_rfl) ?_
      clear H
      intro v44 H
      refine x_nil ?_
      refine x_then ?_
      refine x_seq ?_
      refine x_region_whole (fun w' => Hs M w0 w' [.blk g10 #[.int .i64 rL, .int .i64 rE, .int .i64 ((rs.getD k (0, 0)).1), .int .i64 ((rs.getD k (0, 0)).2)] 119, .blk p #[.int .i64 rL, .int .i64 rE, .int .i64 pL, .int .i64 pE, .int .i64 ((room : Nat) : Int), .int .i64 hv, .slice (some ⟨gr, 0, none⟩) ranks ranks, .pointer (some ⟨t, 0, none⟩)] 187, .row (.slice (some ⟨gr, 0, none⟩) ranks ranks) 86 2 ranks (List.flatMap bukL rs), .blk t #[sv, .int .i64 ((room : Nat) : Int), .func (.func 103) #[] #[]] 228, .row (sv) 230 3 (List.length xs) (List.flatMap pairLB xs), .row (.slice (some ⟨gd, 0, none⟩) (List.length rs) capd) 119 4 (List.length rs) (List.flatMap (dbL rL rE) rs), .row (pv) 206 5 (List.length xs) (List.flatMap (dpL pL pE) xs), .blk g1 #[.pointer (some ⟨p, 0, none⟩)] 82, .blk g2 #[.slice (some ⟨gd, 0, none⟩) (List.length rs) capd, pv, .int .i64 pL, .int .i64 pE, .int .i64 0, .int .i64 0, .int .i64 ((room : Nat) : Int)] 124, .blk g3 #[.int .i64 rL, .int .i64 rE, .int .i64 pL, .int .i64 pE, .int .i64 ((room : Nat) : Int), .int .i64 hv] 80, .blk g4 #[.bool false] 4, .blk g5 #[.bool false] 4]) (by kernel_rfl) (by kernel_rfl) (by kernel_rfl) H.drew ?_
      refine q_val (.pointer (some ⟨g3, 0, none⟩)) (by kernel_rfl) (fun _ => by kernel_rfl) ?_
      refine q_loadn (t := 78) 9 g3 0 #[.int .i64 rL, .int .i64 rE, .int .i64 pL, .int .i64 pE, .int .i64 ((room : Nat) : Int), .int .i64 hv] 80 [.int .i64 rL, .int .i64 rE] (by kernel_rfl) (by kernel_rfl) (by kernel_rfl) (by kernel_rfl) (by kernel_rfl) ?_
      refine q_load1 7 g1 0 #[.pointer (some ⟨p, 0, none⟩)] 82 (.pointer (some ⟨p, 0, none⟩)) (by kernel_rfl) (by kernel_rfl) (by kernel_rfl) (fun _ => by kernel_rfl) ?_
      refine q_val (.int .i64 ((k : Nat) : Int)) (by kernel_rfl) (fun _ => by kernel_rfl) ?_
      refine q_callR (.agg #[.int .i64 ((rs.getD k (0, 0)).1), .int .i64 ((rs.getD k (0, 0)).2)]) (by kernel_rfl) (fun _ => by kernel_rfl) (fun _ H => (Rank_yes k (by omega) hk.n _ (H.roOf [1, 2] [.blk p #[.int .i64 rL, .int .i64 rE, .int .i64 pL, .int .i64 pE, .int .i64 ((room : Nat) : Int), .int .i64 hv, .slice (some ⟨gr, 0, none⟩) ranks ranks, .pointer (some ⟨t, 0, none⟩)] 187, .row (.slice (some ⟨gr, 0, none⟩) ranks ranks) 86 2 ranks (List.flatMap bukL rs)] (by kernel_rfl)))) ?_
      refine q_callB (.agg #[.int .i64 rL, .int .i64 rE, .int .i64 ((rs.getD k (0, 0)).1), .int .i64 ((rs.getD k (0, 0)).2)]) (by kernel_rfl) (fun _ => by kernel_rfl) (fun _ => (ofB rL rE ((rs.getD k (0, 0)).1) ((rs.getD k (0, 0)).2) _)) ?_
      refine q_loadn (t := 119) 0 g10 0 #[.int .i64 rL, .int .i64 rE, .int .i64 ((rs.getD k (0, 0)).1), .int .i64 ((rs.getD k (0, 0)).2)] 119 [.int .i64 rL, .int .i64 rE, .int .i64 ((rs.getD k (0, 0)).1), .int .i64 ((rs.getD k (0, 0)).2)] (by kernel_rfl) (by kernel_rfl) (by kernel_rfl) (by kernel_rfl) (by kernel_rfl) ?_
      have h13 : (decide ((rL : Int) = rL) && (decide ((rE : Int) = rE) && (decide ((((rs.getD k (0, 0)).1) : Int) = ((rs.getD k (0, 0)).1)) && (decide ((((rs.getD k (0, 0)).2) : Int) = ((rs.getD k (0, 0)).2)) && true)))) = true := by simp
      refine q_val (.bool false) (by kernel_rfl) (fun _ => ((run_neS (t := 119) (x := .tmp 34) (y := .tmp 35) (xs := #[.int .i64 rL, .int .i64 rE, .int .i64 ((rs.getD k (0, 0)).1), .int .i64 ((rs.getD k (0, 0)).2)]) (ys := #[.int .i64 rL, .int .i64 rE, .int .i64 ((rs.getD k (0, 0)).1), .int .i64 ((rs.getD k (0, 0)).2)]) (B := decide ((rL : Int) = rL) && (decide ((rE : Int) = rE) && (decide ((((rs.getD k (0, 0)).1) : Int) = ((rs.getD k (0, 0)).1)) && (decide ((((rs.getD k (0, 0)).2) : Int) = ((rs.getD k (0, 0)).2)) && true)))) (by kernel_rfl) (by kernel_rfl) (by kernel_rfl)).trans (by rw [h13]; try rfl))) ?_
      refine q_nil ?_
      clear H
      intro v45 H
      refine x_then ?_
      refine x_f (by kernel_rfl) ?_
      refine x_skipc ?_
      refine x_blk ?_
      refine x_then ?_
      refine x_region ?_
      refine x_ar (((k : Nat) : Int) + 1) ⟨by omega, by omega⟩ (by kernel_rfl) rfl (by kernel_rfl) ?_
      refine x_val (.int .i64 (((k : Nat) : Int) + 1)) (by kernel_rfl) rfl (by kernel_rfl) ?_
      refine x_nil ?_
      refine x_then ?_
      replace H := H.pick [1, 2, 3, 4, 5, 6, 7, 8, 9, 10, 11] [.blk p #[.int .i64 rL, .int .i64 rE, .int .i64 pL, .int .i64 pE, .int .i64 ((room : Nat) : Int), .int .i64 hv, .slice (some ⟨gr, 0, none⟩) ranks ranks, .pointer (some ⟨t, 0, none⟩)] 187, .row (.slice (some ⟨gr, 0, none⟩) ranks ranks) 86 2 ranks (List.flatMap bukL rs), .blk t #[sv, .int .i64 ((room : Nat) : Int), .func (.func 103) #[] #[]] 228, .row (sv) 230 3 (List.length xs) (List.flatMap pairLB xs), .row (.slice (some ⟨gd, 0, none⟩) (List.length rs) capd) 119 4 (List.length rs) (List.flatMap (dbL rL rE) rs), .row (pv) 206 5 (List.length xs) (List.flatMap (dpL pL pE) xs), .blk g1 #[.pointer (some ⟨p, 0, none⟩)] 82, .blk g2 #[.slice (some ⟨gd, 0, none⟩) (List.length rs) capd, pv, .int .i64 pL, .int .i64 pE, .int .i64 0, .int .i64 0, .int .i64 ((room : Nat) : Int)] 124, .blk g3 #[.int .i64 rL, .int .i64 rE, .int .i64 pL, .int .i64 pE, .int .i64 ((room : Nat) : Int), .int .i64 hv] 80, .blk g4 #[.bool false] 4, .blk g5 #[.bool false] 4] (by decide) (by kernel_rfl)
      exact ⟨(k + 1, false), (by dsimp only; omega), (nthV [.int .i64 ((k : Nat) : Int), .pointer (some ⟨g10, 0, none⟩), .bool true, .int .i64 ((k : Nat) : Int), .pointer (some ⟨gd, k * 4, none⟩), .agg #[.int .i64 rL, .int .i64 rE, .int .i64 ((rs.getD k (0, 0)).1), .int .i64 ((rs.getD k (0, 0)).2)], .bool false, .bool false, undef, undef, undef, .bool false, .pointer (some ⟨g3, 0, none⟩), .agg #[.int .i64 rL, .int .i64 rE], .pointer (some ⟨p, 0, none⟩), .int .i64 ((k : Nat) : Int), .agg #[.int .i64 ((rs.getD k (0, 0)).1), .int .i64 ((rs.getD k (0, 0)).2)], .agg #[.int .i64 rL, .int .i64 rE, .int .i64 ((rs.getD k (0, 0)).1), .int .i64 ((rs.getD k (0, 0)).2)], .agg #[.int .i64 rL, .int .i64 rE, .int .i64 ((rs.getD k (0, 0)).1), .int .i64 ((rs.getD k (0, 0)).2)], .bool false, .int .i64 (((k : Nat) : Int) + 1)]), (by kernel_rfl), H, (by omega), (by have z := quiet_next hk.b (show k < rs.length by omega) r2; rw [h12] at z; simpa using z)⟩
    · skip
      refine x_val (.pointer (some ⟨g10, 2, none⟩)) (by kernel_rfl) rfl (by kernel_rfl) ?_
      refine x_load1 H 0 g10 2 _ _ (.int .i64 ((rs.getD k (0, 0)).1)) rfl (by kernel_rfl) (by kernel_rfl) rfl (by kernel_rfl) ?_
      refine x_val (.bool (decide (((rs.getD k (0, 0)).1) = 0))) (by kernel_rfl) rfl (by kernel_rfl) ?_
      refine x_val (.bool (decide (((rs.getD k (0, 0)).1) = 0))) (by kernel_rfl) rfl (by kernel_rfl) ?_
      refine x_store (t := 4) (v := .bool (decide (((rs.getD k (0, 0)).1) = 0))) H 11 g5 0 _ #[.bool (decide (((rs.getD k (0, 0)).1) = 0))] 4 [.bool (decide (((rs.getD k (0, 0)).1) = 0))] [.blk g10 #[.int .i64 rL, .int .i64 rE, .int .i64 ((rs.getD k (0, 0)).1), .int .i64 ((rs.getD k (0, 0)).2)] 119, .blk p #[.int .i64 rL, .int .i64 rE, .int .i64 pL, .int .i64 pE, .int .i64 ((room : Nat) : Int), .int .i64 hv, .slice (some ⟨gr, 0, none⟩) ranks ranks, .pointer (some ⟨t, 0, none⟩)] 187, .row (.slice (some ⟨gr, 0, none⟩) ranks ranks) 86 2 ranks (List.flatMap bukL rs), .blk t #[sv, .int .i64 ((room : Nat) : Int), .func (.func 103) #[] #[]] 228, .row (sv) 230 3 (List.length xs) (List.flatMap pairLB xs), .row (.slice (some ⟨gd, 0, none⟩) (List.length rs) capd) 119 4 (List.length rs) (List.flatMap (dbL rL rE) rs), .row (pv) 206 5 (List.length xs) (List.flatMap (dpL pL pE) xs), .blk g1 #[.pointer (some ⟨p, 0, none⟩)] 82, .blk g2 #[.slice (some ⟨gd, 0, none⟩) (List.length rs) capd, pv, .int .i64 pL, .int .i64 pE, .int .i64 0, .int .i64 0, .int .i64 ((room : Nat) : Int)] 124, .blk g3 #[.int .i64 rL, .int .i64 rE, .int .i64 pL, .int .i64 pE, .int .i64 ((room : Nat) : Int), .int .i64 hv] 80, .blk g4 #[.bool false] 4, .blk g5 #[.bool (decide (((rs.getD k (0, 0)).1) = 0))] 4] rfl rfl (by kernel_rfl) (by kernel_rfl) (by kernel_rfl) (by kernel_rfl) (by kernel_rfl) (by kernel_rfl) (by kernel_rfl) (by kernel_rfl) ?_
      clear H
      intro v46 H
      refine x_nil ?_
      refine x_then ?_
      refine x_seq ?_
      refine x_region_whole (fun w' => Hs M w0 w' [.blk g10 #[.int .i64 rL, .int .i64 rE, .int .i64 ((rs.getD k (0, 0)).1), .int .i64 ((rs.getD k (0, 0)).2)] 119, .blk p #[.int .i64 rL, .int .i64 rE, .int .i64 pL, .int .i64 pE, .int .i64 ((room : Nat) : Int), .int .i64 hv, .slice (some ⟨gr, 0, none⟩) ranks ranks, .pointer (some ⟨t, 0, none⟩)] 187, .row (.slice (some ⟨gr, 0, none⟩) ranks ranks) 86 2 ranks (List.flatMap bukL rs), .blk t #[sv, .int .i64 ((room : Nat) : Int), .func (.func 103) #[] #[]] 228, .row (sv) 230 3 (List.length xs) (List.flatMap pairLB xs), .row (.slice (some ⟨gd, 0, none⟩) (List.length rs) capd) 119 4 (List.length rs) (List.flatMap (dbL rL rE) rs), .row (pv) 206 5 (List.length xs) (List.flatMap (dpL pL pE) xs), .blk g1 #[.pointer (some ⟨p, 0, none⟩)] 82, .blk g2 #[.slice (some ⟨gd, 0, none⟩) (List.length rs) capd, pv, .int .i64 pL, .int .i64 pE, .int .i64 0, .int .i64 0, .int .i64 ((room : Nat) : Int)] 124, .blk g3 #[.int .i64 rL, .int .i64 rE, .int .i64 pL, .int .i64 pE, .int .i64 ((room : Nat) : Int), .int .i64 hv] 80, .blk g4 #[.bool false] 4, .blk g5 #[.bool (decide (((rs.getD k (0, 0)).1) = 0))] 4]) (by kernel_rfl) (by kernel_rfl) (by kernel_rfl) H.drew ?_
      refine q_val (.pointer (some ⟨g3, 0, none⟩)) (by kernel_rfl) (fun _ => by kernel_rfl) ?_
      refine q_loadn (t := 78) 9 g3 0 #[.int .i64 rL, .int .i64 rE, .int .i64 pL, .int .i64 pE, .int .i64 ((room : Nat) : Int), .int .i64 hv] 80 [.int .i64 rL, .int .i64 rE] (by kernel_rfl) (by kernel_rfl) (by kernel_rfl) (by kernel_rfl) (by kernel_rfl) ?_
      refine q_load1 7 g1 0 #[.pointer (some ⟨p, 0, none⟩)] 82 (.pointer (some ⟨p, 0, none⟩)) (by kernel_rfl) (by kernel_rfl) (by kernel_rfl) (fun _ => by kernel_rfl) ?_
      refine q_val (.int .i64 ((k : Nat) : Int)) (by kernel_rfl) (fun _ => by kernel_rfl) ?_
      refine q_callR (.agg #[.int .i64 ((rs.getD k (0, 0)).1), .int .i64 ((rs.getD k (0, 0)).2)]) (by kernel_rfl) (fun _ => by kernel_rfl) (fun _ H => (Rank_yes k (by omega) hk.n _ (H.roOf [1, 2] [.blk p #[.int .i64 rL, .int .i64 rE, .int .i64 pL, .int .i64 pE, .int .i64 ((room : Nat) : Int), .int .i64 hv, .slice (some ⟨gr, 0, none⟩) ranks ranks, .pointer (some ⟨t, 0, none⟩)] 187, .row (.slice (some ⟨gr, 0, none⟩) ranks ranks) 86 2 ranks (List.flatMap bukL rs)] (by kernel_rfl)))) ?_
      refine q_callB (.agg #[.int .i64 rL, .int .i64 rE, .int .i64 ((rs.getD k (0, 0)).1), .int .i64 ((rs.getD k (0, 0)).2)]) (by kernel_rfl) (fun _ => by kernel_rfl) (fun _ => (ofB rL rE ((rs.getD k (0, 0)).1) ((rs.getD k (0, 0)).2) _)) ?_
      refine q_loadn (t := 119) 0 g10 0 #[.int .i64 rL, .int .i64 rE, .int .i64 ((rs.getD k (0, 0)).1), .int .i64 ((rs.getD k (0, 0)).2)] 119 [.int .i64 rL, .int .i64 rE, .int .i64 ((rs.getD k (0, 0)).1), .int .i64 ((rs.getD k (0, 0)).2)] (by kernel_rfl) (by kernel_rfl) (by kernel_rfl) (by kernel_rfl) (by kernel_rfl) ?_
      have h14 : (decide ((rL : Int) = rL) && (decide ((rE : Int) = rE) && (decide ((((rs.getD k (0, 0)).1) : Int) = ((rs.getD k (0, 0)).1)) && (decide ((((rs.getD k (0, 0)).2) : Int) = ((rs.getD k (0, 0)).2)) && true)))) = true := by simp
      refine q_val (.bool false) (by kernel_rfl) (fun _ => ((run_neS (t := 119) (x := .tmp 34) (y := .tmp 35) (xs := #[.int .i64 rL, .int .i64 rE, .int .i64 ((rs.getD k (0, 0)).1), .int .i64 ((rs.getD k (0, 0)).2)]) (ys := #[.int .i64 rL, .int .i64 rE, .int .i64 ((rs.getD k (0, 0)).1), .int .i64 ((rs.getD k (0, 0)).2)]) (B := decide ((rL : Int) = rL) && (decide ((rE : Int) = rE) && (decide ((((rs.getD k (0, 0)).1) : Int) = ((rs.getD k (0, 0)).1)) && (decide ((((rs.getD k (0, 0)).2) : Int) = ((rs.getD k (0, 0)).2)) && true)))) (by kernel_rfl) (by kernel_rfl) (by kernel_rfl)).trans (by rw [h14]; try rfl))) ?_
      refine q_nil ?_
      clear H
      intro v47 H
      refine x_then ?_
      refine x_f (by kernel_rfl) ?_
      refine x_skipc ?_
      refine x_blk ?_
      refine x_then ?_
      refine x_region ?_
      refine x_ar (((k : Nat) : Int) + 1) ⟨by omega, by omega⟩ (by kernel_rfl) rfl (by kernel_rfl) ?_
      refine x_val (.int .i64 (((k : Nat) : Int) + 1)) (by kernel_rfl) rfl (by kernel_rfl) ?_
      refine x_nil ?_
      refine x_then ?_
      replace H := H.pick [1, 2, 3, 4, 5, 6, 7, 8, 9, 10, 11] [.blk p #[.int .i64 rL, .int .i64 rE, .int .i64 pL, .int .i64 pE, .int .i64 ((room : Nat) : Int), .int .i64 hv, .slice (some ⟨gr, 0, none⟩) ranks ranks, .pointer (some ⟨t, 0, none⟩)] 187, .row (.slice (some ⟨gr, 0, none⟩) ranks ranks) 86 2 ranks (List.flatMap bukL rs), .blk t #[sv, .int .i64 ((room : Nat) : Int), .func (.func 103) #[] #[]] 228, .row (sv) 230 3 (List.length xs) (List.flatMap pairLB xs), .row (.slice (some ⟨gd, 0, none⟩) (List.length rs) capd) 119 4 (List.length rs) (List.flatMap (dbL rL rE) rs), .row (pv) 206 5 (List.length xs) (List.flatMap (dpL pL pE) xs), .blk g1 #[.pointer (some ⟨p, 0, none⟩)] 82, .blk g2 #[.slice (some ⟨gd, 0, none⟩) (List.length rs) capd, pv, .int .i64 pL, .int .i64 pE, .int .i64 0, .int .i64 0, .int .i64 ((room : Nat) : Int)] 124, .blk g3 #[.int .i64 rL, .int .i64 rE, .int .i64 pL, .int .i64 pE, .int .i64 ((room : Nat) : Int), .int .i64 hv] 80, .blk g4 #[.bool false] 4, .blk g5 #[.bool (decide (((rs.getD k (0, 0)).1) = 0))] 4] (by decide) (by kernel_rfl)
      exact ⟨(k + 1, (decide (((rs.getD k (0, 0)).1) = 0))), (by dsimp only; omega), (nthV [.int .i64 ((k : Nat) : Int), .pointer (some ⟨g10, 0, none⟩), .bool true, .int .i64 ((k : Nat) : Int), .pointer (some ⟨gd, k * 4, none⟩), .agg #[.int .i64 rL, .int .i64 rE, .int .i64 ((rs.getD k (0, 0)).1), .int .i64 ((rs.getD k (0, 0)).2)], .bool true, .bool true, .pointer (some ⟨g10, 2, none⟩), .int .i64 ((rs.getD k (0, 0)).1), .bool (decide (((rs.getD k (0, 0)).1) = 0)), .bool (decide (((rs.getD k (0, 0)).1) = 0)), .pointer (some ⟨g3, 0, none⟩), .agg #[.int .i64 rL, .int .i64 rE], .pointer (some ⟨p, 0, none⟩), .int .i64 ((k : Nat) : Int), .agg #[.int .i64 ((rs.getD k (0, 0)).1), .int .i64 ((rs.getD k (0, 0)).2)], .agg #[.int .i64 rL, .int .i64 rE, .int .i64 ((rs.getD k (0, 0)).1), .int .i64 ((rs.getD k (0, 0)).2)], .agg #[.int .i64 rL, .int .i64 rE, .int .i64 ((rs.getD k (0, 0)).1), .int .i64 ((rs.getD k (0, 0)).2)], .bool false, .int .i64 (((k : Nat) : Int) + 1)]), (by kernel_rfl), H, (by omega), (by have z := quiet_next hk.b (show k < rs.length by omega) r2; rw [h12] at z; simpa using z)⟩

end Go.Proofs.Ytgpalgbdacoagaa
