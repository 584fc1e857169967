/- A step of a tracker and of the document's. -/
import Derived.Test.YtgpalgbdacoagaaTrkK
namespace Go.Proofs.Ytgpalgbdacoagaa
open Go Go.RowKit
set_option linter.unusedVariables false
set_option linter.unusedSimpArgs false

set_option maxRecDepth 100000 in
set_option maxHeartbeats 4000000 in
theorem tstep {M : List Nat} {p t gr : Nat} {sv rv pv : Value} {rs : List Buk} {xs : List PairB} {ranks room : Nat} {rL rE pL pE hv : Int} (o : Int4) (hk : TOk ranks room rE pE rs xs) (hP : TP ranks room rL rE pL pE) (w0 : World) (H0 : Hs M w0 w0 [.blk p #[.int .i64 rL, .int .i64 rE, .int .i64 pL, .int .i64 pE, .int .i64 ((room : Nat) : Int), .int .i64 hv, .slice (some ⟨gr, 0, none⟩) ranks ranks, .pointer (some ⟨t, 0, none⟩)] 187, .row (.slice (some ⟨gr, 0, none⟩) ranks ranks) 86 2 ranks (List.flatMap bukL rs), .blk t #[sv, .int .i64 ((room : Nat) : Int), .func (.func 103) #[] #[]] 228, .row (sv) 230 3 (List.length xs) (List.flatMap pairLB xs), .row (rv) 119 4 (List.length rs) (List.flatMap (dbL rL rE) rs), .row (pv) 206 5 (List.length xs) (List.flatMap (dpL pL pE) xs)]) :
    Calls Try.prog 64 #[.pointer (some ⟨p, 0, none⟩), .agg #[rv, pv, .int .i64 pL, .int .i64 pE, .int .i64 0, .int .i64 0, .int .i64 ((room : Nat) : Int)], .int .i64 ((ranks : Nat) : Int), .agg #[.int .i64 rL, .int .i64 rE], .agg #[.int .i64 o.1, .int .i64 o.2.1, .int .i64 o.2.2.1, .int .i64 o.2.2.2]] w0 fun e w' => ∃ z : Value × Value × Value, e = .returned (.tuple #[.agg #[z.2.1, z.2.2, .int .i64 pL, .int .i64 pE, .int .i64 0, .int .i64 0, .int .i64 ((room : Nat) : Int)], .bool true]) ∧ Hs M w0 w' [.blk p #[.int .i64 rL, .int .i64 rE, .int .i64 pL, .int .i64 pE, .int .i64 ((room : Nat) : Int), .int .i64 hv, .slice (some ⟨gr, 0, none⟩) ranks ranks, .pointer (some ⟨t, 0, none⟩)] 187, .row (.slice (some ⟨gr, 0, none⟩) ranks ranks) 86 2 ranks (List.flatMap bukL (stR ranks rE rs o)), .blk t #[z.1, .int .i64 ((room : Nat) : Int), .func (.func 103) #[] #[]] 228, .row (z.1) 230 3 (List.length (stX ranks room pE xs o)) (List.flatMap pairLB (stX ranks room pE xs o)), .row (z.2.1) 119 4 (List.length (stR ranks rE rs o)) (List.flatMap (dbL rL rE) (stR ranks rE rs o)), .row (z.2.2) 206 5 (List.length (stX ranks room pE xs o)) (List.flatMap (dpL pL pE) (stX ranks room pE xs o))] := by
  refine x_enter Try.func64 rfl #[.pointer (some ⟨p, 0, none⟩), .agg #[rv, pv, .int .i64 pL, .int .i64 pE, .int .i64 0, .int .i64 0, .int .i64 ((room : Nat) : Int)], .int .i64 ((ranks : Nat) : Int), .agg #[.int .i64 rL, .int .i64 rE], .agg #[.int .i64 o.1, .int .i64 o.2.1, .int .i64 o.2.2.1, .int .i64 o.2.2.2], undef, undef, undef, undef, undef, undef, undef, undef, undef, undef, undef, undef, undef, undef, undef, undef, undef, undef, undef, undef, undef, undef, undef, undef, undef, undef, undef, undef, undef, undef, undef, undef, undef, undef, undef, undef, undef, undef, undef, undef, undef, undef, undef, undef, undef, undef, undef, undef, undef, undef, undef, undef, undef, undef, undef, undef, undef, undef, undef, undef, undef, undef, undef, undef, undef, undef, undef, undef, undef, undef, undef, undef, undef, undef, undef, undef, undef, undef, undef, undef, undef, undef, undef, undef, undef, undef, undef, undef, undef, undef, undef, undef, undef, undef, undef, undef, undef, undef, undef, undef, undef, undef, undef, undef, undef, undef, undef] (by kernel_rfl) ?_
  have H := H0
  have hm1 := hP.m
  have hm2 := hP.one
  have hm3 := hk.n
  have hm4 := hk.m
  refine x_seq ?_
  refine x_region ?_
  refine x_box H #[rv, pv, .int .i64 pL, .int .i64 pE, .int .i64 0, .int .i64 0, .int .i64 ((room : Nat) : Int)] 124 (by kernel_rfl) rfl (by kernel_rfl) ?_
  clear H
  intro v1 g1 H
  refine x_box H #[.int .i64 rL, .int .i64 rE] 78 (by kernel_rfl) rfl (by kernel_rfl) ?_
  clear H
  intro v2 g2 H
  refine x_box H #[.int .i64 o.1, .int .i64 o.2.1, .int .i64 o.2.2.1, .int .i64 o.2.2.2] 88 (by kernel_rfl) rfl (by kernel_rfl) ?_
  clear H
  intro v3 g3 H
  refine x_box H #[.slice none 0 0, .slice none 0 0, .int .i64 0, .int .i64 0, .int .i64 0, .int .i64 0, .int .i64 0] 124 (by kernel_rfl) rfl (by kernel_rfl) ?_
  clear H
  intro v4 g4 H
  refine x_val (.bool false) (by kernel_rfl) rfl (by kernel_rfl) ?_
  refine x_nil ?_
  refine x_then ?_
  refine x_seq ?_
  refine x_region ?_
  refine x_val (.pointer (some ⟨g3, 1, none⟩)) (by kernel_rfl) rfl (by kernel_rfl) ?_
  refine x_load1 H 1 g3 1 _ _ (.int .i64 o.2.1) rfl (by kernel_rfl) (by kernel_rfl) rfl (by kernel_rfl) ?_
  refine x_val (.bool (decide (0 ≤ o.2.1))) (by kernel_rfl) rfl (by kernel_rfl) ?_
  refine x_val (.bool (decide (0 ≤ o.2.1))) (by kernel_rfl) rfl (by kernel_rfl) ?_
  cases h1 : decide (0 ≤ o.2.1)
  · skip
    have h1p := of_decide_eq_false h1
    refine x_skip (by kernel_rfl) ?_
    refine x_skip (by kernel_rfl) ?_
    refine x_skip (by kernel_rfl) ?_
    refine x_skip (by kernel_rfl) ?_
    refine x_val (.bool false) (by kernel_rfl) rfl (by kernel_rfl) ?_
    refine x_val (.bool false) (by kernel_rfl) rfl (by kernel_rfl) ?_
    refine x_nil ?_
    refine x_then ?_
    refine x_seq ?_
    refine x_seq ?_
    refine x_region ?_
    refine x_val (.pointer (some ⟨g3, 0, none⟩)) (by kernel_rfl) rfl (by kernel_rfl) ?_
    refine x_load1 H 1 g3 0 _ _ (.int .i64 o.1) rfl (by kernel_rfl) (by kernel_rfl) rfl (by kernel_rfl) ?_
    refine x_nil ?_
    refine x_then ?_
    refine x_block ?_
    refine x_seq ?_
    refine x_region ?_
    refine x_val (.bool (decide (o.1 = 1))) (by kernel_rfl) rfl (by kernel_rfl) ?_
    refine x_val (.bool (decide (o.1 = 1))) (by kernel_rfl) rfl (by kernel_rfl) ?_
    refine x_nil ?_
    refine x_then ?_
    cases h2 : decide (o.1 = 1)
    · skip
      have h2p := of_decide_eq_false h2
      refine x_f (by kernel_rfl) ?_
      refine x_seq ?_
      refine x_region ?_
      refine x_val (.bool (decide (o.1 = 2))) (by kernel_rfl) rfl (by kernel_rfl) ?_
      refine x_val (.bool (decide (o.1 = 2))) (by kernel_rfl) rfl (by kernel_rfl) ?_
      refine x_nil ?_
      refine x_then ?_
      cases h3 : decide (o.1 = 2)
      · skip
        have h3p := of_decide_eq_false h3
        refine x_f (by kernel_rfl) ?_
        refine x_seq ?_
        refine x_region ?_
        refine x_val (.bool (decide (o.1 = 3))) (by kernel_rfl) rfl (by kernel_rfl) ?_
        refine x_val (.bool (decide (o.1 = 3))) (by kernel_rfl) rfl (by kernel_rfl) ?_
        refine x_nil ?_
        refine x_then ?_
        cases h4 : decide (o.1 = 3)
        · skip
          have h4p := of_decide_eq_false h4
          refine x_f (by kernel_rfl) ?_
          refine x_seq ?_
          refine x_region ?_
          refine x_val (.bool (decide (o.1 = 4))) (by kernel_rfl) rfl (by kernel_rfl) ?_
          refine x_val (.bool (decide (o.1 = 4))) (by kernel_rfl) rfl (by kernel_rfl) ?_
          refine x_nil ?_
          refine x_then ?_
          cases h5 : decide (o.1 = 4)
          · skip
            have h5p := of_decide_eq_false h5
            refine x_f (by kernel_rfl) ?_
            refine x_skipc ?_
            refine x_blk ?_
            refine x_then ?_
            refine x_seq ?_
            refine x_region ?_
            refine x_loadn (t := 124) H 3 g1 0 _ _ [rv, pv, .int .i64 pL, .int .i64 pE, .int .i64 0, .int .i64 0, .int .i64 ((room : Nat) : Int)] rfl (by kernel_rfl) (by kernel_rfl) rfl (by kernel_rfl) (by kernel_rfl) ?_
            have h6o := H.rowOne 8 rfl
            have h7o := H.rowOne 9 rfl
            refine x_store (t := 124) (v := .agg #[rv, pv, .int .i64 pL, .int .i64 pE, .int .i64 0, .int .i64 0, .int .i64 ((room : Nat) : Int)]) H 0 g4 0 _ #[rv, pv, .int .i64 pL, .int .i64 pE, .int .i64 0, .int .i64 0, .int .i64 ((room : Nat) : Int)] 124 [rv, pv, .int .i64 pL, .int .i64 pE, .int .i64 0, .int .i64 0, .int .i64 ((room : Nat) : Int)] _ rfl rfl (by kernel_rfl) (by simp only [List.all_cons, List.all_nil, h6o, h7o, Bool.and_true, Bool.true_and] <;> rfl) (by kernel_rfl) rfl (by kernel_rfl) (by kernel_rfl) (by kernel_rfl) (by kernel_rfl) ?_
            clear H
            intro v5 H
            refine x_val (.bool true) (by kernel_rfl) rfl (by kernel_rfl) ?_
            refine x_nil ?_
            refine x_then ?_
            refine x_retc ?_
            refine x_ret (.tuple #[.agg #[rv, pv, .int .i64 pL, .int .i64 pE, .int .i64 0, .int .i64 0, .int .i64 ((room : Nat) : Int)], .bool true]) (by kernel_rfl) (x_rescell H 0 g4 0 #[rv, pv, .int .i64 pL, .int .i64 pE, .int .i64 0, .int .i64 0, .int .i64 ((room : Nat) : Int)] 124 [rv, pv, .int .i64 pL, .int .i64 pE, .int .i64 0, .int .i64 0, .int .i64 ((room : Nat) : Int)] (fun x => .tuple #[x, .bool true]) (by kernel_rfl) (by kernel_rfl) (by kernel_rfl)) ?_
            replace H := H.pick [4, 5, 6, 7, 8, 9] [.blk p #[.int .i64 rL, .int .i64 rE, .int .i64 pL, .int .i64 pE, .int .i64 ((room : Nat) : Int), .int .i64 hv, .slice (some ⟨gr, 0, none⟩) ranks ranks, .pointer (some ⟨t, 0, none⟩)] 187, .row (.slice (some ⟨gr, 0, none⟩) ranks ranks) 86 2 ranks (List.flatMap bukL rs), .blk t #[sv, .int .i64 ((room : Nat) : Int), .func (.func 103) #[] #[]] 228, .row (sv) 230 3 (List.length xs) (List.flatMap pairLB xs), .row (rv) 119 4 (List.length rs) (List.flatMap (dbL rL rE) rs), .row (pv) 206 5 (List.length xs) (List.flatMap (dpL pL pE) xs)] (by decide) (by kernel_rfl)
            have e1 : stR ranks rE rs o = rs := by unfold stR; rw [if_neg (show ¬ o.1 = 1 by omega), if_neg (show ¬ o.1 = 2 by omega), if_neg (show ¬ o.1 = 3 by omega)]
            have e2 : stX ranks room pE xs o = xs := by unfold stX; rw [if_neg (show ¬ o.1 = 1 by omega), if_neg (show ¬ o.1 = 2 by omega), if_neg (show ¬ o.1 = 4 by omega)]
            rw [e1, e2]
            exact ⟨(sv, rv, pv), rfl, H⟩
          · skip
            have h5p := of_decide_eq_true h5
            refine x_t (by kernel_rfl) ?_
            refine x_seq ?_
            refine x_region ?_
            refine x_val (.pointer (some ⟨p, 0, none⟩)) (by kernel_rfl) rfl (by kernel_rfl) ?_
            refine x_val (.pointer (some ⟨g3, 2, none⟩)) (by kernel_rfl) rfl (by kernel_rfl) ?_
            refine x_load1 H 1 g3 2 _ _ (.int .i64 o.2.2.1) rfl (by kernel_rfl) (by kernel_rfl) rfl (by kernel_rfl) ?_
            refine x_call (by kernel_rfl) rfl (by kernel_rfl) (Hs.useE (A := [.blk p #[.int .i64 rL, .int .i64 rE, .int .i64 pL, .int .i64 pE, .int .i64 ((room : Nat) : Int), .int .i64 hv, .slice (some ⟨gr, 0, none⟩) ranks ranks, .pointer (some ⟨t, 0, none⟩)] 187, .row (.slice (some ⟨gr, 0, none⟩) ranks ranks) 86 2 ranks (List.flatMap bukL rs), .blk t #[sv, .int .i64 ((room : Nat) : Int), .func (.func 103) #[] #[]] 228, .row (sv) 230 3 (List.length xs) (List.flatMap pairLB xs)]) (R := [.blk g4 #[.slice none 0 0, .slice none 0 0, .int .i64 0, .int .i64 0, .int .i64 0, .int .i64 0, .int .i64 0] 124, .blk g3 #[.int .i64 o.1, .int .i64 o.2.1, .int .i64 o.2.2.1, .int .i64 o.2.2.2] 88, .blk g2 #[.int .i64 rL, .int .i64 rE] 78, .blk g1 #[rv, pv, .int .i64 pL, .int .i64 pE, .int .i64 0, .int .i64 0, .int .i64 ((room : Nat) : Int)] 124, .row (rv) 119 4 (List.length rs) (List.flatMap (dbL rL rE) rs), .row (pv) 206 5 (List.length xs) (List.flatMap (dpL pL pE) xs)]) (fun svn => [.blk p #[.int .i64 rL, .int .i64 rE, .int .i64 pL, .int .i64 pE, .int .i64 ((room : Nat) : Int), .int .i64 hv, .slice (some ⟨gr, 0, none⟩) ranks ranks, .pointer (some ⟨t, 0, none⟩)] 187, .row (.slice (some ⟨gr, 0, none⟩) ranks ranks) 86 2 ranks (List.flatMap bukL rs), .blk t #[svn, .int .i64 ((room : Nat) : Int), .func (.func 103) #[] #[]] 228, .row (svn) 230 3 (List.length (dropB xs o.2.2.1)) (List.flatMap pairLB (dropB xs o.2.2.1))]) (fun _ => .tuple #[]) (H.pick [4, 5, 6, 7, 0, 1, 2, 3, 8, 9] _ (by decide) (by kernel_rfl)) (fun h => DropPage_any o.2.2.1 hk.n hk.m hP.m _ h)) ?_
            rintro _ v6 ⟨svn, rfl, H'⟩
            refine ⟨_, rfl, ?_⟩
            clear H
            have H : Hs M w0 _ [.blk p #[.int .i64 rL, .int .i64 rE, .int .i64 pL, .int .i64 pE, .int .i64 ((room : Nat) : Int), .int .i64 hv, .slice (some ⟨gr, 0, none⟩) ranks ranks, .pointer (some ⟨t, 0, none⟩)] 187, .row (.slice (some ⟨gr, 0, none⟩) ranks ranks) 86 2 ranks (List.flatMap bukL rs), .blk t #[svn, .int .i64 ((room : Nat) : Int), .func (.func 103) #[] #[]] 228, .row (svn) 230 3 (List.length (dropB xs o.2.2.1)) (List.flatMap pairLB (dropB xs o.2.2.1)), .blk g4 #[.slice none 0 0, .slice none 0 0, .int .i64 0, .int .i64 0, .int .i64 0, .int .i64 0, .int .i64 0] 124, .blk g3 #[.int .i64 o.1, .int .i64 o.2.1, .int .i64 o.2.2.1, .int .i64 o.2.2.2] 88, .blk g2 #[.int .i64 rL, .int .i64 rE] 78, .blk g1 #[rv, pv, .int .i64 pL, .int .i64 pE, .int .i64 0, .int .i64 0, .int .i64 ((room : Nat) : Int)] 124, .row (rv) 119 4 (List.length rs) (List.flatMap (dbL rL rE) rs), .row (pv) 206 5 (List.length xs) (List.flatMap (dpL pL pE) xs)] := H'
            clear H'
            refine x_nil ?_
            refine x_then ?_
            refine x_region_s 7 (fun w' => Hs M w0 w' [.blk p #[.int .i64 rL, .int .i64 rE, .int .i64 pL, .int .i64 pE, .int .i64 ((room : Nat) : Int), .int .i64 hv, .slice (some ⟨gr, 0, none⟩) ranks ranks, .pointer (some ⟨t, 0, none⟩)] 187, .row (.slice (some ⟨gr, 0, none⟩) ranks ranks) 86 2 ranks (List.flatMap bukL rs), .blk t #[svn, .int .i64 ((room : Nat) : Int), .func (.func 103) #[] #[]] 228, .row (svn) 230 3 (List.length (dropB xs o.2.2.1)) (List.flatMap pairLB (dropB xs o.2.2.1)), .blk g4 #[.slice none 0 0, .slice none 0 0, .int .i64 0, .int .i64 0, .int .i64 0, .int .i64 0, .int .i64 0] 124, .blk g3 #[.int .i64 o.1, .int .i64 o.2.1, .int .i64 o.2.2.1, .int .i64 o.2.2.2] 88, .blk g2 #[.int .i64 rL, .int .i64 rE] 78, .row (rv) 119 4 (List.length rs) (List.flatMap (dbL rL rE) rs), .row (pv) 206 5 (List.length xs) (List.flatMap (dpL pL pE) xs)]) (fun w' => Hs M w0 w' [.blk p #[.int .i64 rL, .int .i64 rE, .int .i64 pL, .int .i64 pE, .int .i64 ((room : Nat) : Int), .int .i64 hv, .slice (some ⟨gr, 0, none⟩) ranks ranks, .pointer (some ⟨t, 0, none⟩)] 187, .row (.slice (some ⟨gr, 0, none⟩) ranks ranks) 86 2 ranks (List.flatMap bukL rs), .blk t #[svn, .int .i64 ((room : Nat) : Int), .func (.func 103) #[] #[]] 228, .row (svn) 230 3 (List.length (dropB xs o.2.2.1)) (List.flatMap pairLB (dropB xs o.2.2.1)), .blk g4 #[.slice none 0 0, .slice none 0 0, .int .i64 0, .int .i64 0, .int .i64 0, .int .i64 0, .int .i64 0] 124, .blk g3 #[.int .i64 o.1, .int .i64 o.2.1, .int .i64 o.2.2.1, .int .i64 o.2.2.2] 88, .blk g2 #[.int .i64 rL, .int .i64 rE] 78, .blk g1 #[rv, pv, .int .i64 pL, .int .i64 pE, .int .i64 0, .int .i64 0, .int .i64 ((room : Nat) : Int)] 124, .row (rv) 119 4 (List.length rs) (List.flatMap (dbL rL rE) rs), .row (pv) 206 5 (List.length xs) (List.flatMap (dpL pL pE) xs)]) (by kernel_rfl) (by kernel_rfl) (by kernel_rfl) hsShut (fun _ h => h.pick [0, 1, 2, 3, 4, 5, 6, 8, 9] _ (by decide) (by kernel_rfl)) H.drew ?_
            refine s_quiet 2 rfl (by kernel_rfl) (y_val (.pointer (some ⟨g3, 2, none⟩)) (by kernel_rfl) (fun _ => by kernel_rfl)) ?_
            refine s_quiet 3 rfl (by kernel_rfl) (y_load1 5 g3 2 #[.int .i64 o.1, .int .i64 o.2.1, .int .i64 o.2.2.1, .int .i64 o.2.2.2] 88 (.int .i64 o.2.2.1) (by kernel_rfl) (by kernel_rfl) (by kernel_rfl) (fun _ => by kernel_rfl)) ?_
            refine s_two 0 1 rfl rfl (by kernel_rfl) rfl rfl ?_ ?_
            · skip
              clear H
              intro v7 H
              refine x_loadn (t := 124) H 7 g1 0 _ _ [rv, pv, .int .i64 pL, .int .i64 pE, .int .i64 0, .int .i64 0, .int .i64 ((room : Nat) : Int)] rfl (by kernel_rfl) (by kernel_rfl) rfl (by kernel_rfl) (by kernel_rfl) ?_
              refine x_nil ?_
              refine x_then ?_
              refine ⟨fun w' => Hs M w0 w' [.blk p #[.int .i64 rL, .int .i64 rE, .int .i64 pL, .int .i64 pE, .int .i64 ((room : Nat) : Int), .int .i64 hv, .slice (some ⟨gr, 0, none⟩) ranks ranks, .pointer (some ⟨t, 0, none⟩)] 187, .row (.slice (some ⟨gr, 0, none⟩) ranks ranks) 86 2 ranks (List.flatMap bukL rs), .blk t #[svn, .int .i64 ((room : Nat) : Int), .func (.func 103) #[] #[]] 228, .row (svn) 230 3 (List.length (dropB xs o.2.2.1)) (List.flatMap pairLB (dropB xs o.2.2.1)), .blk g4 #[.slice none 0 0, .slice none 0 0, .int .i64 0, .int .i64 0, .int .i64 0, .int .i64 0, .int .i64 0] 124, .blk g3 #[.int .i64 o.1, .int .i64 o.2.1, .int .i64 o.2.2.1, .int .i64 o.2.2.2] 88, .blk g2 #[.int .i64 rL, .int .i64 rE] 78, .row (rv) 119 4 (List.length rs) (List.flatMap (dbL rL rE) rs), .row (pv) 206 5 (List.length xs) (List.flatMap (dpL pL pE) xs)], fun w' => Hs M w0 w' [.blk p #[.int .i64 rL, .int .i64 rE, .int .i64 pL, .int .i64 pE, .int .i64 ((room : Nat) : Int), .int .i64 hv, .slice (some ⟨gr, 0, none⟩) ranks ranks, .pointer (some ⟨t, 0, none⟩)] 187, .row (.slice (some ⟨gr, 0, none⟩) ranks ranks) 86 2 ranks (List.flatMap bukL rs), .blk t #[svn, .int .i64 ((room : Nat) : Int), .func (.func 103) #[] #[]] 228, .row (svn) 230 3 (List.length (dropB xs o.2.2.1)) (List.flatMap pairLB (dropB xs o.2.2.1)), .blk g4 #[.slice none 0 0, .slice none 0 0, .int .i64 0, .int .i64 0, .int .i64 0, .int .i64 0, .int .i64 0] 124, .blk g3 #[.int .i64 o.1, .int .i64 o.2.1, .int .i64 o.2.2.1, .int .i64 o.2.2.2] 88, .blk g2 #[.int .i64 rL, .int .i64 rE] 78, .blk g1 #[rv, pv, .int .i64 pL, .int .i64 pE, .int .i64 0, .int .i64 0, .int .i64 ((room : Nat) : Int)] 124, .row (rv) 119 4 (List.length rs) (List.flatMap (dbL rL rE) rs), .row (pv) 206 5 (List.length xs) (List.flatMap (dpL pL pE) xs)], H, hsShut, fun _ h => h.pick [0, 1, 2, 3, 4, 5, 6, 8, 9] _ (by decide) (by kernel_rfl), fun _ h => h.pick [0, 1, 2, 3, 4, 5, 6, 7, 8] _ (by decide) (by kernel_rfl), ?_⟩
              refine s_one 1 rfl (by kernel_rfl) rfl ?_
              clear H
              intro v8 H
              refine x_loadn (t := 124) H 7 g1 0 _ _ [rv, pv, .int .i64 pL, .int .i64 pE, .int .i64 0, .int .i64 0, .int .i64 ((room : Nat) : Int)] rfl (by kernel_rfl) (by kernel_rfl) rfl (by kernel_rfl) (by kernel_rfl) ?_
              refine x_nil ?_
              refine x_then ?_
              refine ⟨fun w' => Hs M w0 w' [.blk p #[.int .i64 rL, .int .i64 rE, .int .i64 pL, .int .i64 pE, .int .i64 ((room : Nat) : Int), .int .i64 hv, .slice (some ⟨gr, 0, none⟩) ranks ranks, .pointer (some ⟨t, 0, none⟩)] 187, .row (.slice (some ⟨gr, 0, none⟩) ranks ranks) 86 2 ranks (List.flatMap bukL rs), .blk t #[svn, .int .i64 ((room : Nat) : Int), .func (.func 103) #[] #[]] 228, .row (svn) 230 3 (List.length (dropB xs o.2.2.1)) (List.flatMap pairLB (dropB xs o.2.2.1)), .blk g4 #[.slice none 0 0, .slice none 0 0, .int .i64 0, .int .i64 0, .int .i64 0, .int .i64 0, .int .i64 0] 124, .blk g3 #[.int .i64 o.1, .int .i64 o.2.1, .int .i64 o.2.2.1, .int .i64 o.2.2.2] 88, .blk g2 #[.int .i64 rL, .int .i64 rE] 78, .row (rv) 119 4 (List.length rs) (List.flatMap (dbL rL rE) rs), .row (pv) 206 5 (List.length xs) (List.flatMap (dpL pL pE) xs)], fun w' => Hs M w0 w' [.blk p #[.int .i64 rL, .int .i64 rE, .int .i64 pL, .int .i64 pE, .int .i64 ((room : Nat) : Int), .int .i64 hv, .slice (some ⟨gr, 0, none⟩) ranks ranks, .pointer (some ⟨t, 0, none⟩)] 187, .row (.slice (some ⟨gr, 0, none⟩) ranks ranks) 86 2 ranks (List.flatMap bukL rs), .blk t #[svn, .int .i64 ((room : Nat) : Int), .func (.func 103) #[] #[]] 228, .row (svn) 230 3 (List.length (dropB xs o.2.2.1)) (List.flatMap pairLB (dropB xs o.2.2.1)), .blk g4 #[.slice none 0 0, .slice none 0 0, .int .i64 0, .int .i64 0, .int .i64 0, .int .i64 0, .int .i64 0] 124, .blk g3 #[.int .i64 o.1, .int .i64 o.2.1, .int .i64 o.2.2.1, .int .i64 o.2.2.2] 88, .blk g2 #[.int .i64 rL, .int .i64 rE] 78, .blk g1 #[rv, pv, .int .i64 pL, .int .i64 pE, .int .i64 0, .int .i64 0, .int .i64 ((room : Nat) : Int)] 124, .row (rv) 119 4 (List.length rs) (List.flatMap (dbL rL rE) rs), .row (pv) 206 5 (List.length xs) (List.flatMap (dpL pL pE) xs)], H, hsShut, fun _ h => h.pick [0, 1, 2, 3, 4, 5, 6, 8, 9] _ (by decide) (by kernel_rfl), fun _ h => h.pick [0, 1, 2, 3, 4, 5, 6, 7, 8] _ (by decide) (by kernel_rfl), ?_⟩
              refine s_quiet 4 rfl (by kernel_rfl) (y_callK (.int .i64 (findB xs o.2.2.1)) (by kernel_rfl) (fun _ => by kernel_rfl) (fun _ H => (DFind (room := room) (rv := rv) xs o.2.2.1 (by omega) _ (H.roOf [8] [.row (pv) 206 5 (List.length xs) (List.flatMap (dpL pL pE) xs)] (by kernel_rfl))))) ?_
              refine s_one 5 rfl (by kernel_rfl) rfl ?_
              clear H
              intro v9 H
              refine x_call (by kernel_rfl) rfl (by kernel_rfl) (DDropI (room := room) o.2.2.1 (by omega) _ (Ro.two (H.roOf [8] [.row (rv) 119 4 (List.length rs) (List.flatMap (dbL rL rE) rs)] (by kernel_rfl)) (H.roOf [9] [.row (pv) 206 5 (List.length xs) (List.flatMap (dpL pL pE) xs)] (by kernel_rfl)))) ?_
              rintro _ v10 ⟨u2, rfl, hN'⟩
              refine ⟨_, rfl, ?_⟩
              replace H := H.more hN'
              clear hN'
              replace H : Hs M w0 _ [.row (u2) 206 5 (List.length (dropB xs o.2.2.1)) (List.flatMap (dpL pL pE) (dropB xs o.2.2.1)), .blk p #[.int .i64 rL, .int .i64 rE, .int .i64 pL, .int .i64 pE, .int .i64 ((room : Nat) : Int), .int .i64 hv, .slice (some ⟨gr, 0, none⟩) ranks ranks, .pointer (some ⟨t, 0, none⟩)] 187, .row (.slice (some ⟨gr, 0, none⟩) ranks ranks) 86 2 ranks (List.flatMap bukL rs), .blk t #[svn, .int .i64 ((room : Nat) : Int), .func (.func 103) #[] #[]] 228, .row (svn) 230 3 (List.length (dropB xs o.2.2.1)) (List.flatMap pairLB (dropB xs o.2.2.1)), .blk g4 #[.slice none 0 0, .slice none 0 0, .int .i64 0, .int .i64 0, .int .i64 0, .int .i64 0, .int .i64 0] 124, .blk g3 #[.int .i64 o.1, .int .i64 o.2.1, .int .i64 o.2.2.1, .int .i64 o.2.2.2] 88, .blk g2 #[.int .i64 rL, .int .i64 rE] 78, .blk g1 #[rv, pv, .int .i64 pL, .int .i64 pE, .int .i64 0, .int .i64 0, .int .i64 ((room : Nat) : Int)] 124, .row (rv) 119 4 (List.length rs) (List.flatMap (dbL rL rE) rs), .row (pv) 206 5 (List.length xs) (List.flatMap (dpL pL pE) xs)] := H
              refine x_nil ?_
              refine x_then ?_
              refine ⟨fun w' => Hs M w0 w' [.row (u2) 206 5 (List.length (dropB xs o.2.2.1)) (List.flatMap (dpL pL pE) (dropB xs o.2.2.1)), .blk p #[.int .i64 rL, .int .i64 rE, .int .i64 pL, .int .i64 pE, .int .i64 ((room : Nat) : Int), .int .i64 hv, .slice (some ⟨gr, 0, none⟩) ranks ranks, .pointer (some ⟨t, 0, none⟩)] 187, .row (.slice (some ⟨gr, 0, none⟩) ranks ranks) 86 2 ranks (List.flatMap bukL rs), .blk t #[svn, .int .i64 ((room : Nat) : Int), .func (.func 103) #[] #[]] 228, .row (svn) 230 3 (List.length (dropB xs o.2.2.1)) (List.flatMap pairLB (dropB xs o.2.2.1)), .blk g4 #[.slice none 0 0, .slice none 0 0, .int .i64 0, .int .i64 0, .int .i64 0, .int .i64 0, .int .i64 0] 124, .blk g3 #[.int .i64 o.1, .int .i64 o.2.1, .int .i64 o.2.2.1, .int .i64 o.2.2.2] 88, .blk g2 #[.int .i64 rL, .int .i64 rE] 78, .row (rv) 119 4 (List.length rs) (List.flatMap (dbL rL rE) rs), .row (pv) 206 5 (List.length xs) (List.flatMap (dpL pL pE) xs)], fun w' => Hs M w0 w' [.row (u2) 206 5 (List.length (dropB xs o.2.2.1)) (List.flatMap (dpL pL pE) (dropB xs o.2.2.1)), .blk p #[.int .i64 rL, .int .i64 rE, .int .i64 pL, .int .i64 pE, .int .i64 ((room : Nat) : Int), .int .i64 hv, .slice (some ⟨gr, 0, none⟩) ranks ranks, .pointer (some ⟨t, 0, none⟩)] 187, .row (.slice (some ⟨gr, 0, none⟩) ranks ranks) 86 2 ranks (List.flatMap bukL rs), .blk t #[svn, .int .i64 ((room : Nat) : Int), .func (.func 103) #[] #[]] 228, .row (svn) 230 3 (List.length (dropB xs o.2.2.1)) (List.flatMap pairLB (dropB xs o.2.2.1)), .blk g4 #[.slice none 0 0, .slice none 0 0, .int .i64 0, .int .i64 0, .int .i64 0, .int .i64 0, .int .i64 0] 124, .blk g3 #[.int .i64 o.1, .int .i64 o.2.1, .int .i64 o.2.2.1, .int .i64 o.2.2.2] 88, .blk g2 #[.int .i64 rL, .int .i64 rE] 78, .blk g1 #[rv, pv, .int .i64 pL, .int .i64 pE, .int .i64 0, .int .i64 0, .int .i64 ((room : Nat) : Int)] 124, .row (rv) 119 4 (List.length rs) (List.flatMap (dbL rL rE) rs), .row (pv) 206 5 (List.length xs) (List.flatMap (dpL pL pE) xs)], H, hsShut, fun _ h => h.pick [0, 1, 2, 3, 4, 5, 6, 7, 9, 10] _ (by decide) (by kernel_rfl), fun _ h => h.pick [1, 2, 3, 4, 5, 6, 7, 8, 9] _ (by decide) (by kernel_rfl), ?_⟩
              refine s_one 6 rfl (by kernel_rfl) rfl ?_
              clear H
              intro v11 H
              have h8o := H.rowOne 9 rfl
              have h9o := H.rowOne 0 rfl
              refine x_store (t := 124) (v := .agg #[rv, u2, .int .i64 pL, .int .i64 pE, .int .i64 0, .int .i64 0, .int .i64 ((room : Nat) : Int)]) H 8 g1 0 _ #[rv, u2, .int .i64 pL, .int .i64 pE, .int .i64 0, .int .i64 0, .int .i64 ((room : Nat) : Int)] 124 [rv, u2, .int .i64 pL, .int .i64 pE, .int .i64 0, .int .i64 0, .int .i64 ((room : Nat) : Int)] _ rfl rfl (by kernel_rfl) (by simp only [List.all_cons, List.all_nil, h8o, h9o, Bool.and_true, Bool.true_and] <;> rfl) (by kernel_rfl) rfl (by kernel_rfl) (by kernel_rfl) (by kernel_rfl) (by kernel_rfl) ?_
              clear H
              intro v12 H
              refine x_nil ?_
              refine x_then ?_
              refine ⟨fun w' => Hs M w0 w' [.row (u2) 206 5 (List.length (dropB xs o.2.2.1)) (List.flatMap (dpL pL pE) (dropB xs o.2.2.1)), .blk p #[.int .i64 rL, .int .i64 rE, .int .i64 pL, .int .i64 pE, .int .i64 ((room : Nat) : Int), .int .i64 hv, .slice (some ⟨gr, 0, none⟩) ranks ranks, .pointer (some ⟨t, 0, none⟩)] 187, .row (.slice (some ⟨gr, 0, none⟩) ranks ranks) 86 2 ranks (List.flatMap bukL rs), .blk t #[svn, .int .i64 ((room : Nat) : Int), .func (.func 103) #[] #[]] 228, .row (svn) 230 3 (List.length (dropB xs o.2.2.1)) (List.flatMap pairLB (dropB xs o.2.2.1)), .blk g4 #[.slice none 0 0, .slice none 0 0, .int .i64 0, .int .i64 0, .int .i64 0, .int .i64 0, .int .i64 0] 124, .blk g3 #[.int .i64 o.1, .int .i64 o.2.1, .int .i64 o.2.2.1, .int .i64 o.2.2.2] 88, .blk g2 #[.int .i64 rL, .int .i64 rE] 78, .blk g1 #[rv, u2, .int .i64 pL, .int .i64 pE, .int .i64 0, .int .i64 0, .int .i64 ((room : Nat) : Int)] 124, .row (rv) 119 4 (List.length rs) (List.flatMap (dbL rL rE) rs), .row (pv) 206 5 (List.length xs) (List.flatMap (dpL pL pE) xs)], fun w' => Hs M w0 w' [.row (u2) 206 5 (List.length (dropB xs o.2.2.1)) (List.flatMap (dpL pL pE) (dropB xs o.2.2.1)), .blk p #[.int .i64 rL, .int .i64 rE, .int .i64 pL, .int .i64 pE, .int .i64 ((room : Nat) : Int), .int .i64 hv, .slice (some ⟨gr, 0, none⟩) ranks ranks, .pointer (some ⟨t, 0, none⟩)] 187, .row (.slice (some ⟨gr, 0, none⟩) ranks ranks) 86 2 ranks (List.flatMap bukL rs), .blk t #[svn, .int .i64 ((room : Nat) : Int), .func (.func 103) #[] #[]] 228, .row (svn) 230 3 (List.length (dropB xs o.2.2.1)) (List.flatMap pairLB (dropB xs o.2.2.1)), .blk g4 #[.slice none 0 0, .slice none 0 0, .int .i64 0, .int .i64 0, .int .i64 0, .int .i64 0, .int .i64 0] 124, .blk g3 #[.int .i64 o.1, .int .i64 o.2.1, .int .i64 o.2.2.1, .int .i64 o.2.2.2] 88, .blk g2 #[.int .i64 rL, .int .i64 rE] 78, .blk g1 #[rv, u2, .int .i64 pL, .int .i64 pE, .int .i64 0, .int .i64 0, .int .i64 ((room : Nat) : Int)] 124, .row (rv) 119 4 (List.length rs) (List.flatMap (dbL rL rE) rs), .row (pv) 206 5 (List.length xs) (List.flatMap (dpL pL pE) xs)], H, hsShut, fun _ h => h.pick [0, 1, 2, 3, 4, 5, 6, 7, 8, 9, 10] _ (by decide) (by kernel_rfl), fun _ h => h.pick [0, 1, 2, 3, 4, 5, 6, 7, 9, 10] _ (by decide) (by kernel_rfl), ?_⟩
              refine s_done (by kernel_rfl) ?_
              clear H
              intro v13 H
              refine x_blk ?_
              refine x_then ?_
              refine x_seq ?_
              refine x_region ?_
              refine x_loadn (t := 124) H 8 g1 0 _ _ [rv, u2, .int .i64 pL, .int .i64 pE, .int .i64 0, .int .i64 0, .int .i64 ((room : Nat) : Int)] rfl (by kernel_rfl) (by kernel_rfl) rfl (by kernel_rfl) (by kernel_rfl) ?_
              have h10o := H.rowOne 9 rfl
              have h11o := H.rowOne 0 rfl
              refine x_store (t := 124) (v := .agg #[rv, u2, .int .i64 pL, .int .i64 pE, .int .i64 0, .int .i64 0, .int .i64 ((room : Nat) : Int)]) H 5 g4 0 _ #[rv, u2, .int .i64 pL, .int .i64 pE, .int .i64 0, .int .i64 0, .int .i64 ((room : Nat) : Int)] 124 [rv, u2, .int .i64 pL, .int .i64 pE, .int .i64 0, .int .i64 0, .int .i64 ((room : Nat) : Int)] _ rfl rfl (by kernel_rfl) (by simp only [List.all_cons, List.all_nil, h10o, h11o, Bool.and_true, Bool.true_and] <;> rfl) (by kernel_rfl) rfl (by kernel_rfl) (by kernel_rfl) (by kernel_rfl) (by kernel_rfl) ?_
              clear H
              intro v14 H
              refine x_val (.bool true) (by kernel_rfl) rfl (by kernel_rfl) ?_
              refine x_nil ?_
              refine x_then ?_
              refine x_retc ?_
              refine x_ret (.tuple #[.agg #[rv, u2, .int .i64 pL, .int .i64 pE, .int .i64 0, .int .i64 0, .int .i64 ((room : Nat) : Int)], .bool true]) (by kernel_rfl) (x_rescell H 5 g4 0 #[rv, u2, .int .i64 pL, .int .i64 pE, .int .i64 0, .int .i64 0, .int .i64 ((room : Nat) : Int)] 124 [rv, u2, .int .i64 pL, .int .i64 pE, .int .i64 0, .int .i64 0, .int .i64 ((room : Nat) : Int)] (fun x => .tuple #[x, .bool true]) (by kernel_rfl) (by kernel_rfl) (by kernel_rfl)) ?_
              replace H := H.pick [1, 2, 3, 4, 9, 0] [.blk p #[.int .i64 rL, .int .i64 rE, .int .i64 pL, .int .i64 pE, .int .i64 ((room : Nat) : Int), .int .i64 hv, .slice (some ⟨gr, 0, none⟩) ranks ranks, .pointer (some ⟨t, 0, none⟩)] 187, .row (.slice (some ⟨gr, 0, none⟩) ranks ranks) 86 2 ranks (List.flatMap bukL rs), .blk t #[svn, .int .i64 ((room : Nat) : Int), .func (.func 103) #[] #[]] 228, .row (svn) 230 3 (List.length (dropB xs o.2.2.1)) (List.flatMap pairLB (dropB xs o.2.2.1)), .row (rv) 119 4 (List.length rs) (List.flatMap (dbL rL rE) rs), .row (u2) 206 5 (List.length (dropB xs o.2.2.1)) (List.flatMap (dpL pL pE) (dropB xs o.2.2.1))] (by decide) (by kernel_rfl)
              have e1 : stR ranks rE rs o = rs := by unfold stR; rw [if_neg (show ¬ o.1 = 1 by omega), if_neg (show ¬ o.1 = 2 by omega), if_neg (show ¬ o.1 = 3 by omega)]
              have e2 : stX ranks room pE xs o = dropB xs o.2.2.1 := by unfold stX; rw [if_neg (show ¬ o.1 = 1 by omega), if_neg (show ¬ o.1 = 2 by omega), if_pos (show o.1 = 4 by omega)]
              rw [e1, e2]
              exact ⟨(svn, rv, u2), rfl, H⟩
            · skip
              clear H
              intro v15 H
              refine x_loadn (t := 124) H 7 g1 0 _ _ [rv, pv, .int .i64 pL, .int .i64 pE, .int .i64 0, .int .i64 0, .int .i64 ((room : Nat) : Int)] rfl (by kernel_rfl) (by kernel_rfl) rfl (by kernel_rfl) (by kernel_rfl) ?_
              refine x_nil ?_
              refine x_then ?_
              refine ⟨fun w' => Hs M w0 w' [.blk p #[.int .i64 rL, .int .i64 rE, .int .i64 pL, .int .i64 pE, .int .i64 ((room : Nat) : Int), .int .i64 hv, .slice (some ⟨gr, 0, none⟩) ranks ranks, .pointer (some ⟨t, 0, none⟩)] 187, .row (.slice (some ⟨gr, 0, none⟩) ranks ranks) 86 2 ranks (List.flatMap bukL rs), .blk t #[svn, .int .i64 ((room : Nat) : Int), .func (.func 103) #[] #[]] 228, .row (svn) 230 3 (List.length (dropB xs o.2.2.1)) (List.flatMap pairLB (dropB xs o.2.2.1)), .blk g4 #[.slice none 0 0, .slice none 0 0, .int .i64 0, .int .i64 0, .int .i64 0, .int .i64 0, .int .i64 0] 124, .blk g3 #[.int .i64 o.1, .int .i64 o.2.1, .int .i64 o.2.2.1, .int .i64 o.2.2.2] 88, .blk g2 #[.int .i64 rL, .int .i64 rE] 78, .row (rv) 119 4 (List.length rs) (List.flatMap (dbL rL rE) rs), .row (pv) 206 5 (List.length xs) (List.flatMap (dpL pL pE) xs)], fun w' => Hs M w0 w' [.blk p #[.int .i64 rL, .int .i64 rE, .int .i64 pL, .int .i64 pE, .int .i64 ((room : Nat) : Int), .int .i64 hv, .slice (some ⟨gr, 0, none⟩) ranks ranks, .pointer (some ⟨t, 0, none⟩)] 187, .row (.slice (some ⟨gr, 0, none⟩) ranks ranks) 86 2 ranks (List.flatMap bukL rs), .blk t #[svn, .int .i64 ((room : Nat) : Int), .func (.func 103) #[] #[]] 228, .row (svn) 230 3 (List.length (dropB xs o.2.2.1)) (List.flatMap pairLB (dropB xs o.2.2.1)), .blk g4 #[.slice none 0 0, .slice none 0 0, .int .i64 0, .int .i64 0, .int .i64 0, .int .i64 0, .int .i64 0] 124, .blk g3 #[.int .i64 o.1, .int .i64 o.2.1, .int .i64 o.2.2.1, .int .i64 o.2.2.2] 88, .blk g2 #[.int .i64 rL, .int .i64 rE] 78, .blk g1 #[rv, pv, .int .i64 pL, .int .i64 pE, .int .i64 0, .int .i64 0, .int .i64 ((room : Nat) : Int)] 124, .row (rv) 119 4 (List.length rs) (List.flatMap (dbL rL rE) rs), .row (pv) 206 5 (List.length xs) (List.flatMap (dpL pL pE) xs)], H, hsShut, fun _ h => h.pick [0, 1, 2, 3, 4, 5, 6, 8, 9] _ (by decide) (by kernel_rfl), fun _ h => h.pick [0, 1, 2, 3, 4, 5, 6, 7, 8] _ (by decide) (by kernel_rfl), ?_⟩
              refine s_quiet 4 rfl (by kernel_rfl) (y_callK (.int .i64 (findB xs o.2.2.1)) (by kernel_rfl) (fun _ => by kernel_rfl) (fun _ H => (DFind (room := room) (rv := rv) xs o.2.2.1 (by omega) _ (H.roOf [8] [.row (pv) 206 5 (List.length xs) (List.flatMap (dpL pL pE) xs)] (by kernel_rfl))))) ?_
              refine s_one 0 rfl (by kernel_rfl) rfl ?_
              clear H
              intro v16 H
              refine x_loadn (t := 124) H 7 g1 0 _ _ [rv, pv, .int .i64 pL, .int .i64 pE, .int .i64 0, .int .i64 0, .int .i64 ((room : Nat) : Int)] rfl (by kernel_rfl) (by kernel_rfl) rfl (by kernel_rfl) (by kernel_rfl) ?_
              refine x_nil ?_
              refine x_then ?_
              refine ⟨fun w' => Hs M w0 w' [.blk p #[.int .i64 rL, .int .i64 rE, .int .i64 pL, .int .i64 pE, .int .i64 ((room : Nat) : Int), .int .i64 hv, .slice (some ⟨gr, 0, none⟩) ranks ranks, .pointer (some ⟨t, 0, none⟩)] 187, .row (.slice (some ⟨gr, 0, none⟩) ranks ranks) 86 2 ranks (List.flatMap bukL rs), .blk t #[svn, .int .i64 ((room : Nat) : Int), .func (.func 103) #[] #[]] 228, .row (svn) 230 3 (List.length (dropB xs o.2.2.1)) (List.flatMap pairLB (dropB xs o.2.2.1)), .blk g4 #[.slice none 0 0, .slice none 0 0, .int .i64 0, .int .i64 0, .int .i64 0, .int .i64 0, .int .i64 0] 124, .blk g3 #[.int .i64 o.1, .int .i64 o.2.1, .int .i64 o.2.2.1, .int .i64 o.2.2.2] 88, .blk g2 #[.int .i64 rL, .int .i64 rE] 78, .row (rv) 119 4 (List.length rs) (List.flatMap (dbL rL rE) rs), .row (pv) 206 5 (List.length xs) (List.flatMap (dpL pL pE) xs)], fun w' => Hs M w0 w' [.blk p #[.int .i64 rL, .int .i64 rE, .int .i64 pL, .int .i64 pE, .int .i64 ((room : Nat) : Int), .int .i64 hv, .slice (some ⟨gr, 0, none⟩) ranks ranks, .pointer (some ⟨t, 0, none⟩)] 187, .row (.slice (some ⟨gr, 0, none⟩) ranks ranks) 86 2 ranks (List.flatMap bukL rs), .blk t #[svn, .int .i64 ((room : Nat) : Int), .func (.func 103) #[] #[]] 228, .row (svn) 230 3 (List.length (dropB xs o.2.2.1)) (List.flatMap pairLB (dropB xs o.2.2.1)), .blk g4 #[.slice none 0 0, .slice none 0 0, .int .i64 0, .int .i64 0, .int .i64 0, .int .i64 0, .int .i64 0] 124, .blk g3 #[.int .i64 o.1, .int .i64 o.2.1, .int .i64 o.2.2.1, .int .i64 o.2.2.2] 88, .blk g2 #[.int .i64 rL, .int .i64 rE] 78, .blk g1 #[rv, pv, .int .i64 pL, .int .i64 pE, .int .i64 0, .int .i64 0, .int .i64 ((room : Nat) : Int)] 124, .row (rv) 119 4 (List.length rs) (List.flatMap (dbL rL rE) rs), .row (pv) 206 5 (List.length xs) (List.flatMap (dpL pL pE) xs)], H, hsShut, fun _ h => h.pick [0, 1, 2, 3, 4, 5, 6, 8, 9] _ (by decide) (by kernel_rfl), fun _ h => h.pick [0, 1, 2, 3, 4, 5, 6, 7, 8] _ (by decide) (by kernel_rfl), ?_⟩
              refine s_one 5 rfl (by kernel_rfl) rfl ?_
              clear H
              intro v17 H
              refine x_call (by kernel_rfl) rfl (by kernel_rfl) (DDropI (room := room) o.2.2.1 (by omega) _ (Ro.two (H.roOf [8] [.row (rv) 119 4 (List.length rs) (List.flatMap (dbL rL rE) rs)] (by kernel_rfl)) (H.roOf [9] [.row (pv) 206 5 (List.length xs) (List.flatMap (dpL pL pE) xs)] (by kernel_rfl)))) ?_
              rintro _ v18 ⟨u2, rfl, hN'⟩
              refine ⟨_, rfl, ?_⟩
              replace H := H.more hN'
              clear hN'
              replace H : Hs M w0 _ [.row (u2) 206 5 (List.length (dropB xs o.2.2.1)) (List.flatMap (dpL pL pE) (dropB xs o.2.2.1)), .blk p #[.int .i64 rL, .int .i64 rE, .int .i64 pL, .int .i64 pE, .int .i64 ((room : Nat) : Int), .int .i64 hv, .slice (some ⟨gr, 0, none⟩) ranks ranks, .pointer (some ⟨t, 0, none⟩)] 187, .row (.slice (some ⟨gr, 0, none⟩) ranks ranks) 86 2 ranks (List.flatMap bukL rs), .blk t #[svn, .int .i64 ((room : Nat) : Int), .func (.func 103) #[] #[]] 228, .row (svn) 230 3 (List.length (dropB xs o.2.2.1)) (List.flatMap pairLB (dropB xs o.2.2.1)), .blk g4 #[.slice none 0 0, .slice none 0 0, .int .i64 0, .int .i64 0, .int .i64 0, .int .i64 0, .int .i64 0] 124, .blk g3 #[.int .i64 o.1, .int .i64 o.2.1, .int .i64 o.2.2.1, .int .i64 o.2.2.2] 88, .blk g2 #[.int .i64 rL, .int .i64 rE] 78, .blk g1 #[rv, pv, .int .i64 pL, .int .i64 pE, .int .i64 0, .int .i64 0, .int .i64 ((room : Nat) : Int)] 124, .row (rv) 119 4 (List.length rs) (List.flatMap (dbL rL rE) rs), .row (pv) 206 5 (List.length xs) (List.flatMap (dpL pL pE) xs)] := H
              refine x_nil ?_
              refine x_then ?_
              refine ⟨fun w' => Hs M w0 w' [.row (u2) 206 5 (List.length (dropB xs o.2.2.1)) (List.flatMap (dpL pL pE) (dropB xs o.2.2.1)), .blk p #[.int .i64 rL, .int .i64 rE, .int .i64 pL, .int .i64 pE, .int .i64 ((room : Nat) : Int), .int .i64 hv, .slice (some ⟨gr, 0, none⟩) ranks ranks, .pointer (some ⟨t, 0, none⟩)] 187, .row (.slice (some ⟨gr, 0, none⟩) ranks ranks) 86 2 ranks (List.flatMap bukL rs), .blk t #[svn, .int .i64 ((room : Nat) : Int), .func (.func 103) #[] #[]] 228, .row (svn) 230 3 (List.length (dropB xs o.2.2.1)) (List.flatMap pairLB (dropB xs o.2.2.1)), .blk g4 #[.slice none 0 0, .slice none 0 0, .int .i64 0, .int .i64 0, .int .i64 0, .int .i64 0, .int .i64 0] 124, .blk g3 #[.int .i64 o.1, .int .i64 o.2.1, .int .i64 o.2.2.1, .int .i64 o.2.2.2] 88, .blk g2 #[.int .i64 rL, .int .i64 rE] 78, .row (rv) 119 4 (List.length rs) (List.flatMap (dbL rL rE) rs), .row (pv) 206 5 (List.length xs) (List.flatMap (dpL pL pE) xs)], fun w' => Hs M w0 w' [.row (u2) 206 5 (List.length (dropB xs o.2.2.1)) (List.flatMap (dpL pL pE) (dropB xs o.2.2.1)), .blk p #[.int .i64 rL, .int .i64 rE, .int .i64 pL, .int .i64 pE, .int .i64 ((room : Nat) : Int), .int .i64 hv, .slice (some ⟨gr, 0, none⟩) ranks ranks, .pointer (some ⟨t, 0, none⟩)] 187, .row (.slice (some ⟨gr, 0, none⟩) ranks ranks) 86 2 ranks (List.flatMap bukL rs), .blk t #[svn, .int .i64 ((room : Nat) : Int), .func (.func 103) #[] #[]] 228, .row (svn) 230 3 (List.length (dropB xs o.2.2.1)) (List.flatMap pairLB (dropB xs o.2.2.1)), .blk g4 #[.slice none 0 0, .slice none 0 0, .int .i64 0, .int .i64 0, .int .i64 0, .int .i64 0, .int .i64 0] 124, .blk g3 #[.int .i64 o.1, .int .i64 o.2.1, .int .i64 o.2.2.1, .int .i64 o.2.2.2] 88, .blk g2 #[.int .i64 rL, .int .i64 rE] 78, .blk g1 #[rv, pv, .int .i64 pL, .int .i64 pE, .int .i64 0, .int .i64 0, .int .i64 ((room : Nat) : Int)] 124, .row (rv) 119 4 (List.length rs) (List.flatMap (dbL rL rE) rs), .row (pv) 206 5 (List.length xs) (List.flatMap (dpL pL pE) xs)], H, hsShut, fun _ h => h.pick [0, 1, 2, 3, 4, 5, 6, 7, 9, 10] _ (by decide) (by kernel_rfl), fun _ h => h.pick [1, 2, 3, 4, 5, 6, 7, 8, 9] _ (by decide) (by kernel_rfl), ?_⟩
              refine s_one 6 rfl (by kernel_rfl) rfl ?_
              clear H
              intro v19 H
              have h12o := H.rowOne 9 rfl
              have h13o := H.rowOne 0 rfl
              refine x_store (t := 124) (v := .agg #[rv, u2, .int .i64 pL, .int .i64 pE, .int .i64 0, .int .i64 0, .int .i64 ((room : Nat) : Int)]) H 8 g1 0 _ #[rv, u2, .int .i64 pL, .int .i64 pE, .int .i64 0, .int .i64 0, .int .i64 ((room : Nat) : Int)] 124 [rv, u2, .int .i64 pL, .int .i64 pE, .int .i64 0, .int .i64 0, .int .i64 ((room : Nat) : Int)] [.row (u2) 206 5 (List.length (dropB xs o.2.2.1)) (List.flatMap (dpL pL pE) (dropB xs o.2.2.1)), .blk p #[.int .i64 rL, .int .i64 rE, .int .i64 pL, .int .i64 pE, .int .i64 ((room : Nat) : Int), .int .i64 hv, .slice (some ⟨gr, 0, none⟩) ranks ranks, .pointer (some ⟨t, 0, none⟩)] 187, .row (.slice (some ⟨gr, 0, none⟩) ranks ranks) 86 2 ranks (List.flatMap bukL rs), .blk t #[svn, .int .i64 ((room : Nat) : Int), .func (.func 103) #[] #[]] 228, .row (svn) 230 3 (List.length (dropB xs o.2.2.1)) (List.flatMap pairLB (dropB xs o.2.2.1)), .blk g4 #[.slice none 0 0, .slice none 0 0, .int .i64 0, .int .i64 0, .int .i64 0, .int .i64 0, .int .i64 0] 124, .blk g3 #[.int .i64 o.1, .int .i64 o.2.1, .int .i64 o.2.2.1, .int .i64 o.2.2.2] 88, .blk g2 #[.int .i64 rL, .int .i64 rE] 78, .blk g1 #[rv, u2, .int .i64 pL, .int .i64 pE, .int .i64 0, .int .i64 0, .int .i64 ((room : Nat) : Int)] 124, .row (rv) 119 4 (List.length rs) (List.flatMap (dbL rL rE) rs), .row (pv) 206 5 (List.length xs) (List.flatMap (dpL pL pE) xs)] rfl rfl (by kernel_rfl) (by simp only [List.all_cons, List.all_nil, h12o, h13o, Bool.and_true, Bool.true_and] <;> rfl) (by kernel_rfl) (by kernel_rfl) (by kernel_rfl) (by kernel_rfl) (by kernel_rfl) (by kernel_rfl) ?_
              clear H
              intro v20 H
              refine x_nil ?_
              refine x_then ?_
              refine ⟨fun w' => Hs M w0 w' [.row (u2) 206 5 (List.length (dropB xs o.2.2.1)) (List.flatMap (dpL pL pE) (dropB xs o.2.2.1)), .blk p #[.int .i64 rL, .int .i64 rE, .int .i64 pL, .int .i64 pE, .int .i64 ((room : Nat) : Int), .int .i64 hv, .slice (some ⟨gr, 0, none⟩) ranks ranks, .pointer (some ⟨t, 0, none⟩)] 187, .row (.slice (some ⟨gr, 0, none⟩) ranks ranks) 86 2 ranks (List.flatMap bukL rs), .blk t #[svn, .int .i64 ((room : Nat) : Int), .func (.func 103) #[] #[]] 228, .row (svn) 230 3 (List.length (dropB xs o.2.2.1)) (List.flatMap pairLB (dropB xs o.2.2.1)), .blk g4 #[.slice none 0 0, .slice none 0 0, .int .i64 0, .int .i64 0, .int .i64 0, .int .i64 0, .int .i64 0] 124, .blk g3 #[.int .i64 o.1, .int .i64 o.2.1, .int .i64 o.2.2.1, .int .i64 o.2.2.2] 88, .blk g2 #[.int .i64 rL, .int .i64 rE] 78, .blk g1 #[rv, u2, .int .i64 pL, .int .i64 pE, .int .i64 0, .int .i64 0, .int .i64 ((room : Nat) : Int)] 124, .row (rv) 119 4 (List.length rs) (List.flatMap (dbL rL rE) rs), .row (pv) 206 5 (List.length xs) (List.flatMap (dpL pL pE) xs)], fun w' => Hs M w0 w' [.row (u2) 206 5 (List.length (dropB xs o.2.2.1)) (List.flatMap (dpL pL pE) (dropB xs o.2.2.1)), .blk p #[.int .i64 rL, .int .i64 rE, .int .i64 pL, .int .i64 pE, .int .i64 ((room : Nat) : Int), .int .i64 hv, .slice (some ⟨gr, 0, none⟩) ranks ranks, .pointer (some ⟨t, 0, none⟩)] 187, .row (.slice (some ⟨gr, 0, none⟩) ranks ranks) 86 2 ranks (List.flatMap bukL rs), .blk t #[svn, .int .i64 ((room : Nat) : Int), .func (.func 103) #[] #[]] 228, .row (svn) 230 3 (List.length (dropB xs o.2.2.1)) (List.flatMap pairLB (dropB xs o.2.2.1)), .blk g4 #[.slice none 0 0, .slice none 0 0, .int .i64 0, .int .i64 0, .int .i64 0, .int .i64 0, .int .i64 0] 124, .blk g3 #[.int .i64 o.1, .int .i64 o.2.1, .int .i64 o.2.2.1, .int .i64 o.2.2.2] 88, .blk g2 #[.int .i64 rL, .int .i64 rE] 78, .blk g1 #[rv, u2, .int .i64 pL, .int .i64 pE, .int .i64 0, .int .i64 0, .int .i64 ((room : Nat) : Int)] 124, .row (rv) 119 4 (List.length rs) (List.flatMap (dbL rL rE) rs), .row (pv) 206 5 (List.length xs) (List.flatMap (dpL pL pE) xs)], H, hsShut, fun _ h => h.pick [0, 1, 2, 3, 4, 5, 6, 7, 8, 9, 10] _ (by decide) (by kernel_rfl), fun _ h => h.pick [0, 1, 2, 3, 4, 5, 6, 7, 9, 10] _ (by decide) (by kernel_rfl), ?_⟩
              refine s_done (by kernel_rfl) ?_
              clear H
              intro v21 H
              refine x_blk ?_
              refine x_then ?_
              refine x_seq ?_
              refine x_region ?_
              refine x_loadn (t := 124) H 8 g1 0 _ _ [rv, u2, .int .i64 pL, .int .i64 pE, .int .i64 0, .int .i64 0, .int .i64 ((room : Nat) : Int)] rfl (by kernel_rfl) (by kernel_rfl) rfl (by kernel_rfl) (by kernel_rfl) ?_
              have h14o := H.rowOne 9 rfl
              have h15o := H.rowOne 0 rfl
              refine x_store (t := 124) (v := .agg #[rv, u2, .int .i64 pL, .int .i64 pE, .int .i64 0, .int .i64 0, .int .i64 ((room : Nat) : Int)]) H 5 g4 0 _ #[rv, u2, .int .i64 pL, .int .i64 pE, .int .i64 0, .int .i64 0, .int .i64 ((room : Nat) : Int)] 124 [rv, u2, .int .i64 pL, .int .i64 pE, .int .i64 0, .int .i64 0, .int .i64 ((room : Nat) : Int)] _ rfl rfl (by kernel_rfl) (by simp only [List.all_cons, List.all_nil, h14o, h15o, Bool.and_true, Bool.true_and] <;> rfl) (by kernel_rfl) rfl (by kernel_rfl) (by kernel_rfl) (by kernel_rfl) (by kernel_rfl) ?_
              clear H
              intro v22 H
              refine x_val (.bool true) (by kernel_rfl) rfl (by kernel_rfl) ?_
              refine x_nil ?_
              refine x_then ?_
              refine x_retc ?_
              refine x_ret (.tuple #[.agg #[rv, u2, .int .i64 pL, .int .i64 pE, .int .i64 0, .int .i64 0, .int .i64 ((room : Nat) : Int)], .bool true]) (by kernel_rfl) (x_rescell H 5 g4 0 #[rv, u2, .int .i64 pL, .int .i64 pE, .int .i64 0, .int .i64 0, .int .i64 ((room : Nat) : Int)] 124 [rv, u2, .int .i64 pL, .int .i64 pE, .int .i64 0, .int .i64 0, .int .i64 ((room : Nat) : Int)] (fun x => .tuple #[x, .bool true]) (by kernel_rfl) (by kernel_rfl) (by kernel_rfl)) ?_
              replace H := H.pick [1, 2, 3, 4, 9, 0] [.blk p #[.int .i64 rL, .int .i64 rE, .int .i64 pL, .int .i64 pE, .int .i64 ((room : Nat) : Int), .int .i64 hv, .slice (some ⟨gr, 0, none⟩) ranks ranks, .pointer (some ⟨t, 0, none⟩)] 187, .row (.slice (some ⟨gr, 0, none⟩) ranks ranks) 86 2 ranks (List.flatMap bukL rs), .blk t #[svn, .int .i64 ((room : Nat) : Int), .func (.func 103) #[] #[]] 228, .row (svn) 230 3 (List.length (dropB xs o.2.2.1)) (List.flatMap pairLB (dropB xs o.2.2.1)), .row (rv) 119 4 (List.length rs) (List.flatMap (dbL rL rE) rs), .row (u2) 206 5 (List.length (dropB xs o.2.2.1)) (List.flatMap (dpL pL pE) (dropB xs o.2.2.1))] (by decide) (by kernel_rfl)
              have e1 : stR ranks rE rs o = rs := by unfold stR; rw [if_neg (show ¬ o.1 = 1 by omega), if_neg (show ¬ o.1 = 2 by omega), if_neg (show ¬ o.1 = 3 by omega)]
              have e2 : stX ranks room pE xs o = dropB xs o.2.2.1 := by unfold stX; rw [if_neg (show ¬ o.1 = 1 by omega), if_neg (show ¬ o.1 = 2 by omega), if_pos (show o.1 = 4 by omega)]
              rw [e1, e2]
              exact ⟨(svn, rv, u2), rfl, H⟩
        · skip
          have h4p := of_decide_eq_true h4
          refine x_t (by kernel_rfl) ?_
          refine x_seq ?_
          refine x_region ?_
          refine x_val (.pointer (some ⟨p, 0, none⟩)) (by kernel_rfl) rfl (by kernel_rfl) ?_
          refine x_val (.pointer (some ⟨g3, 1, none⟩)) (by kernel_rfl) rfl (by kernel_rfl) ?_
          refine x_load1 H 1 g3 1 _ _ (.int .i64 o.2.1) rfl (by kernel_rfl) (by kernel_rfl) rfl (by kernel_rfl) ?_
          refine x_callH (.tuple #[]) [.blk p #[.int .i64 rL, .int .i64 rE, .int .i64 pL, .int .i64 pE, .int .i64 ((room : Nat) : Int), .int .i64 hv, .slice (some ⟨gr, 0, none⟩) ranks ranks, .pointer (some ⟨t, 0, none⟩)] 187, .row (.slice (some ⟨gr, 0, none⟩) ranks ranks) 86 2 ranks (List.flatMap bukL (rset ranks rs o.2.1)), .blk g4 #[.slice none 0 0, .slice none 0 0, .int .i64 0, .int .i64 0, .int .i64 0, .int .i64 0, .int .i64 0] 124, .blk g3 #[.int .i64 o.1, .int .i64 o.2.1, .int .i64 o.2.2.1, .int .i64 o.2.2.2] 88, .blk g2 #[.int .i64 rL, .int .i64 rE] 78, .blk g1 #[rv, pv, .int .i64 pL, .int .i64 pE, .int .i64 0, .int .i64 0, .int .i64 ((room : Nat) : Int)] 124, .blk t #[sv, .int .i64 ((room : Nat) : Int), .func (.func 103) #[] #[]] 228, .row (sv) 230 3 (List.length xs) (List.flatMap pairLB xs), .row (rv) 119 4 (List.length rs) (List.flatMap (dbL rL rE) rs), .row (pv) 206 5 (List.length xs) (List.flatMap (dpL pL pE) xs)] (by kernel_rfl) rfl (by kernel_rfl) (Hs.use (A := [.blk p #[.int .i64 rL, .int .i64 rE, .int .i64 pL, .int .i64 pE, .int .i64 ((room : Nat) : Int), .int .i64 hv, .slice (some ⟨gr, 0, none⟩) ranks ranks, .pointer (some ⟨t, 0, none⟩)] 187, .row (.slice (some ⟨gr, 0, none⟩) ranks ranks) 86 2 ranks (List.flatMap bukL rs)]) (R := [.blk g4 #[.slice none 0 0, .slice none 0 0, .int .i64 0, .int .i64 0, .int .i64 0, .int .i64 0, .int .i64 0] 124, .blk g3 #[.int .i64 o.1, .int .i64 o.2.1, .int .i64 o.2.2.1, .int .i64 o.2.2.2] 88, .blk g2 #[.int .i64 rL, .int .i64 rE] 78, .blk g1 #[rv, pv, .int .i64 pL, .int .i64 pE, .int .i64 0, .int .i64 0, .int .i64 ((room : Nat) : Int)] 124, .blk t #[sv, .int .i64 ((room : Nat) : Int), .func (.func 103) #[] #[]] 228, .row (sv) 230 3 (List.length xs) (List.flatMap pairLB xs), .row (rv) 119 4 (List.length rs) (List.flatMap (dbL rL rE) rs), .row (pv) 206 5 (List.length xs) (List.flatMap (dpL pL pE) xs)]) (H.pick [4, 5, 0, 1, 2, 3, 6, 7, 8, 9] _ (by decide) (by kernel_rfl)) (fun h => Reset_any o.2.1 hk.n _ h)) ?_
          clear H
          intro v23 H
          refine x_nil ?_
          refine x_then ?_
          refine x_seq ?_
          refine x_region ?_
          refine x_val (.bool false) (by kernel_rfl) rfl (by kernel_rfl) ?_
          refine x_nil ?_
          refine x_then ?_
          refine x_f (by kernel_rfl) ?_
          refine x_skipc ?_
          refine x_blk ?_
          refine x_then ?_
          refine x_seq ?_
          refine x_region ?_
          refine x_loadn (t := 124) H 5 g1 0 _ _ [rv, pv, .int .i64 pL, .int .i64 pE, .int .i64 0, .int .i64 0, .int .i64 ((room : Nat) : Int)] rfl (by kernel_rfl) (by kernel_rfl) rfl (by kernel_rfl) (by kernel_rfl) ?_
          have h16o := H.rowOne 8 rfl
          have h17o := H.rowOne 9 rfl
          refine x_store (t := 124) (v := .agg #[rv, pv, .int .i64 pL, .int .i64 pE, .int .i64 0, .int .i64 0, .int .i64 ((room : Nat) : Int)]) H 2 g4 0 _ #[rv, pv, .int .i64 pL, .int .i64 pE, .int .i64 0, .int .i64 0, .int .i64 ((room : Nat) : Int)] 124 [rv, pv, .int .i64 pL, .int .i64 pE, .int .i64 0, .int .i64 0, .int .i64 ((room : Nat) : Int)] _ rfl rfl (by kernel_rfl) (by simp only [List.all_cons, List.all_nil, h16o, h17o, Bool.and_true, Bool.true_and] <;> rfl) (by kernel_rfl) rfl (by kernel_rfl) (by kernel_rfl) (by kernel_rfl) (by kernel_rfl) ?_
          clear H
          intro v24 H
          refine x_val (.bool true) (by kernel_rfl) rfl (by kernel_rfl) ?_
          refine x_nil ?_
          refine x_then ?_
          refine x_retc ?_
          refine x_ret (.tuple #[.agg #[rv, pv, .int .i64 pL, .int .i64 pE, .int .i64 0, .int .i64 0, .int .i64 ((room : Nat) : Int)], .bool true]) (by kernel_rfl) (x_rescell H 2 g4 0 #[rv, pv, .int .i64 pL, .int .i64 pE, .int .i64 0, .int .i64 0, .int .i64 ((room : Nat) : Int)] 124 [rv, pv, .int .i64 pL, .int .i64 pE, .int .i64 0, .int .i64 0, .int .i64 ((room : Nat) : Int)] (fun x => .tuple #[x, .bool true]) (by kernel_rfl) (by kernel_rfl) (by kernel_rfl)) ?_
          replace H := H.pick [0, 1, 6, 7, 8, 9] [.blk p #[.int .i64 rL, .int .i64 rE, .int .i64 pL, .int .i64 pE, .int .i64 ((room : Nat) : Int), .int .i64 hv, .slice (some ⟨gr, 0, none⟩) ranks ranks, .pointer (some ⟨t, 0, none⟩)] 187, .row (.slice (some ⟨gr, 0, none⟩) ranks ranks) 86 2 ranks (List.flatMap bukL (rset ranks rs o.2.1)), .blk t #[sv, .int .i64 ((room : Nat) : Int), .func (.func 103) #[] #[]] 228, .row (sv) 230 3 (List.length xs) (List.flatMap pairLB xs), .row (rv) 119 4 (List.length rs) (List.flatMap (dbL rL rE) rs), .row (pv) 206 5 (List.length xs) (List.flatMap (dpL pL pE) xs)] (by decide) (by kernel_rfl)
          have e1 : stR ranks rE rs o = rset ranks rs o.2.1 := by unfold stR; rw [if_neg (show ¬ o.1 = 1 by omega), if_neg (show ¬ o.1 = 2 by omega), if_pos (show o.1 = 3 by omega)]
          have e2 : stX ranks room pE xs o = xs := by unfold stX; rw [if_neg (show ¬ o.1 = 1 by omega), if_neg (show ¬ o.1 = 2 by omega), if_neg (show ¬ o.1 = 4 by omega)]
          have f1 : rset ranks rs o.2.1 = rs := by unfold rset; rw [if_neg (by omega)]
          rw [f1] at H
          rw [f1] at e1
          rw [e1, e2]
          exact ⟨(sv, rv, pv), rfl, H⟩
      · skip
        have h3p := of_decide_eq_true h3
        refine x_t (by kernel_rfl) ?_
        refine x_seq ?_
        refine x_region ?_
        refine x_val (.pointer (some ⟨p, 0, none⟩)) (by kernel_rfl) rfl (by kernel_rfl) ?_
        refine x_call (by kernel_rfl) rfl (by kernel_rfl) (Hs.useE (A := [.blk p #[.int .i64 rL, .int .i64 rE, .int .i64 pL, .int .i64 pE, .int .i64 ((room : Nat) : Int), .int .i64 hv, .slice (some ⟨gr, 0, none⟩) ranks ranks, .pointer (some ⟨t, 0, none⟩)] 187, .row (.slice (some ⟨gr, 0, none⟩) ranks ranks) 86 2 ranks (List.flatMap bukL rs), .blk t #[sv, .int .i64 ((room : Nat) : Int), .func (.func 103) #[] #[]] 228, .row (sv) 230 3 (List.length xs) (List.flatMap pairLB xs)]) (R := [.blk g4 #[.slice none 0 0, .slice none 0 0, .int .i64 0, .int .i64 0, .int .i64 0, .int .i64 0, .int .i64 0] 124, .blk g3 #[.int .i64 o.1, .int .i64 o.2.1, .int .i64 o.2.2.1, .int .i64 o.2.2.2] 88, .blk g2 #[.int .i64 rL, .int .i64 rE] 78, .blk g1 #[rv, pv, .int .i64 pL, .int .i64 pE, .int .i64 0, .int .i64 0, .int .i64 ((room : Nat) : Int)] 124, .row (rv) 119 4 (List.length rs) (List.flatMap (dbL rL rE) rs), .row (pv) 206 5 (List.length xs) (List.flatMap (dpL pL pE) xs)]) (fun svn => [.blk p #[.int .i64 rL, .int .i64 rE, .int .i64 pL, .int .i64 pE, .int .i64 ((room : Nat) : Int), .int .i64 hv, .slice (some ⟨gr, 0, none⟩) ranks ranks, .pointer (some ⟨t, 0, none⟩)] 187, .row (.slice (some ⟨gr, 0, none⟩) ranks ranks) 86 2 ranks (List.flatMap bukL (List.map (btick rE) rs)), .blk t #[svn, .int .i64 ((room : Nat) : Int), .func (.func 103) #[] #[]] 228, .row (svn) 230 3 (List.length (List.map (tickX pE) xs)) (List.flatMap pairLB (List.map (tickX pE) xs))]) (fun _ => .tuple #[]) (H.pick [4, 5, 6, 7, 0, 1, 2, 3, 8, 9] _ (by decide) (by kernel_rfl)) (fun h => Tick_any hk hP _ h)) ?_
        rintro _ v25 ⟨svn, rfl, H'⟩
        refine ⟨_, rfl, ?_⟩
        clear H
        have H : Hs M w0 _ [.blk p #[.int .i64 rL, .int .i64 rE, .int .i64 pL, .int .i64 pE, .int .i64 ((room : Nat) : Int), .int .i64 hv, .slice (some ⟨gr, 0, none⟩) ranks ranks, .pointer (some ⟨t, 0, none⟩)] 187, .row (.slice (some ⟨gr, 0, none⟩) ranks ranks) 86 2 ranks (List.flatMap bukL (List.map (btick rE) rs)), .blk t #[svn, .int .i64 ((room : Nat) : Int), .func (.func 103) #[] #[]] 228, .row (svn) 230 3 (List.length (List.map (tickX pE) xs)) (List.flatMap pairLB (List.map (tickX pE) xs)), .blk g4 #[.slice none 0 0, .slice none 0 0, .int .i64 0, .int .i64 0, .int .i64 0, .int .i64 0, .int .i64 0] 124, .blk g3 #[.int .i64 o.1, .int .i64 o.2.1, .int .i64 o.2.2.1, .int .i64 o.2.2.2] 88, .blk g2 #[.int .i64 rL, .int .i64 rE] 78, .blk g1 #[rv, pv, .int .i64 pL, .int .i64 pE, .int .i64 0, .int .i64 0, .int .i64 ((room : Nat) : Int)] 124, .row (rv) 119 4 (List.length rs) (List.flatMap (dbL rL rE) rs), .row (pv) 206 5 (List.length xs) (List.flatMap (dpL pL pE) xs)] := H'
        clear H'
        refine x_nil ?_
        refine x_then ?_
        refine x_seq ?_
        refine x_region ?_
        refine x_loadn (t := 124) H 7 g1 0 _ _ [rv, pv, .int .i64 pL, .int .i64 pE, .int .i64 0, .int .i64 0, .int .i64 ((room : Nat) : Int)] rfl (by kernel_rfl) (by kernel_rfl) rfl (by kernel_rfl) (by kernel_rfl) ?_
        refine x_call (by kernel_rfl) rfl (by kernel_rfl) (DTk (room := room) ⟨hP.r.2.2.1, hP.r.2.2.2⟩ ⟨hP.p.2.2.1, hP.p.2.2.2⟩ hk.b hk.c (by omega) (by omega) (by omega) _ (Ro.two (H.roOf [8] [.row (rv) 119 4 (List.length rs) (List.flatMap (dbL rL rE) rs)] (by kernel_rfl)) (H.roOf [9] [.row (pv) 206 5 (List.length xs) (List.flatMap (dpL pL pE) xs)] (by kernel_rfl)))) ?_
        rintro _ v26 ⟨u1, u2, rfl, hN'⟩
        refine ⟨_, rfl, ?_⟩
        replace H := H.more hN'
        clear hN'
        replace H : Hs M w0 _ [.row (u1) 119 4 (List.length (List.map (btick rE) rs)) (List.flatMap (dbL rL rE) (List.map (btick rE) rs)), .row (u2) 206 5 (List.length (List.map (tickX pE) xs)) (List.flatMap (dpL pL pE) (List.map (tickX pE) xs)), .blk p #[.int .i64 rL, .int .i64 rE, .int .i64 pL, .int .i64 pE, .int .i64 ((room : Nat) : Int), .int .i64 hv, .slice (some ⟨gr, 0, none⟩) ranks ranks, .pointer (some ⟨t, 0, none⟩)] 187, .row (.slice (some ⟨gr, 0, none⟩) ranks ranks) 86 2 ranks (List.flatMap bukL (List.map (btick rE) rs)), .blk t #[svn, .int .i64 ((room : Nat) : Int), .func (.func 103) #[] #[]] 228, .row (svn) 230 3 (List.length (List.map (tickX pE) xs)) (List.flatMap pairLB (List.map (tickX pE) xs)), .blk g4 #[.slice none 0 0, .slice none 0 0, .int .i64 0, .int .i64 0, .int .i64 0, .int .i64 0, .int .i64 0] 124, .blk g3 #[.int .i64 o.1, .int .i64 o.2.1, .int .i64 o.2.2.1, .int .i64 o.2.2.2] 88, .blk g2 #[.int .i64 rL, .int .i64 rE] 78, .blk g1 #[rv, pv, .int .i64 pL, .int .i64 pE, .int .i64 0, .int .i64 0, .int .i64 ((room : Nat) : Int)] 124, .row (rv) 119 4 (List.length rs) (List.flatMap (dbL rL rE) rs), .row (pv) 206 5 (List.length xs) (List.flatMap (dpL pL pE) xs)] := H
        have h18o := H.rowOne 0 rfl
        have h19o := H.rowOne 1 rfl
        refine x_store (t := 124) (v := .agg #[u1, u2, .int .i64 pL, .int .i64 pE, .int .i64 0, .int .i64 0, .int .i64 ((room : Nat) : Int)]) H 6 g4 0 _ #[u1, u2, .int .i64 pL, .int .i64 pE, .int .i64 0, .int .i64 0, .int .i64 ((room : Nat) : Int)] 124 [u1, u2, .int .i64 pL, .int .i64 pE, .int .i64 0, .int .i64 0, .int .i64 ((room : Nat) : Int)] _ rfl rfl (by kernel_rfl) (by simp only [List.all_cons, List.all_nil, h18o, h19o, Bool.and_true, Bool.true_and] <;> rfl) (by kernel_rfl) rfl (by kernel_rfl) (by kernel_rfl) (by kernel_rfl) (by kernel_rfl) ?_
        clear H
        intro v27 H
        refine x_val (.bool true) (by kernel_rfl) rfl (by kernel_rfl) ?_
        refine x_nil ?_
        refine x_then ?_
        refine x_retc ?_
        refine x_blk_ret ?_
        refine x_then_ret ?_
        refine x_ret (.tuple #[.agg #[u1, u2, .int .i64 pL, .int .i64 pE, .int .i64 0, .int .i64 0, .int .i64 ((room : Nat) : Int)], .bool true]) (by kernel_rfl) (x_rescell H 6 g4 0 #[u1, u2, .int .i64 pL, .int .i64 pE, .int .i64 0, .int .i64 0, .int .i64 ((room : Nat) : Int)] 124 [u1, u2, .int .i64 pL, .int .i64 pE, .int .i64 0, .int .i64 0, .int .i64 ((room : Nat) : Int)] (fun x => .tuple #[x, .bool true]) (by kernel_rfl) (by kernel_rfl) (by kernel_rfl)) ?_
        replace H := H.pick [2, 3, 4, 5, 0, 1] [.blk p #[.int .i64 rL, .int .i64 rE, .int .i64 pL, .int .i64 pE, .int .i64 ((room : Nat) : Int), .int .i64 hv, .slice (some ⟨gr, 0, none⟩) ranks ranks, .pointer (some ⟨t, 0, none⟩)] 187, .row (.slice (some ⟨gr, 0, none⟩) ranks ranks) 86 2 ranks (List.flatMap bukL (List.map (btick rE) rs)), .blk t #[svn, .int .i64 ((room : Nat) : Int), .func (.func 103) #[] #[]] 228, .row (svn) 230 3 (List.length (List.map (tickX pE) xs)) (List.flatMap pairLB (List.map (tickX pE) xs)), .row (u1) 119 4 (List.length (List.map (btick rE) rs)) (List.flatMap (dbL rL rE) (List.map (btick rE) rs)), .row (u2) 206 5 (List.length (List.map (tickX pE) xs)) (List.flatMap (dpL pL pE) (List.map (tickX pE) xs))] (by decide) (by kernel_rfl)
        have e1 : stR ranks rE rs o = List.map (btick rE) rs := by unfold stR; rw [if_neg (show ¬ o.1 = 1 by omega), if_pos (show o.1 = 2 by omega)]
        have e2 : stX ranks room pE xs o = List.map (tickX pE) xs := by unfold stX; rw [if_neg (show ¬ o.1 = 1 by omega), if_pos (show o.1 = 2 by omega)]
        rw [e1, e2]
        exact ⟨(svn, u1, u2), rfl, H⟩
    · skip
      have h2p := of_decide_eq_true h2
      refine x_t (by kernel_rfl) ?_
      refine x_seq ?_
      refine x_region ?_
      refine x_val (.pointer (some ⟨p, 0, none⟩)) (by kernel_rfl) rfl (by kernel_rfl) ?_
      refine x_val (.pointer (some ⟨g3, 1, none⟩)) (by kernel_rfl) rfl (by kernel_rfl) ?_
      refine x_load1 H 1 g3 1 _ _ (.int .i64 o.2.1) rfl (by kernel_rfl) (by kernel_rfl) rfl (by kernel_rfl) ?_
      refine x_val (.pointer (some ⟨g3, 2, none⟩)) (by kernel_rfl) rfl (by kernel_rfl) ?_
      refine x_load1 H 1 g3 2 _ _ (.int .i64 o.2.2.1) rfl (by kernel_rfl) (by kernel_rfl) rfl (by kernel_rfl) ?_
      refine x_val (.pointer (some ⟨g3, 3, none⟩)) (by kernel_rfl) rfl (by kernel_rfl) ?_
      refine x_load1 H 1 g3 3 _ _ (.int .i64 o.2.2.2) rfl (by kernel_rfl) (by kernel_rfl) rfl (by kernel_rfl) ?_
      cases h20 : nOk ranks o.2.1 o.2.2.2
      · skip
        refine x_call (by kernel_rfl) rfl (by kernel_rfl) (Hs.useE (A := [.blk p #[.int .i64 rL, .int .i64 rE, .int .i64 pL, .int .i64 pE, .int .i64 ((room : Nat) : Int), .int .i64 hv, .slice (some ⟨gr, 0, none⟩) ranks ranks, .pointer (some ⟨t, 0, none⟩)] 187, .row (.slice (some ⟨gr, 0, none⟩) ranks ranks) 86 2 ranks (List.flatMap bukL rs), .blk t #[sv, .int .i64 ((room : Nat) : Int), .func (.func 103) #[] #[]] 228, .row (sv) 230 3 (List.length xs) (List.flatMap pairLB xs)]) (R := [.blk g4 #[.slice none 0 0, .slice none 0 0, .int .i64 0, .int .i64 0, .int .i64 0, .int .i64 0, .int .i64 0] 124, .blk g3 #[.int .i64 o.1, .int .i64 o.2.1, .int .i64 o.2.2.1, .int .i64 o.2.2.2] 88, .blk g2 #[.int .i64 rL, .int .i64 rE] 78, .blk g1 #[rv, pv, .int .i64 pL, .int .i64 pE, .int .i64 0, .int .i64 0, .int .i64 ((room : Nat) : Int)] 124, .row (rv) 119 4 (List.length rs) (List.flatMap (dbL rL rE) rs), .row (pv) 206 5 (List.length xs) (List.flatMap (dpL pL pE) xs)]) (fun svn => [.blk p #[.int .i64 rL, .int .i64 rE, .int .i64 pL, .int .i64 pE, .int .i64 ((room : Nat) : Int), .int .i64 hv, .slice (some ⟨gr, 0, none⟩) ranks ranks, .pointer (some ⟨t, 0, none⟩)] 187, .row (.slice (some ⟨gr, 0, none⟩) ranks ranks) 86 2 ranks (List.flatMap bukL (nRs ranks rs o.2.1 o.2.2.2)), .blk t #[svn, .int .i64 ((room : Nat) : Int), .func (.func 103) #[] #[]] 228, .row (svn) 230 3 (List.length (nXs ranks room xs o.2.1 o.2.2.1 o.2.2.2)) (List.flatMap pairLB (nXs ranks room xs o.2.1 o.2.2.1 o.2.2.2))]) (fun _ => .tuple #[.agg #[.bool false, .bool false], .int .i64 12]) (H.pick [4, 5, 6, 7, 0, 1, 2, 3, 8, 9] _ (by decide) (by kernel_rfl)) (fun h => (Note_any o.2.1 o.2.2.1 o.2.2.2 hk hP _ h).mono (fun e w' ⟨s', q1, q2⟩ => ⟨s', q1.trans (by unfold nE nC1 nC2; rw [if_neg (by rw [h20]; decide), h20]; rfl), q2⟩))) ?_
        rintro _ v28 ⟨svn, rfl, H'⟩
        refine ⟨_, rfl, ?_⟩
        clear H
        have H : Hs M w0 _ [.blk p #[.int .i64 rL, .int .i64 rE, .int .i64 pL, .int .i64 pE, .int .i64 ((room : Nat) : Int), .int .i64 hv, .slice (some ⟨gr, 0, none⟩) ranks ranks, .pointer (some ⟨t, 0, none⟩)] 187, .row (.slice (some ⟨gr, 0, none⟩) ranks ranks) 86 2 ranks (List.flatMap bukL (nRs ranks rs o.2.1 o.2.2.2)), .blk t #[svn, .int .i64 ((room : Nat) : Int), .func (.func 103) #[] #[]] 228, .row (svn) 230 3 (List.length (nXs ranks room xs o.2.1 o.2.2.1 o.2.2.2)) (List.flatMap pairLB (nXs ranks room xs o.2.1 o.2.2.1 o.2.2.2)), .blk g4 #[.slice none 0 0, .slice none 0 0, .int .i64 0, .int .i64 0, .int .i64 0, .int .i64 0, .int .i64 0] 124, .blk g3 #[.int .i64 o.1, .int .i64 o.2.1, .int .i64 o.2.2.1, .int .i64 o.2.2.2] 88, .blk g2 #[.int .i64 rL, .int .i64 rE] 78, .blk g1 #[rv, pv, .int .i64 pL, .int .i64 pE, .int .i64 0, .int .i64 0, .int .i64 ((room : Nat) : Int)] 124, .row (rv) 119 4 (List.length rs) (List.flatMap (dbL rL rE) rs), .row (pv) 206 5 (List.length xs) (List.flatMap (dpL pL pE) xs)] := H'
        clear H'
        refine x_val (.tuple #[.agg #[.bool false, .bool false], .int .i64 12]) (by kernel_rfl) rfl (by kernel_rfl) ?_
        refine x_val (.agg #[.bool false, .bool false]) (by kernel_rfl) rfl (by kernel_rfl) ?_
        refine x_val (.int .i64 12) (by kernel_rfl) rfl (by kernel_rfl) ?_
        refine x_box H #[.bool false, .bool false] 90 (by kernel_rfl) rfl (by kernel_rfl) ?_
        clear H
        intro v29 g5 H
        refine x_store (t := 90) (v := .agg #[.bool false, .bool false]) H 0 g5 0 _ #[.bool false, .bool false] 90 [.bool false, .bool false] _ rfl rfl (by kernel_rfl) (by kernel_rfl) (by kernel_rfl) rfl (by kernel_rfl) (by kernel_rfl) (by kernel_rfl) (by kernel_rfl) ?_
        clear H
        intro v30 H
        refine x_val (.int .i64 12) (by kernel_rfl) rfl (by kernel_rfl) ?_
        refine x_nil ?_
        refine x_then ?_
        refine x_seq ?_
        refine x_seq ?_
        refine x_region ?_
        refine x_val (.bool false) (by kernel_rfl) rfl (by kernel_rfl) ?_
        refine x_val (.bool true) (by kernel_rfl) rfl (by kernel_rfl) ?_
        refine x_val (.bool true) (by kernel_rfl) rfl (by kernel_rfl) ?_
        refine x_skip (by kernel_rfl) ?_
        refine x_skip (by kernel_rfl) ?_
        refine x_skip (by kernel_rfl) ?_
        refine x_val (.bool true) (by kernel_rfl) rfl (by kernel_rfl) ?_
        refine x_nil ?_
        refine x_then ?_
        refine x_t (by kernel_rfl) ?_
        refine x_seq ?_
        refine x_region_s 10 (fun w' => Hs M w0 w' [.blk g5 #[.bool false, .bool false] 90, .blk p #[.int .i64 rL, .int .i64 rE, .int .i64 pL, .int .i64 pE, .int .i64 ((room : Nat) : Int), .int .i64 hv, .slice (some ⟨gr, 0, none⟩) ranks ranks, .pointer (some ⟨t, 0, none⟩)] 187, .row (.slice (some ⟨gr, 0, none⟩) ranks ranks) 86 2 ranks (List.flatMap bukL (nRs ranks rs o.2.1 o.2.2.2)), .blk t #[svn, .int .i64 ((room : Nat) : Int), .func (.func 103) #[] #[]] 228, .row (svn) 230 3 (List.length (nXs ranks room xs o.2.1 o.2.2.1 o.2.2.2)) (List.flatMap pairLB (nXs ranks room xs o.2.1 o.2.2.1 o.2.2.2)), .blk g3 #[.int .i64 o.1, .int .i64 o.2.1, .int .i64 o.2.2.1, .int .i64 o.2.2.2] 88, .blk g2 #[.int .i64 rL, .int .i64 rE] 78, .blk g1 #[rv, pv, .int .i64 pL, .int .i64 pE, .int .i64 0, .int .i64 0, .int .i64 ((room : Nat) : Int)] 124, .row (rv) 119 4 (List.length rs) (List.flatMap (dbL rL rE) rs), .row (pv) 206 5 (List.length xs) (List.flatMap (dpL pL pE) xs)]) (fun w' => Hs M w0 w' [.blk g5 #[.bool false, .bool false] 90, .blk p #[.int .i64 rL, .int .i64 rE, .int .i64 pL, .int .i64 pE, .int .i64 ((room : Nat) : Int), .int .i64 hv, .slice (some ⟨gr, 0, none⟩) ranks ranks, .pointer (some ⟨t, 0, none⟩)] 187, .row (.slice (some ⟨gr, 0, none⟩) ranks ranks) 86 2 ranks (List.flatMap bukL (nRs ranks rs o.2.1 o.2.2.2)), .blk t #[svn, .int .i64 ((room : Nat) : Int), .func (.func 103) #[] #[]] 228, .row (svn) 230 3 (List.length (nXs ranks room xs o.2.1 o.2.2.1 o.2.2.2)) (List.flatMap pairLB (nXs ranks room xs o.2.1 o.2.2.1 o.2.2.2)), .blk g4 #[.slice none 0 0, .slice none 0 0, .int .i64 0, .int .i64 0, .int .i64 0, .int .i64 0, .int .i64 0] 124, .blk g3 #[.int .i64 o.1, .int .i64 o.2.1, .int .i64 o.2.2.1, .int .i64 o.2.2.2] 88, .blk g2 #[.int .i64 rL, .int .i64 rE] 78, .blk g1 #[rv, pv, .int .i64 pL, .int .i64 pE, .int .i64 0, .int .i64 0, .int .i64 ((room : Nat) : Int)] 124, .row (rv) 119 4 (List.length rs) (List.flatMap (dbL rL rE) rs), .row (pv) 206 5 (List.length xs) (List.flatMap (dpL pL pE) xs)]) (by kernel_rfl) (by kernel_rfl) (by kernel_rfl) hsShut (fun _ h => h.pick [0, 1, 2, 3, 4, 6, 7, 8, 9, 10] _ (by decide) (by kernel_rfl)) H.drew ?_
        refine s_quiet 0 rfl (by kernel_rfl) (y_loadn (t := 124) 7 g1 0 #[rv, pv, .int .i64 pL, .int .i64 pE, .int .i64 0, .int .i64 0, .int .i64 ((room : Nat) : Int)] 124 [rv, pv, .int .i64 pL, .int .i64 pE, .int .i64 0, .int .i64 0, .int .i64 ((room : Nat) : Int)] (by kernel_rfl) (by kernel_rfl) (by kernel_rfl) (by kernel_rfl) (by kernel_rfl)) ?_
        refine s_quiet 1 rfl (by kernel_rfl) (y_val (.int .i64 12) (by kernel_rfl) (fun _ => by kernel_rfl)) ?_
        refine s_quiet 2 rfl (by kernel_rfl) (y_val (.bool true) (by kernel_rfl) (fun _ => by kernel_rfl)) ?_
        refine s_quiet 3 rfl (by kernel_rfl) (y_val (.bool true) (by kernel_rfl) (fun _ => by kernel_rfl)) ?_
        refine s_quiet 4 rfl (by kernel_rfl) (y_loadn (t := 90) 0 g5 0 #[.bool false, .bool false] 90 [.bool false, .bool false] (by kernel_rfl) (by kernel_rfl) (by kernel_rfl) (by kernel_rfl) (by kernel_rfl)) ?_
        refine s_quiet 5 rfl (by kernel_rfl) (y_val (.agg #[.bool false, .bool false]) (by kernel_rfl) (fun _ => by kernel_rfl)) ?_
        refine s_quiet 6 rfl (by kernel_rfl) (y_val (.bool true) (by kernel_rfl) (fun _ => (run_eqS (t := 90) (x := .tmp 53) (y := .tmp 54) (xs := #[.bool false, .bool false]) (ys := #[.bool false, .bool false]) (B := true) (by kernel_rfl) (by kernel_rfl) (by kernel_rfl)))) ?_
        refine s_quiet 7 rfl (by kernel_rfl) (y_val (.bool true) (by kernel_rfl) (fun _ => by kernel_rfl)) ?_
        refine s_one 8 rfl (by kernel_rfl) rfl ?_
        clear H
        intro v31 H
        have h21o := H.rowOne 9 rfl
        have h22o := H.rowOne 10 rfl
        refine x_store (t := 124) (v := .agg #[rv, pv, .int .i64 pL, .int .i64 pE, .int .i64 0, .int .i64 0, .int .i64 ((room : Nat) : Int)]) H 5 g4 0 _ #[rv, pv, .int .i64 pL, .int .i64 pE, .int .i64 0, .int .i64 0, .int .i64 ((room : Nat) : Int)] 124 [rv, pv, .int .i64 pL, .int .i64 pE, .int .i64 0, .int .i64 0, .int .i64 ((room : Nat) : Int)] _ rfl rfl (by kernel_rfl) (by simp only [List.all_cons, List.all_nil, h21o, h22o, Bool.and_true, Bool.true_and] <;> rfl) (by kernel_rfl) rfl (by kernel_rfl) (by kernel_rfl) (by kernel_rfl) (by kernel_rfl) ?_
        clear H
        intro v32 H
        refine x_nil ?_
        refine x_then ?_
        refine ⟨fun w' => Hs M w0 w' [.blk g5 #[.bool false, .bool false] 90, .blk p #[.int .i64 rL, .int .i64 rE, .int .i64 pL, .int .i64 pE, .int .i64 ((room : Nat) : Int), .int .i64 hv, .slice (some ⟨gr, 0, none⟩) ranks ranks, .pointer (some ⟨t, 0, none⟩)] 187, .row (.slice (some ⟨gr, 0, none⟩) ranks ranks) 86 2 ranks (List.flatMap bukL (nRs ranks rs o.2.1 o.2.2.2)), .blk t #[svn, .int .i64 ((room : Nat) : Int), .func (.func 103) #[] #[]] 228, .row (svn) 230 3 (List.length (nXs ranks room xs o.2.1 o.2.2.1 o.2.2.2)) (List.flatMap pairLB (nXs ranks room xs o.2.1 o.2.2.1 o.2.2.2)), .blk g4 #[rv, pv, .int .i64 pL, .int .i64 pE, .int .i64 0, .int .i64 0, .int .i64 ((room : Nat) : Int)] 124, .blk g3 #[.int .i64 o.1, .int .i64 o.2.1, .int .i64 o.2.2.1, .int .i64 o.2.2.2] 88, .blk g2 #[.int .i64 rL, .int .i64 rE] 78, .blk g1 #[rv, pv, .int .i64 pL, .int .i64 pE, .int .i64 0, .int .i64 0, .int .i64 ((room : Nat) : Int)] 124, .row (rv) 119 4 (List.length rs) (List.flatMap (dbL rL rE) rs), .row (pv) 206 5 (List.length xs) (List.flatMap (dpL pL pE) xs)], fun w' => Hs M w0 w' [.blk g5 #[.bool false, .bool false] 90, .blk p #[.int .i64 rL, .int .i64 rE, .int .i64 pL, .int .i64 pE, .int .i64 ((room : Nat) : Int), .int .i64 hv, .slice (some ⟨gr, 0, none⟩) ranks ranks, .pointer (some ⟨t, 0, none⟩)] 187, .row (.slice (some ⟨gr, 0, none⟩) ranks ranks) 86 2 ranks (List.flatMap bukL (nRs ranks rs o.2.1 o.2.2.2)), .blk t #[svn, .int .i64 ((room : Nat) : Int), .func (.func 103) #[] #[]] 228, .row (svn) 230 3 (List.length (nXs ranks room xs o.2.1 o.2.2.1 o.2.2.2)) (List.flatMap pairLB (nXs ranks room xs o.2.1 o.2.2.1 o.2.2.2)), .blk g4 #[rv, pv, .int .i64 pL, .int .i64 pE, .int .i64 0, .int .i64 0, .int .i64 ((room : Nat) : Int)] 124, .blk g3 #[.int .i64 o.1, .int .i64 o.2.1, .int .i64 o.2.2.1, .int .i64 o.2.2.2] 88, .blk g2 #[.int .i64 rL, .int .i64 rE] 78, .blk g1 #[rv, pv, .int .i64 pL, .int .i64 pE, .int .i64 0, .int .i64 0, .int .i64 ((room : Nat) : Int)] 124, .row (rv) 119 4 (List.length rs) (List.flatMap (dbL rL rE) rs), .row (pv) 206 5 (List.length xs) (List.flatMap (dpL pL pE) xs)], H, hsShut, fun _ h => h.pick [0, 1, 2, 3, 4, 5, 6, 7, 8, 9, 10] _ (by decide) (by kernel_rfl), fun _ h => h.pick [0, 1, 2, 3, 4, 6, 7, 8, 9, 10] _ (by decide) (by kernel_rfl), ?_⟩
        refine s_quiet 9 rfl (by kernel_rfl) (y_val (.bool true) (by kernel_rfl) (fun _ => by kernel_rfl)) ?_
        refine s_done (by kernel_rfl) ?_
        clear H
        intro v33 H
        refine x_then ?_
        refine x_retc ?_
        refine x_then_ret ?_
        refine x_blk_ret ?_
        refine x_then_ret ?_
        refine x_ret (.tuple #[.agg #[rv, pv, .int .i64 pL, .int .i64 pE, .int .i64 0, .int .i64 0, .int .i64 ((room : Nat) : Int)], .bool true]) (by kernel_rfl) (x_rescell H 5 g4 0 #[rv, pv, .int .i64 pL, .int .i64 pE, .int .i64 0, .int .i64 0, .int .i64 ((room : Nat) : Int)] 124 [rv, pv, .int .i64 pL, .int .i64 pE, .int .i64 0, .int .i64 0, .int .i64 ((room : Nat) : Int)] (fun x => .tuple #[x, .bool true]) (by kernel_rfl) (by kernel_rfl) (by kernel_rfl)) ?_
        replace H := H.pick [1, 2, 3, 4, 9, 10] [.blk p #[.int .i64 rL, .int .i64 rE, .int .i64 pL, .int .i64 pE, .int .i64 ((room : Nat) : Int), .int .i64 hv, .slice (some ⟨gr, 0, none⟩) ranks ranks, .pointer (some ⟨t, 0, none⟩)] 187, .row (.slice (some ⟨gr, 0, none⟩) ranks ranks) 86 2 ranks (List.flatMap bukL (nRs ranks rs o.2.1 o.2.2.2)), .blk t #[svn, .int .i64 ((room : Nat) : Int), .func (.func 103) #[] #[]] 228, .row (svn) 230 3 (List.length (nXs ranks room xs o.2.1 o.2.2.1 o.2.2.2)) (List.flatMap pairLB (nXs ranks room xs o.2.1 o.2.2.1 o.2.2.2)), .row (rv) 119 4 (List.length rs) (List.flatMap (dbL rL rE) rs), .row (pv) 206 5 (List.length xs) (List.flatMap (dpL pL pE) xs)] (by decide) (by kernel_rfl)
        have e1 : stR ranks rE rs o = nRs ranks rs o.2.1 o.2.2.2 := by unfold stR; rw [if_pos (show o.1 = 1 by omega)]
        have e2 : stX ranks room pE xs o = nXs ranks room xs o.2.1 o.2.2.1 o.2.2.2 := by unfold stX; rw [if_pos (show o.1 = 1 by omega)]
        have f1 : nRs ranks rs o.2.1 o.2.2.2 = rs := by unfold nRs; rw [if_neg (by rw [h20]; decide)]
        have f2 : nXs ranks room xs o.2.1 o.2.2.1 o.2.2.2 = xs := by unfold nXs; rw [if_neg (by rw [h20]; decide)]
        rw [f1, f2] at H
        rw [f1] at e1
        rw [f2] at e2
        rw [e1, e2]
        exact ⟨(svn, rv, pv), rfl, H⟩
      · skip
        exact absurd (nOk_at h20).1.1 h1p
  · skip
    have h1p := of_decide_eq_true h1
    refine x_val (.pointer (some ⟨g3, 1, none⟩)) (by kernel_rfl) rfl (by kernel_rfl) ?_
    refine x_load1 H 1 g3 1 _ _ (.int .i64 o.2.1) rfl (by kernel_rfl) (by kernel_rfl) rfl (by kernel_rfl) ?_
    refine x_val (.int .i64 ((ranks : Nat) : Int)) (by kernel_rfl) rfl (by kernel_rfl) ?_
    refine x_val (.bool (decide (o.2.1 < ((ranks : Nat) : Int)))) (by kernel_rfl) rfl (by kernel_rfl) ?_
    refine x_val (.bool (decide (o.2.1 < ((ranks : Nat) : Int)))) (by kernel_rfl) rfl (by kernel_rfl) ?_
    refine x_val (.bool (decide (o.2.1 < ((ranks : Nat) : Int)))) (by kernel_rfl) rfl (by kernel_rfl) ?_
    refine x_nil ?_
    refine x_then ?_
    refine x_seq ?_
    refine x_seq ?_
    refine x_region ?_
    refine x_val (.pointer (some ⟨g3, 0, none⟩)) (by kernel_rfl) rfl (by kernel_rfl) ?_
    refine x_load1 H 1 g3 0 _ _ (.int .i64 o.1) rfl (by kernel_rfl) (by kernel_rfl) rfl (by kernel_rfl) ?_
    refine x_nil ?_
    refine x_then ?_
    refine x_block ?_
    refine x_seq ?_
    refine x_region ?_
    refine x_val (.bool (decide (o.1 = 1))) (by kernel_rfl) rfl (by kernel_rfl) ?_
    refine x_val (.bool (decide (o.1 = 1))) (by kernel_rfl) rfl (by kernel_rfl) ?_
    refine x_nil ?_
    refine x_then ?_
    cases h23 : decide (o.1 = 1)
    · skip
      have h23p := of_decide_eq_false h23
      refine x_f (by kernel_rfl) ?_
      refine x_seq ?_
      refine x_region ?_
      refine x_val (.bool (decide (o.1 = 2))) (by kernel_rfl) rfl (by kernel_rfl) ?_
      refine x_val (.bool (decide (o.1 = 2))) (by kernel_rfl) rfl (by kernel_rfl) ?_
      refine x_nil ?_
      refine x_then ?_
      cases h24 : decide (o.1 = 2)
      · skip
        have h24p := of_decide_eq_false h24
        refine x_f (by kernel_rfl) ?_
        refine x_seq ?_
        refine x_region ?_
        refine x_val (.bool (decide (o.1 = 3))) (by kernel_rfl) rfl (by kernel_rfl) ?_
        refine x_val (.bool (decide (o.1 = 3))) (by kernel_rfl) rfl (by kernel_rfl) ?_
        refine x_nil ?_
        refine x_then ?_
        cases h25 : decide (o.1 = 3)
        · skip
          have h25p := of_decide_eq_false h25
          refine x_f (by kernel_rfl) ?_
          refine x_seq ?_
          refine x_region ?_
          refine x_val (.bool (decide (o.1 = 4))) (by kernel_rfl) rfl (by kernel_rfl) ?_
          refine x_val (.bool (decide (o.1 = 4))) (by kernel_rfl) rfl (by kernel_rfl) ?_
          refine x_nil ?_
          refine x_then ?_
          cases h26 : decide (o.1 = 4)
          · skip
            have h26p := of_decide_eq_false h26
            refine x_f (by kernel_rfl) ?_
            refine x_skipc ?_
            refine x_blk ?_
            refine x_then ?_
            refine x_seq ?_
            refine x_region ?_
            refine x_loadn (t := 124) H 3 g1 0 _ _ [rv, pv, .int .i64 pL, .int .i64 pE, .int .i64 0, .int .i64 0, .int .i64 ((room : Nat) : Int)] rfl (by kernel_rfl) (by kernel_rfl) rfl (by kernel_rfl) (by kernel_rfl) ?_
            have h27o := H.rowOne 8 rfl
            have h28o := H.rowOne 9 rfl
            refine x_store (t := 124) (v := .agg #[rv, pv, .int .i64 pL, .int .i64 pE, .int .i64 0, .int .i64 0, .int .i64 ((room : Nat) : Int)]) H 0 g4 0 _ #[rv, pv, .int .i64 pL, .int .i64 pE, .int .i64 0, .int .i64 0, .int .i64 ((room : Nat) : Int)] 124 [rv, pv, .int .i64 pL, .int .i64 pE, .int .i64 0, .int .i64 0, .int .i64 ((room : Nat) : Int)] _ rfl rfl (by kernel_rfl) (by simp only [List.all_cons, List.all_nil, h27o, h28o, Bool.and_true, Bool.true_and] <;> rfl) (by kernel_rfl) rfl (by kernel_rfl) (by kernel_rfl) (by kernel_rfl) (by kernel_rfl) ?_
            clear H
            intro v34 H
            refine x_val (.bool true) (by kernel_rfl) rfl (by kernel_rfl) ?_
            refine x_nil ?_
            refine x_then ?_
            refine x_retc ?_
            refine x_ret (.tuple #[.agg #[rv, pv, .int .i64 pL, .int .i64 pE, .int .i64 0, .int .i64 0, .int .i64 ((room : Nat) : Int)], .bool true]) (by kernel_rfl) (x_rescell H 0 g4 0 #[rv, pv, .int .i64 pL, .int .i64 pE, .int .i64 0, .int .i64 0, .int .i64 ((room : Nat) : Int)] 124 [rv, pv, .int .i64 pL, .int .i64 pE, .int .i64 0, .int .i64 0, .int .i64 ((room : Nat) : Int)] (fun x => .tuple #[x, .bool true]) (by kernel_rfl) (by kernel_rfl) (by kernel_rfl)) ?_
            replace H := H.pick [4, 5, 6, 7, 8, 9] [.blk p #[.int .i64 rL, .int .i64 rE, .int .i64 pL, .int .i64 pE, .int .i64 ((room : Nat) : Int), .int .i64 hv, .slice (some ⟨gr, 0, none⟩) ranks ranks, .pointer (some ⟨t, 0, none⟩)] 187, .row (.slice (some ⟨gr, 0, none⟩) ranks ranks) 86 2 ranks (List.flatMap bukL rs), .blk t #[sv, .int .i64 ((room : Nat) : Int), .func (.func 103) #[] #[]] 228, .row (sv) 230 3 (List.length xs) (List.flatMap pairLB xs), .row (rv) 119 4 (List.length rs) (List.flatMap (dbL rL rE) rs), .row (pv) 206 5 (List.length xs) (List.flatMap (dpL pL pE) xs)] (by decide) (by kernel_rfl)
            have e1 : stR ranks rE rs o = rs := by unfold stR; rw [if_neg (show ¬ o.1 = 1 by omega), if_neg (show ¬ o.1 = 2 by omega), if_neg (show ¬ o.1 = 3 by omega)]
            have e2 : stX ranks room pE xs o = xs := by unfold stX; rw [if_neg (show ¬ o.1 = 1 by omega), if_neg (show ¬ o.1 = 2 by omega), if_neg (show ¬ o.1 = 4 by omega)]
            rw [e1, e2]
            exact ⟨(sv, rv, pv), rfl, H⟩
          · skip
            have h26p := of_decide_eq_true h26
            refine x_t (by kernel_rfl) ?_
            refine x_seq ?_
            refine x_region ?_
            refine x_val (.pointer (some ⟨p, 0, none⟩)) (by kernel_rfl) rfl (by kernel_rfl) ?_
            refine x_val (.pointer (some ⟨g3, 2, none⟩)) (by kernel_rfl) rfl (by kernel_rfl) ?_
            refine x_load1 H 1 g3 2 _ _ (.int .i64 o.2.2.1) rfl (by kernel_rfl) (by kernel_rfl) rfl (by kernel_rfl) ?_
            refine x_call (by kernel_rfl) rfl (by kernel_rfl) (Hs.useE (A := [.blk p #[.int .i64 rL, .int .i64 rE, .int .i64 pL, .int .i64 pE, .int .i64 ((room : Nat) : Int), .int .i64 hv, .slice (some ⟨gr, 0, none⟩) ranks ranks, .pointer (some ⟨t, 0, none⟩)] 187, .row (.slice (some ⟨gr, 0, none⟩) ranks ranks) 86 2 ranks (List.flatMap bukL rs), .blk t #[sv, .int .i64 ((room : Nat) : Int), .func (.func 103) #[] #[]] 228, .row (sv) 230 3 (List.length xs) (List.flatMap pairLB xs)]) (R := [.blk g4 #[.slice none 0 0, .slice none 0 0, .int .i64 0, .int .i64 0, .int .i64 0, .int .i64 0, .int .i64 0] 124, .blk g3 #[.int .i64 o.1, .int .i64 o.2.1, .int .i64 o.2.2.1, .int .i64 o.2.2.2] 88, .blk g2 #[.int .i64 rL, .int .i64 rE] 78, .blk g1 #[rv, pv, .int .i64 pL, .int .i64 pE, .int .i64 0, .int .i64 0, .int .i64 ((room : Nat) : Int)] 124, .row (rv) 119 4 (List.length rs) (List.flatMap (dbL rL rE) rs), .row (pv) 206 5 (List.length xs) (List.flatMap (dpL pL pE) xs)]) (fun svn => [.blk p #[.int .i64 rL, .int .i64 rE, .int .i64 pL, .int .i64 pE, .int .i64 ((room : Nat) : Int), .int .i64 hv, .slice (some ⟨gr, 0, none⟩) ranks ranks, .pointer (some ⟨t, 0, none⟩)] 187, .row (.slice (some ⟨gr, 0, none⟩) ranks ranks) 86 2 ranks (List.flatMap bukL rs), .blk t #[svn, .int .i64 ((room : Nat) : Int), .func (.func 103) #[] #[]] 228, .row (svn) 230 3 (List.length (dropB xs o.2.2.1)) (List.flatMap pairLB (dropB xs o.2.2.1))]) (fun _ => .tuple #[]) (H.pick [4, 5, 6, 7, 0, 1, 2, 3, 8, 9] _ (by decide) (by kernel_rfl)) (fun h => DropPage_any o.2.2.1 hk.n hk.m hP.m _ h)) ?_
            rintro _ v35 ⟨svn, rfl, H'⟩
            refine ⟨_, rfl, ?_⟩
            clear H
            have H : Hs M w0 _ [.blk p #[.int .i64 rL, .int .i64 rE, .int .i64 pL, .int .i64 pE, .int .i64 ((room : Nat) : Int), .int .i64 hv, .slice (some ⟨gr, 0, none⟩) ranks ranks, .pointer (some ⟨t, 0, none⟩)] 187, .row (.slice (some ⟨gr, 0, none⟩) ranks ranks) 86 2 ranks (List.flatMap bukL rs), .blk t #[svn, .int .i64 ((room : Nat) : Int), .func (.func 103) #[] #[]] 228, .row (svn) 230 3 (List.length (dropB xs o.2.2.1)) (List.flatMap pairLB (dropB xs o.2.2.1)), .blk g4 #[.slice none 0 0, .slice none 0 0, .int .i64 0, .int .i64 0, .int .i64 0, .int .i64 0, .int .i64 0] 124, .blk g3 #[.int .i64 o.1, .int .i64 o.2.1, .int .i64 o.2.2.1, .int .i64 o.2.2.2] 88, .blk g2 #[.int .i64 rL, .int .i64 rE] 78, .blk g1 #[rv, pv, .int .i64 pL, .int .i64 pE, .int .i64 0, .int .i64 0, .int .i64 ((room : Nat) : Int)] 124, .row (rv) 119 4 (List.length rs) (List.flatMap (dbL rL rE) rs), .row (pv) 206 5 (List.length xs) (List.flatMap (dpL pL pE) xs)] := H'
            clear H'
            refine x_nil ?_
            refine x_then ?_
            refine x_region_s 7 (fun w' => Hs M w0 w' [.blk p #[.int .i64 rL, .int .i64 rE, .int .i64 pL, .int .i64 pE, .int .i64 ((room : Nat) : Int), .int .i64 hv, .slice (some ⟨gr, 0, none⟩) ranks ranks, .pointer (some ⟨t, 0, none⟩)] 187, .row (.slice (some ⟨gr, 0, none⟩) ranks ranks) 86 2 ranks (List.flatMap bukL rs), .blk t #[svn, .int .i64 ((room : Nat) : Int), .func (.func 103) #[] #[]] 228, .row (svn) 230 3 (List.length (dropB xs o.2.2.1)) (List.flatMap pairLB (dropB xs o.2.2.1)), .blk g4 #[.slice none 0 0, .slice none 0 0, .int .i64 0, .int .i64 0, .int .i64 0, .int .i64 0, .int .i64 0] 124, .blk g3 #[.int .i64 o.1, .int .i64 o.2.1, .int .i64 o.2.2.1, .int .i64 o.2.2.2] 88, .blk g2 #[.int .i64 rL, .int .i64 rE] 78, .row (rv) 119 4 (List.length rs) (List.flatMap (dbL rL rE) rs), .row (pv) 206 5 (List.length xs) (List.flatMap (dpL pL pE) xs)]) (fun w' => Hs M w0 w' [.blk p #[.int .i64 rL, .int .i64 rE, .int .i64 pL, .int .i64 pE, .int .i64 ((room : Nat) : Int), .int .i64 hv, .slice (some ⟨gr, 0, none⟩) ranks ranks, .pointer (some ⟨t, 0, none⟩)] 187, .row (.slice (some ⟨gr, 0, none⟩) ranks ranks) 86 2 ranks (List.flatMap bukL rs), .blk t #[svn, .int .i64 ((room : Nat) : Int), .func (.func 103) #[] #[]] 228, .row (svn) 230 3 (List.length (dropB xs o.2.2.1)) (List.flatMap pairLB (dropB xs o.2.2.1)), .blk g4 #[.slice none 0 0, .slice none 0 0, .int .i64 0, .int .i64 0, .int .i64 0, .int .i64 0, .int .i64 0] 124, .blk g3 #[.int .i64 o.1, .int .i64 o.2.1, .int .i64 o.2.2.1, .int .i64 o.2.2.2] 88, .blk g2 #[.int .i64 rL, .int .i64 rE] 78, .blk g1 #[rv, pv, .int .i64 pL, .int .i64 pE, .int .i64 0, .int .i64 0, .int .i64 ((room : Nat) : Int)] 124, .row (rv) 119 4 (List.length rs) (List.flatMap (dbL rL rE) rs), .row (pv) 206 5 (List.length xs) (List.flatMap (dpL pL pE) xs)]) (by kernel_rfl) (by kernel_rfl) (by kernel_rfl) hsShut (fun _ h => h.pick [0, 1, 2, 3, 4, 5, 6, 8, 9] _ (by decide) (by kernel_rfl)) H.drew ?_
            refine s_quiet 2 rfl (by kernel_rfl) (y_val (.pointer (some ⟨g3, 2, none⟩)) (by kernel_rfl) (fun _ => by kernel_rfl)) ?_
            refine s_quiet 3 rfl (by kernel_rfl) (y_load1 5 g3 2 #[.int .i64 o.1, .int .i64 o.2.1, .int .i64 o.2.2.1, .int .i64 o.2.2.2] 88 (.int .i64 o.2.2.1) (by kernel_rfl) (by kernel_rfl) (by kernel_rfl) (fun _ => by kernel_rfl)) ?_
            refine s_two 0 1 rfl rfl (by kernel_rfl) rfl rfl ?_ ?_
            · skip
              clear H
              intro v36 H
              refine x_loadn (t := 124) H 7 g1 0 _ _ [rv, pv, .int .i64 pL, .int .i64 pE, .int .i64 0, .int .i64 0, .int .i64 ((room : Nat) : Int)] rfl (by kernel_rfl) (by kernel_rfl) rfl (by kernel_rfl) (by kernel_rfl) ?_
              refine x_nil ?_
              refine x_then ?_
              refine ⟨fun w' => Hs M w0 w' [.blk p #[.int .i64 rL, .int .i64 rE, .int .i64 pL, .int .i64 pE, .int .i64 ((room : Nat) : Int), .int .i64 hv, .slice (some ⟨gr, 0, none⟩) ranks ranks, .pointer (some ⟨t, 0, none⟩)] 187, .row (.slice (some ⟨gr, 0, none⟩) ranks ranks) 86 2 ranks (List.flatMap bukL rs), .blk t #[svn, .int .i64 ((room : Nat) : Int), .func (.func 103) #[] #[]] 228, .row (svn) 230 3 (List.length (dropB xs o.2.2.1)) (List.flatMap pairLB (dropB xs o.2.2.1)), .blk g4 #[.slice none 0 0, .slice none 0 0, .int .i64 0, .int .i64 0, .int .i64 0, .int .i64 0, .int .i64 0] 124, .blk g3 #[.int .i64 o.1, .int .i64 o.2.1, .int .i64 o.2.2.1, .int .i64 o.2.2.2] 88, .blk g2 #[.int .i64 rL, .int .i64 rE] 78, .row (rv) 119 4 (List.length rs) (List.flatMap (dbL rL rE) rs), .row (pv) 206 5 (List.length xs) (List.flatMap (dpL pL pE) xs)], fun w' => Hs M w0 w' [.blk p #[.int .i64 rL, .int .i64 rE, .int .i64 pL, .int .i64 pE, .int .i64 ((room : Nat) : Int), .int .i64 hv, .slice (some ⟨gr, 0, none⟩) ranks ranks, .pointer (some ⟨t, 0, none⟩)] 187, .row (.slice (some ⟨gr, 0, none⟩) ranks ranks) 86 2 ranks (List.flatMap bukL rs), .blk t #[svn, .int .i64 ((room : Nat) : Int), .func (.func 103) #[] #[]] 228, .row (svn) 230 3 (List.length (dropB xs o.2.2.1)) (List.flatMap pairLB (dropB xs o.2.2.1)), .blk g4 #[.slice none 0 0, .slice none 0 0, .int .i64 0, .int .i64 0, .int .i64 0, .int .i64 0, .int .i64 0] 124, .blk g3 #[.int .i64 o.1, .int .i64 o.2.1, .int .i64 o.2.2.1, .int .i64 o.2.2.2] 88, .blk g2 #[.int .i64 rL, .int .i64 rE] 78, .blk g1 #[rv, pv, .int .i64 pL, .int .i64 pE, .int .i64 0, .int .i64 0, .int .i64 ((room : Nat) : Int)] 124, .row (rv) 119 4 (List.length rs) (List.flatMap (dbL rL rE) rs), .row (pv) 206 5 (List.length xs) (List.flatMap (dpL pL pE) xs)], H, hsShut, fun _ h => h.pick [0, 1, 2, 3, 4, 5, 6, 8, 9] _ (by decide) (by kernel_rfl), fun _ h => h.pick [0, 1, 2, 3, 4, 5, 6, 7, 8] _ (by decide) (by kernel_rfl), ?_⟩
              refine s_one 1 rfl (by kernel_rfl) rfl ?_
              clear H
              intro v37 H
              refine x_loadn (t := 124) H 7 g1 0 _ _ [rv, pv, .int .i64 pL, .int .i64 pE, .int .i64 0, .int .i64 0, .int .i64 ((room : Nat) : Int)] rfl (by kernel_rfl) (by kernel_rfl) rfl (by kernel_rfl) (by kernel_rfl) ?_
              refine x_nil ?_
              refine x_then ?_
              refine ⟨fun w' => Hs M w0 w' [.blk p #[.int .i64 rL, .int .i64 rE, .int .i64 pL, .int .i64 pE, .int .i64 ((room : Nat) : Int), .int .i64 hv, .slice (some ⟨gr, 0, none⟩) ranks ranks, .pointer (some ⟨t, 0, none⟩)] 187, .row (.slice (some ⟨gr, 0, none⟩) ranks ranks) 86 2 ranks (List.flatMap bukL rs), .blk t #[svn, .int .i64 ((room : Nat) : Int), .func (.func 103) #[] #[]] 228, .row (svn) 230 3 (List.length (dropB xs o.2.2.1)) (List.flatMap pairLB (dropB xs o.2.2.1)), .blk g4 #[.slice none 0 0, .slice none 0 0, .int .i64 0, .int .i64 0, .int .i64 0, .int .i64 0, .int .i64 0] 124, .blk g3 #[.int .i64 o.1, .int .i64 o.2.1, .int .i64 o.2.2.1, .int .i64 o.2.2.2] 88, .blk g2 #[.int .i64 rL, .int .i64 rE] 78, .row (rv) 119 4 (List.length rs) (List.flatMap (dbL rL rE) rs), .row (pv) 206 5 (List.length xs) (List.flatMap (dpL pL pE) xs)], fun w' => Hs M w0 w' [.blk p #[.int .i64 rL, .int .i64 rE, .int .i64 pL, .int .i64 pE, .int .i64 ((room : Nat) : Int), .int .i64 hv, .slice (some ⟨gr, 0, none⟩) ranks ranks, .pointer (some ⟨t, 0, none⟩)] 187, .row (.slice (some ⟨gr, 0, none⟩) ranks ranks) 86 2 ranks (List.flatMap bukL rs), .blk t #[svn, .int .i64 ((room : Nat) : Int), .func (.func 103) #[] #[]] 228, .row (svn) 230 3 (List.length (dropB xs o.2.2.1)) (List.flatMap pairLB (dropB xs o.2.2.1)), .blk g4 #[.slice none 0 0, .slice none 0 0, .int .i64 0, .int .i64 0, .int .i64 0, .int .i64 0, .int .i64 0] 124, .blk g3 #[.int .i64 o.1, .int .i64 o.2.1, .int .i64 o.2.2.1, .int .i64 o.2.2.2] 88, .blk g2 #[.int .i64 rL, .int .i64 rE] 78, .blk g1 #[rv, pv, .int .i64 pL, .int .i64 pE, .int .i64 0, .int .i64 0, .int .i64 ((room : Nat) : Int)] 124, .row (rv) 119 4 (List.length rs) (List.flatMap (dbL rL rE) rs), .row (pv) 206 5 (List.length xs) (List.flatMap (dpL pL pE) xs)], H, hsShut, fun _ h => h.pick [0, 1, 2, 3, 4, 5, 6, 8, 9] _ (by decide) (by kernel_rfl), fun _ h => h.pick [0, 1, 2, 3, 4, 5, 6, 7, 8] _ (by decide) (by kernel_rfl), ?_⟩
              refine s_quiet 4 rfl (by kernel_rfl) (y_callK (.int .i64 (findB xs o.2.2.1)) (by kernel_rfl) (fun _ => by kernel_rfl) (fun _ H => (DFind (room := room) (rv := rv) xs o.2.2.1 (by omega) _ (H.roOf [8] [.row (pv) 206 5 (List.length xs) (List.flatMap (dpL pL pE) xs)] (by kernel_rfl))))) ?_
              refine s_one 5 rfl (by kernel_rfl) rfl ?_
              clear H
              intro v38 H
              refine x_call (by kernel_rfl) rfl (by kernel_rfl) (DDropI (room := room) o.2.2.1 (by omega) _ (Ro.two (H.roOf [8] [.row (rv) 119 4 (List.length rs) (List.flatMap (dbL rL rE) rs)] (by kernel_rfl)) (H.roOf [9] [.row (pv) 206 5 (List.length xs) (List.flatMap (dpL pL pE) xs)] (by kernel_rfl)))) ?_
              rintro _ v39 ⟨u2, rfl, hN'⟩
              refine ⟨_, rfl, ?_⟩
              replace H := H.more hN'
              clear hN'
              replace H : Hs M w0 _ [.row (u2) 206 5 (List.length (dropB xs o.2.2.1)) (List.flatMap (dpL pL pE) (dropB xs o.2.2.1)), .blk p #[.int .i64 rL, .int .i64 rE, .int .i64 pL, .int .i64 pE, .int .i64 ((room : Nat) : Int), .int .i64 hv, .slice (some ⟨gr, 0, none⟩) ranks ranks, .pointer (some ⟨t, 0, none⟩)] 187, .row (.slice (some ⟨gr, 0, none⟩) ranks ranks) 86 2 ranks (List.flatMap bukL rs), .blk t #[svn, .int .i64 ((room : Nat) : Int), .func (.func 103) #[] #[]] 228, .row (svn) 230 3 (List.length (dropB xs o.2.2.1)) (List.flatMap pairLB (dropB xs o.2.2.1)), .blk g4 #[.slice none 0 0, .slice none 0 0, .int .i64 0, .int .i64 0, .int .i64 0, .int .i64 0, .int .i64 0] 124, .blk g3 #[.int .i64 o.1, .int .i64 o.2.1, .int .i64 o.2.2.1, .int .i64 o.2.2.2] 88, .blk g2 #[.int .i64 rL, .int .i64 rE] 78, .blk g1 #[rv, pv, .int .i64 pL, .int .i64 pE, .int .i64 0, .int .i64 0, .int .i64 ((room : Nat) : Int)] 124, .row (rv) 119 4 (List.length rs) (List.flatMap (dbL rL rE) rs), .row (pv) 206 5 (List.length xs) (List.flatMap (dpL pL pE) xs)] := H
              refine x_nil ?_
              refine x_then ?_
              refine ⟨fun w' => Hs M w0 w' [.row (u2) 206 5 (List.length (dropB xs o.2.2.1)) (List.flatMap (dpL pL pE) (dropB xs o.2.2.1)), .blk p #[.int .i64 rL, .int .i64 rE, .int .i64 pL, .int .i64 pE, .int .i64 ((room : Nat) : Int), .int .i64 hv, .slice (some ⟨gr, 0, none⟩) ranks ranks, .pointer (some ⟨t, 0, none⟩)] 187, .row (.slice (some ⟨gr, 0, none⟩) ranks ranks) 86 2 ranks (List.flatMap bukL rs), .blk t #[svn, .int .i64 ((room : Nat) : Int), .func (.func 103) #[] #[]] 228, .row (svn) 230 3 (List.length (dropB xs o.2.2.1)) (List.flatMap pairLB (dropB xs o.2.2.1)), .blk g4 #[.slice none 0 0, .slice none 0 0, .int .i64 0, .int .i64 0, .int .i64 0, .int .i64 0, .int .i64 0] 124, .blk g3 #[.int .i64 o.1, .int .i64 o.2.1, .int .i64 o.2.2.1, .int .i64 o.2.2.2] 88, .blk g2 #[.int .i64 rL, .int .i64 rE] 78, .row (rv) 119 4 (List.length rs) (List.flatMap (dbL rL rE) rs), .row (pv) 206 5 (List.length xs) (List.flatMap (dpL pL pE) xs)], fun w' => Hs M w0 w' [.row (u2) 206 5 (List.length (dropB xs o.2.2.1)) (List.flatMap (dpL pL pE) (dropB xs o.2.2.1)), .blk p #[.int .i64 rL, .int .i64 rE, .int .i64 pL, .int .i64 pE, .int .i64 ((room : Nat) : Int), .int .i64 hv, .slice (some ⟨gr, 0, none⟩) ranks ranks, .pointer (some ⟨t, 0, none⟩)] 187, .row (.slice (some ⟨gr, 0, none⟩) ranks ranks) 86 2 ranks (List.flatMap bukL rs), .blk t #[svn, .int .i64 ((room : Nat) : Int), .func (.func 103) #[] #[]] 228, .row (svn) 230 3 (List.length (dropB xs o.2.2.1)) (List.flatMap pairLB (dropB xs o.2.2.1)), .blk g4 #[.slice none 0 0, .slice none 0 0, .int .i64 0, .int .i64 0, .int .i64 0, .int .i64 0, .int .i64 0] 124, .blk g3 #[.int .i64 o.1, .int .i64 o.2.1, .int .i64 o.2.2.1, .int .i64 o.2.2.2] 88, .blk g2 #[.int .i64 rL, .int .i64 rE] 78, .blk g1 #[rv, pv, .int .i64 pL, .int .i64 pE, .int .i64 0, .int .i64 0, .int .i64 ((room : Nat) : Int)] 124, .row (rv) 119 4 (List.length rs) (List.flatMap (dbL rL rE) rs), .row (pv) 206 5 (List.length xs) (List.flatMap (dpL pL pE) xs)], H, hsShut, fun _ h => h.pick [0, 1, 2, 3, 4, 5, 6, 7, 9, 10] _ (by decide) (by kernel_rfl), fun _ h => h.pick [1, 2, 3, 4, 5, 6, 7, 8, 9] _ (by decide) (by kernel_rfl), ?_⟩
              refine s_one 6 rfl (by kernel_rfl) rfl ?_
              clear H
              intro v40 H
              have h29o := H.rowOne 9 rfl
              have h30o := H.rowOne 0 rfl
              refine x_store (t := 124) (v := .agg #[rv, u2, .int .i64 pL, .int .i64 pE, .int .i64 0, .int .i64 0, .int .i64 ((room : Nat) : Int)]) H 8 g1 0 _ #[rv, u2, .int .i64 pL, .int .i64 pE, .int .i64 0, .int .i64 0, .int .i64 ((room : Nat) : Int)] 124 [rv, u2, .int .i64 pL, .int .i64 pE, .int .i64 0, .int .i64 0, .int .i64 ((room : Nat) : Int)] _ rfl rfl (by kernel_rfl) (by simp only [List.all_cons, List.all_nil, h29o, h30o, Bool.and_true, Bool.true_and] <;> rfl) (by kernel_rfl) rfl (by kernel_rfl) (by kernel_rfl) (by kernel_rfl) (by kernel_rfl) ?_
              clear H
              intro v41 H
              refine x_nil ?_
              refine x_then ?_
              refine ⟨fun w' => Hs M w0 w' [.row (u2) 206 5 (List.length (dropB xs o.2.2.1)) (List.flatMap (dpL pL pE) (dropB xs o.2.2.1)), .blk p #[.int .i64 rL, .int .i64 rE, .int .i64 pL, .int .i64 pE, .int .i64 ((room : Nat) : Int), .int .i64 hv, .slice (some ⟨gr, 0, none⟩) ranks ranks, .pointer (some ⟨t, 0, none⟩)] 187, .row (.slice (some ⟨gr, 0, none⟩) ranks ranks) 86 2 ranks (List.flatMap bukL rs), .blk t #[svn, .int .i64 ((room : Nat) : Int), .func (.func 103) #[] #[]] 228, .row (svn) 230 3 (List.length (dropB xs o.2.2.1)) (List.flatMap pairLB (dropB xs o.2.2.1)), .blk g4 #[.slice none 0 0, .slice none 0 0, .int .i64 0, .int .i64 0, .int .i64 0, .int .i64 0, .int .i64 0] 124, .blk g3 #[.int .i64 o.1, .int .i64 o.2.1, .int .i64 o.2.2.1, .int .i64 o.2.2.2] 88, .blk g2 #[.int .i64 rL, .int .i64 rE] 78, .blk g1 #[rv, u2, .int .i64 pL, .int .i64 pE, .int .i64 0, .int .i64 0, .int .i64 ((room : Nat) : Int)] 124, .row (rv) 119 4 (List.length rs) (List.flatMap (dbL rL rE) rs), .row (pv) 206 5 (List.length xs) (List.flatMap (dpL pL pE) xs)], fun w' => Hs M w0 w' [.row (u2) 206 5 (List.length (dropB xs o.2.2.1)) (List.flatMap (dpL pL pE) (dropB xs o.2.2.1)), .blk p #[.int .i64 rL, .int .i64 rE, .int .i64 pL, .int .i64 pE, .int .i64 ((room : Nat) : Int), .int .i64 hv, .slice (some ⟨gr, 0, none⟩) ranks ranks, .pointer (some ⟨t, 0, none⟩)] 187, .row (.slice (some ⟨gr, 0, none⟩) ranks ranks) 86 2 ranks (List.flatMap bukL rs), .blk t #[svn, .int .i64 ((room : Nat) : Int), .func (.func 103) #[] #[]] 228, .row (svn) 230 3 (List.length (dropB xs o.2.2.1)) (List.flatMap pairLB (dropB xs o.2.2.1)), .blk g4 #[.slice none 0 0, .slice none 0 0, .int .i64 0, .int .i64 0, .int .i64 0, .int .i64 0, .int .i64 0] 124, .blk g3 #[.int .i64 o.1, .int .i64 o.2.1, .int .i64 o.2.2.1, .int .i64 o.2.2.2] 88, .blk g2 #[.int .i64 rL, .int .i64 rE] 78, .blk g1 #[rv, u2, .int .i64 pL, .int .i64 pE, .int .i64 0, .int .i64 0, .int .i64 ((room : Nat) : Int)] 124, .row (rv) 119 4 (List.length rs) (List.flatMap (dbL rL rE) rs), .row (pv) 206 5 (List.length xs) (List.flatMap (dpL pL pE) xs)], H, hsShut, fun _ h => h.pick [0, 1, 2, 3, 4, 5, 6, 7, 8, 9, 10] _ (by decide) (by kernel_rfl), fun _ h => h.pick [0, 1, 2, 3, 4, 5, 6, 7, 9, 10] _ (by decide) (by kernel_rfl), ?_⟩
              refine s_done (by kernel_rfl) ?_
              clear H
              intro v42 H
              refine x_blk ?_
              refine x_then ?_
              refine x_seq ?_
              refine x_region ?_
              refine x_loadn (t := 124) H 8 g1 0 _ _ [rv, u2, .int .i64 pL, .int .i64 pE, .int .i64 0, .int .i64 0, .int .i64 ((room : Nat) : Int)] rfl (by kernel_rfl) (by kernel_rfl) rfl (by kernel_rfl) (by kernel_rfl) ?_
              have h31o := H.rowOne 9 rfl
              have h32o := H.rowOne 0 rfl
              refine x_store (t := 124) (v := .agg #[rv, u2, .int .i64 pL, .int .i64 pE, .int .i64 0, .int .i64 0, .int .i64 ((room : Nat) : Int)]) H 5 g4 0 _ #[rv, u2, .int .i64 pL, .int .i64 pE, .int .i64 0, .int .i64 0, .int .i64 ((room : Nat) : Int)] 124 [rv, u2, .int .i64 pL, .int .i64 pE, .int .i64 0, .int .i64 0, .int .i64 ((room : Nat) : Int)] [.row (u2) 206 5 (List.length (dropB xs o.2.2.1)) (List.flatMap (dpL pL pE) (dropB xs o.2.2.1)), .blk p #[.int .i64 rL, .int .i64 rE, .int .i64 pL, .int .i64 pE, .int .i64 ((room : Nat) : Int), .int .i64 hv, .slice (some ⟨gr, 0, none⟩) ranks ranks, .pointer (some ⟨t, 0, none⟩)] 187, .row (.slice (some ⟨gr, 0, none⟩) ranks ranks) 86 2 ranks (List.flatMap bukL rs), .blk t #[svn, .int .i64 ((room : Nat) : Int), .func (.func 103) #[] #[]] 228, .row (svn) 230 3 (List.length (dropB xs o.2.2.1)) (List.flatMap pairLB (dropB xs o.2.2.1)), .blk g4 #[rv, u2, .int .i64 pL, .int .i64 pE, .int .i64 0, .int .i64 0, .int .i64 ((room : Nat) : Int)] 124, .blk g3 #[.int .i64 o.1, .int .i64 o.2.1, .int .i64 o.2.2.1, .int .i64 o.2.2.2] 88, .blk g2 #[.int .i64 rL, .int .i64 rE] 78, .blk g1 #[rv, u2, .int .i64 pL, .int .i64 pE, .int .i64 0, .int .i64 0, .int .i64 ((room : Nat) : Int)] 124, .row (rv) 119 4 (List.length rs) (List.flatMap (dbL rL rE) rs), .row (pv) 206 5 (List.length xs) (List.flatMap (dpL pL pE) xs)] rfl rfl (by kernel_rfl) (by simp only [List.all_cons, List.all_nil, h31o, h32o, Bool.and_true, Bool.true_and] <;> rfl) (by kernel_rfl) (by kernel_rfl) (by kernel_rfl) (by kernel_rfl) (by kernel_rfl) (by kernel_rfl) ?_
              clear H
              intro v43 H
              refine x_val (.bool true) (by kernel_rfl) rfl (by kernel_rfl) ?_
              refine x_nil ?_
              refine x_then ?_
              refine x_retc ?_
              refine x_ret (.tuple #[.agg #[rv, u2, .int .i64 pL, .int .i64 pE, .int .i64 0, .int .i64 0, .int .i64 ((room : Nat) : Int)], .bool true]) (by kernel_rfl) (x_rescell H 5 g4 0 #[rv, u2, .int .i64 pL, .int .i64 pE, .int .i64 0, .int .i64 0, .int .i64 ((room : Nat) : Int)] 124 [rv, u2, .int .i64 pL, .int .i64 pE, .int .i64 0, .int .i64 0, .int .i64 ((room : Nat) : Int)] (fun x => .tuple #[x, .bool true]) (by kernel_rfl) (by kernel_rfl) (by kernel_rfl)) ?_
              replace H := H.pick [1, 2, 3, 4, 9, 0] [.blk p #[.int .i64 rL, .int .i64 rE, .int .i64 pL, .int .i64 pE, .int .i64 ((room : Nat) : Int), .int .i64 hv, .slice (some ⟨gr, 0, none⟩) ranks ranks, .pointer (some ⟨t, 0, none⟩)] 187, .row (.slice (some ⟨gr, 0, none⟩) ranks ranks) 86 2 ranks (List.flatMap bukL rs), .blk t #[svn, .int .i64 ((room : Nat) : Int), .func (.func 103) #[] #[]] 228, .row (svn) 230 3 (List.length (dropB xs o.2.2.1)) (List.flatMap pairLB (dropB xs o.2.2.1)), .row (rv) 119 4 (List.length rs) (List.flatMap (dbL rL rE) rs), .row (u2) 206 5 (List.length (dropB xs o.2.2.1)) (List.flatMap (dpL pL pE) (dropB xs o.2.2.1))] (by decide) (by kernel_rfl)
              have e1 : stR ranks rE rs o = rs := by unfold stR; rw [if_neg (show ¬ o.1 = 1 by omega), if_neg (show ¬ o.1 = 2 by omega), if_neg (show ¬ o.1 = 3 by omega)]
              have e2 : stX ranks room pE xs o = dropB xs o.2.2.1 := by unfold stX; rw [if_neg (show ¬ o.1 = 1 by omega), if_neg (show ¬ o.1 = 2 by omega), if_pos (show o.1 = 4 by omega)]
              rw [e1, e2]
              exact ⟨(svn, rv, u2), rfl, H⟩
            · skip
              clear H
              intro v44 H
              refine x_loadn (t := 124) H 7 g1 0 _ _ [rv, pv, .int .i64 pL, .int .i64 pE, .int .i64 0, .int .i64 0, .int .i64 ((room : Nat) : Int)] rfl (by kernel_rfl) (by kernel_rfl) rfl (by kernel_rfl) (by kernel_rfl) ?_
              refine x_nil ?_
              refine x_then ?_
              refine ⟨fun w' => Hs M w0 w' [.blk p #[.int .i64 rL, .int .i64 rE, .int .i64 pL, .int .i64 pE, .int .i64 ((room : Nat) : Int), .int .i64 hv, .slice (some ⟨gr, 0, none⟩) ranks ranks, .pointer (some ⟨t, 0, none⟩)] 187, .row (.slice (some ⟨gr, 0, none⟩) ranks ranks) 86 2 ranks (List.flatMap bukL rs), .blk t #[svn, .int .i64 ((room : Nat) : Int), .func (.func 103) #[] #[]] 228, .row (svn) 230 3 (List.length (dropB xs o.2.2.1)) (List.flatMap pairLB (dropB xs o.2.2.1)), .blk g4 #[.slice none 0 0, .slice none 0 0, .int .i64 0, .int .i64 0, .int .i64 0, .int .i64 0, .int .i64 0] 124, .blk g3 #[.int .i64 o.1, .int .i64 o.2.1, .int .i64 o.2.2.1, .int .i64 o.2.2.2] 88, .blk g2 #[.int .i64 rL, .int .i64 rE] 78, .row (rv) 119 4 (List.length rs) (List.flatMap (dbL rL rE) rs), .row (pv) 206 5 (List.length xs) (List.flatMap (dpL pL pE) xs)], fun w' => Hs M w0 w' [.blk p #[.int .i64 rL, .int .i64 rE, .int .i64 pL, .int .i64 pE, .int .i64 ((room : Nat) : Int), .int .i64 hv, .slice (some ⟨gr, 0, none⟩) ranks ranks, .pointer (some ⟨t, 0, none⟩)] 187, .row (.slice (some ⟨gr, 0, none⟩) ranks ranks) 86 2 ranks (List.flatMap bukL rs), .blk t #[svn, .int .i64 ((room : Nat) : Int), .func (.func 103) #[] #[]] 228, .row (svn) 230 3 (List.length (dropB xs o.2.2.1)) (List.flatMap pairLB (dropB xs o.2.2.1)), .blk g4 #[.slice none 0 0, .slice none 0 0, .int .i64 0, .int .i64 0, .int .i64 0, .int .i64 0, .int .i64 0] 124, .blk g3 #[.int .i64 o.1, .int .i64 o.2.1, .int .i64 o.2.2.1, .int .i64 o.2.2.2] 88, .blk g2 #[.int .i64 rL, .int .i64 rE] 78, .blk g1 #[rv, pv, .int .i64 pL, .int .i64 pE, .int .i64 0, .int .i64 0, .int .i64 ((room : Nat) : Int)] 124, .row (rv) 119 4 (List.length rs) (List.flatMap (dbL rL rE) rs), .row (pv) 206 5 (List.length xs) (List.flatMap (dpL pL pE) xs)], H, hsShut, fun _ h => h.pick [0, 1, 2, 3, 4, 5, 6, 8, 9] _ (by decide) (by kernel_rfl), fun _ h => h.pick [0, 1, 2, 3, 4, 5, 6, 7, 8] _ (by decide) (by kernel_rfl), ?_⟩
              refine s_quiet 4 rfl (by kernel_rfl) (y_callK (.int .i64 (findB xs o.2.2.1)) (by kernel_rfl) (fun _ => by kernel_rfl) (fun _ H => (DFind (room := room) (rv := rv) xs o.2.2.1 (by omega) _ (H.roOf [8] [.row (pv) 206 5 (List.length xs) (List.flatMap (dpL pL pE) xs)] (by kernel_rfl))))) ?_
              refine s_one 0 rfl (by kernel_rfl) rfl ?_
              clear H
              intro v45 H
              refine x_loadn (t := 124) H 7 g1 0 _ _ [rv, pv, .int .i64 pL, .int .i64 pE, .int .i64 0, .int .i64 0, .int .i64 ((room : Nat) : Int)] rfl (by kernel_rfl) (by kernel_rfl) rfl (by kernel_rfl) (by kernel_rfl) ?_
              refine x_nil ?_
              refine x_then ?_
              refine ⟨fun w' => Hs M w0 w' [.blk p #[.int .i64 rL, .int .i64 rE, .int .i64 pL, .int .i64 pE, .int .i64 ((room : Nat) : Int), .int .i64 hv, .slice (some ⟨gr, 0, none⟩) ranks ranks, .pointer (some ⟨t, 0, none⟩)] 187, .row (.slice (some ⟨gr, 0, none⟩) ranks ranks) 86 2 ranks (List.flatMap bukL rs), .blk t #[svn, .int .i64 ((room : Nat) : Int), .func (.func 103) #[] #[]] 228, .row (svn) 230 3 (List.length (dropB xs o.2.2.1)) (List.flatMap pairLB (dropB xs o.2.2.1)), .blk g4 #[.slice none 0 0, .slice none 0 0, .int .i64 0, .int .i64 0, .int .i64 0, .int .i64 0, .int .i64 0] 124, .blk g3 #[.int .i64 o.1, .int .i64 o.2.1, .int .i64 o.2.2.1, .int .i64 o.2.2.2] 88, .blk g2 #[.int .i64 rL, .int .i64 rE] 78, .row (rv) 119 4 (List.length rs) (List.flatMap (dbL rL rE) rs), .row (pv) 206 5 (List.length xs) (List.flatMap (dpL pL pE) xs)], fun w' => Hs M w0 w' [.blk p #[.int .i64 rL, .int .i64 rE, .int .i64 pL, .int .i64 pE, .int .i64 ((room : Nat) : Int), .int .i64 hv, .slice (some ⟨gr, 0, none⟩) ranks ranks, .pointer (some ⟨t, 0, none⟩)] 187, .row (.slice (some ⟨gr, 0, none⟩) ranks ranks) 86 2 ranks (List.flatMap bukL rs), .blk t #[svn, .int .i64 ((room : Nat) : Int), .func (.func 103) #[] #[]] 228, .row (svn) 230 3 (List.length (dropB xs o.2.2.1)) (List.flatMap pairLB (dropB xs o.2.2.1)), .blk g4 #[.slice none 0 0, .slice none 0 0, .int .i64 0, .int .i64 0, .int .i64 0, .int .i64 0, .int .i64 0] 124, .blk g3 #[.int .i64 o.1, .int .i64 o.2.1, .int .i64 o.2.2.1, .int .i64 o.2.2.2] 88, .blk g2 #[.int .i64 rL, .int .i64 rE] 78, .blk g1 #[rv, pv, .int .i64 pL, .int .i64 pE, .int .i64 0, .int .i64 0, .int .i64 ((room : Nat) : Int)] 124, .row (rv) 119 4 (List.length rs) (List.flatMap (dbL rL rE) rs), .row (pv) 206 5 (List.length xs) (List.flatMap (dpL pL pE) xs)], H, hsShut, fun _ h => h.pick [0, 1, 2, 3, 4, 5, 6, 8, 9] _ (by decide) (by kernel_rfl), fun _ h => h.pick [0, 1, 2, 3, 4, 5, 6, 7, 8] _ (by decide) (by kernel_rfl), ?_⟩
              refine s_one 5 rfl (by kernel_rfl) rfl ?_
              clear H
              intro v46 H
              refine x_call (by kernel_rfl) rfl (by kernel_rfl) (DDropI (room := room) o.2.2.1 (by omega) _ (Ro.two (H.roOf [8] [.row (rv) 119 4 (List.length rs) (List.flatMap (dbL rL rE) rs)] (by kernel_rfl)) (H.roOf [9] [.row (pv) 206 5 (List.length xs) (List.flatMap (dpL pL pE) xs)] (by kernel_rfl)))) ?_
              rintro _ v47 ⟨u2, rfl, hN'⟩
              refine ⟨_, rfl, ?_⟩
              replace H := H.more hN'
              clear hN'
              replace H : Hs M w0 _ [.row (u2) 206 5 (List.length (dropB xs o.2.2.1)) (List.flatMap (dpL pL pE) (dropB xs o.2.2.1)), .blk p #[.int .i64 rL, .int .i64 rE, .int .i64 pL, .int .i64 pE, .int .i64 ((room : Nat) : Int), .int .i64 hv, .slice (some ⟨gr, 0, none⟩) ranks ranks, .pointer (some ⟨t, 0, none⟩)] 187, .row (.slice (some ⟨gr, 0, none⟩) ranks ranks) 86 2 ranks (List.flatMap bukL rs), .blk t #[svn, .int .i64 ((room : Nat) : Int), .func (.func 103) #[] #[]] 228, .row (svn) 230 3 (List.length (dropB xs o.2.2.1)) (List.flatMap pairLB (dropB xs o.2.2.1)), .blk g4 #[.slice none 0 0, .slice none 0 0, .int .i64 0, .int .i64 0, .int .i64 0, .int .i64 0, .int .i64 0] 124, .blk g3 #[.int .i64 o.1, .int .i64 o.2.1, .int .i64 o.2.2.1, .int .i64 o.2.2.2] 88, .blk g2 #[.int .i64 rL, .int .i64 rE] 78, .blk g1 #[rv, pv, .int .i64 pL, .int .i64 pE, .int .i64 0, .int .i64 0, .int .i64 ((room : Nat) : Int)] 124, .row (rv) 119 4 (List.length rs) (List.flatMap (dbL rL rE) rs), .row (pv) 206 5 (List.length xs) (List.flatMap (dpL pL pE) xs)] := H
              refine x_nil ?_
              refine x_then ?_
              refine ⟨fun w' => Hs M w0 w' [.row (u2) 206 5 (List.length (dropB xs o.2.2.1)) (List.flatMap (dpL pL pE) (dropB xs o.2.2.1)), .blk p #[.int .i64 rL, .int .i64 rE, .int .i64 pL, .int .i64 pE, .int .i64 ((room : Nat) : Int), .int .i64 hv, .slice (some ⟨gr, 0, none⟩) ranks ranks, .pointer (some ⟨t, 0, none⟩)] 187, .row (.slice (some ⟨gr, 0, none⟩) ranks ranks) 86 2 ranks (List.flatMap bukL rs), .blk t #[svn, .int .i64 ((room : Nat) : Int), .func (.func 103) #[] #[]] 228, .row (svn) 230 3 (List.length (dropB xs o.2.2.1)) (List.flatMap pairLB (dropB xs o.2.2.1)), .blk g4 #[.slice none 0 0, .slice none 0 0, .int .i64 0, .int .i64 0, .int .i64 0, .int .i64 0, .int .i64 0] 124, .blk g3 #[.int .i64 o.1, .int .i64 o.2.1, .int .i64 o.2.2.1, .int .i64 o.2.2.2] 88, .blk g2 #[.int .i64 rL, .int .i64 rE] 78, .row (rv) 119 4 (List.length rs) (List.flatMap (dbL rL rE) rs), .row (pv) 206 5 (List.length xs) (List.flatMap (dpL pL pE) xs)], fun w' => Hs M w0 w' [.row (u2) 206 5 (List.length (dropB xs o.2.2.1)) (List.flatMap (dpL pL pE) (dropB xs o.2.2.1)), .blk p #[.int .i64 rL, .int .i64 rE, .int .i64 pL, .int .i64 pE, .int .i64 ((room : Nat) : Int), .int .i64 hv, .slice (some ⟨gr, 0, none⟩) ranks ranks, .pointer (some ⟨t, 0, none⟩)] 187, .row (.slice (some ⟨gr, 0, none⟩) ranks ranks) 86 2 ranks (List.flatMap bukL rs), .blk t #[svn, .int .i64 ((room : Nat) : Int), .func (.func 103) #[] #[]] 228, .row (svn) 230 3 (List.length (dropB xs o.2.2.1)) (List.flatMap pairLB (dropB xs o.2.2.1)), .blk g4 #[.slice none 0 0, .slice none 0 0, .int .i64 0, .int .i64 0, .int .i64 0, .int .i64 0, .int .i64 0] 124, .blk g3 #[.int .i64 o.1, .int .i64 o.2.1, .int .i64 o.2.2.1, .int .i64 o.2.2.2] 88, .blk g2 #[.int .i64 rL, .int .i64 rE] 78, .blk g1 #[rv, pv, .int .i64 pL, .int .i64 pE, .int .i64 0, .int .i64 0, .int .i64 ((room : Nat) : Int)] 124, .row (rv) 119 4 (List.length rs) (List.flatMap (dbL rL rE) rs), .row (pv) 206 5 (List.length xs) (List.flatMap (dpL pL pE) xs)], H, hsShut, fun _ h => h.pick [0, 1, 2, 3, 4, 5, 6, 7, 9, 10] _ (by decide) (by kernel_rfl), fun _ h => h.pick [1, 2, 3, 4, 5, 6, 7, 8, 9] _ (by decide) (by kernel_rfl), ?_⟩
              refine s_one 6 rfl (by kernel_rfl) rfl ?_
              clear H
              intro v48 H
              have h33o := H.rowOne 9 rfl
              have h34o := H.rowOne 0 rfl
              refine x_store (t := 124) (v := .agg #[rv, u2, .int .i64 pL, .int .i64 pE, .int .i64 0, .int .i64 0, .int .i64 ((room : Nat) : Int)]) H 8 g1 0 _ #[rv, u2, .int .i64 pL, .int .i64 pE, .int .i64 0, .int .i64 0, .int .i64 ((room : Nat) : Int)] 124 [rv, u2, .int .i64 pL, .int .i64 pE, .int .i64 0, .int .i64 0, .int .i64 ((room : Nat) : Int)] _ rfl rfl (by kernel_rfl) (by simp only [List.all_cons, List.all_nil, h33o, h34o, Bool.and_true, Bool.true_and] <;> rfl) (by kernel_rfl) rfl (by kernel_rfl) (by kernel_rfl) (by kernel_rfl) (by kernel_rfl) ?_
              clear H
              intro v49 H
              refine x_nil ?_
              refine x_then ?_
              refine ⟨fun w' => Hs M w0 w' [.row (u2) 206 5 (List.length (dropB xs o.2.2.1)) (List.flatMap (dpL pL pE) (dropB xs o.2.2.1)), .blk p #[.int .i64 rL, .int .i64 rE, .int .i64 pL, .int .i64 pE, .int .i64 ((room : Nat) : Int), .int .i64 hv, .slice (some ⟨gr, 0, none⟩) ranks ranks, .pointer (some ⟨t, 0, none⟩)] 187, .row (.slice (some ⟨gr, 0, none⟩) ranks ranks) 86 2 ranks (List.flatMap bukL rs), .blk t #[svn, .int .i64 ((room : Nat) : Int), .func (.func 103) #[] #[]] 228, .row (svn) 230 3 (List.length (dropB xs o.2.2.1)) (List.flatMap pairLB (dropB xs o.2.2.1)), .blk g4 #[.slice none 0 0, .slice none 0 0, .int .i64 0, .int .i64 0, .int .i64 0, .int .i64 0, .int .i64 0] 124, .blk g3 #[.int .i64 o.1, .int .i64 o.2.1, .int .i64 o.2.2.1, .int .i64 o.2.2.2] 88, .blk g2 #[.int .i64 rL, .int .i64 rE] 78, .blk g1 #[rv, u2, .int .i64 pL, .int .i64 pE, .int .i64 0, .int .i64 0, .int .i64 ((room : Nat) : Int)] 124, .row (rv) 119 4 (List.length rs) (List.flatMap (dbL rL rE) rs), .row (pv) 206 5 (List.length xs) (List.flatMap (dpL pL pE) xs)], fun w' => Hs M w0 w' [.row (u2) 206 5 (List.length (dropB xs o.2.2.1)) (List.flatMap (dpL pL pE) (dropB xs o.2.2.1)), .blk p #[.int .i64 rL, .int .i64 rE, .int .i64 pL, .int .i64 pE, .int .i64 ((room : Nat) : Int), .int .i64 hv, .slice (some ⟨gr, 0, none⟩) ranks ranks, .pointer (some ⟨t, 0, none⟩)] 187, .row (.slice (some ⟨gr, 0, none⟩) ranks ranks) 86 2 ranks (List.flatMap bukL rs), .blk t #[svn, .int .i64 ((room : Nat) : Int), .func (.func 103) #[] #[]] 228, .row (svn) 230 3 (List.length (dropB xs o.2.2.1)) (List.flatMap pairLB (dropB xs o.2.2.1)), .blk g4 #[.slice none 0 0, .slice none 0 0, .int .i64 0, .int .i64 0, .int .i64 0, .int .i64 0, .int .i64 0] 124, .blk g3 #[.int .i64 o.1, .int .i64 o.2.1, .int .i64 o.2.2.1, .int .i64 o.2.2.2] 88, .blk g2 #[.int .i64 rL, .int .i64 rE] 78, .blk g1 #[rv, u2, .int .i64 pL, .int .i64 pE, .int .i64 0, .int .i64 0, .int .i64 ((room : Nat) : Int)] 124, .row (rv) 119 4 (List.length rs) (List.flatMap (dbL rL rE) rs), .row (pv) 206 5 (List.length xs) (List.flatMap (dpL pL pE) xs)], H, hsShut, fun _ h => h.pick [0, 1, 2, 3, 4, 5, 6, 7, 8, 9, 10] _ (by decide) (by kernel_rfl), fun _ h => h.pick [0, 1, 2, 3, 4, 5, 6, 7, 9, 10] _ (by decide) (by kernel_rfl), ?_⟩
              refine s_done (by kernel_rfl) ?_
              clear H
              intro v50 H
              refine x_blk ?_
              refine x_then ?_
              refine x_seq ?_
              refine x_region ?_
              refine x_loadn (t := 124) H 8 g1 0 _ _ [rv, u2, .int .i64 pL, .int .i64 pE, .int .i64 0, .int .i64 0, .int .i64 ((room : Nat) : Int)] rfl (by kernel_rfl) (by kernel_rfl) rfl (by kernel_rfl) (by kernel_rfl) ?_
              have h35o := H.rowOne 9 rfl
              have h36o := H.rowOne 0 rfl
              refine x_store (t := 124) (v := .agg #[rv, u2, .int .i64 pL, .int .i64 pE, .int .i64 0, .int .i64 0, .int .i64 ((room : Nat) : Int)]) H 5 g4 0 _ #[rv, u2, .int .i64 pL, .int .i64 pE, .int .i64 0, .int .i64 0, .int .i64 ((room : Nat) : Int)] 124 [rv, u2, .int .i64 pL, .int .i64 pE, .int .i64 0, .int .i64 0, .int .i64 ((room : Nat) : Int)] _ rfl rfl (by kernel_rfl) (by simp only [List.all_cons, List.all_nil, h35o, h36o, Bool.and_true, Bool.true_and] <;> rfl) (by kernel_rfl) rfl (by kernel_rfl) (by kernel_rfl) (by kernel_rfl) (by kernel_rfl) ?_
              clear H
              intro v51 H
              refine x_val (.bool true) (by kernel_rfl) rfl (by kernel_rfl) ?_
              refine x_nil ?_
              refine x_then ?_
              refine x_retc ?_
              refine x_ret (.tuple #[.agg #[rv, u2, .int .i64 pL, .int .i64 pE, .int .i64 0, .int .i64 0, .int .i64 ((room : Nat) : Int)], .bool true]) (by kernel_rfl) (x_rescell H 5 g4 0 #[rv, u2, .int .i64 pL, .int .i64 pE, .int .i64 0, .int .i64 0, .int .i64 ((room : Nat) : Int)] 124 [rv, u2, .int .i64 pL, .int .i64 pE, .int .i64 0, .int .i64 0, .int .i64 ((room : Nat) : Int)] (fun x => .tuple #[x, .bool true]) (by kernel_rfl) (by kernel_rfl) (by kernel_rfl)) ?_
              replace H := H.pick [1, 2, 3, 4, 9, 0] [.blk p #[.int .i64 rL, .int .i64 rE, .int .i64 pL, .int .i64 pE, .int .i64 ((room : Nat) : Int), .int .i64 hv, .slice (some ⟨gr, 0, none⟩) ranks ranks, .pointer (some ⟨t, 0, none⟩)] 187, .row (.slice (some ⟨gr, 0, none⟩) ranks ranks) 86 2 ranks (List.flatMap bukL rs), .blk t #[svn, .int .i64 ((room : Nat) : Int), .func (.func 103) #[] #[]] 228, .row (svn) 230 3 (List.length (dropB xs o.2.2.1)) (List.flatMap pairLB (dropB xs o.2.2.1)), .row (rv) 119 4 (List.length rs) (List.flatMap (dbL rL rE) rs), .row (u2) 206 5 (List.length (dropB xs o.2.2.1)) (List.flatMap (dpL pL pE) (dropB xs o.2.2.1))] (by decide) (by kernel_rfl)
              have e1 : stR ranks rE rs o = rs := by unfold stR; rw [if_neg (show ¬ o.1 = 1 by omega), if_neg (show ¬ o.1 = 2 by omega), if_neg (show ¬ o.1 = 3 by omega)]
              have e2 : stX ranks room pE xs o = dropB xs o.2.2.1 := by unfold stX; rw [if_neg (show ¬ o.1 = 1 by omega), if_neg (show ¬ o.1 = 2 by omega), if_pos (show o.1 = 4 by omega)]
              rw [e1, e2]
              exact ⟨(svn, rv, u2), rfl, H⟩
        · skip
          have h25p := of_decide_eq_true h25
          refine x_t (by kernel_rfl) ?_
          refine x_seq ?_
          refine x_region ?_
          refine x_val (.pointer (some ⟨p, 0, none⟩)) (by kernel_rfl) rfl (by kernel_rfl) ?_
          refine x_val (.pointer (some ⟨g3, 1, none⟩)) (by kernel_rfl) rfl (by kernel_rfl) ?_
          refine x_load1 H 1 g3 1 _ _ (.int .i64 o.2.1) rfl (by kernel_rfl) (by kernel_rfl) rfl (by kernel_rfl) ?_
          refine x_callH (.tuple #[]) [.blk p #[.int .i64 rL, .int .i64 rE, .int .i64 pL, .int .i64 pE, .int .i64 ((room : Nat) : Int), .int .i64 hv, .slice (some ⟨gr, 0, none⟩) ranks ranks, .pointer (some ⟨t, 0, none⟩)] 187, .row (.slice (some ⟨gr, 0, none⟩) ranks ranks) 86 2 ranks (List.flatMap bukL (rset ranks rs o.2.1)), .blk g4 #[.slice none 0 0, .slice none 0 0, .int .i64 0, .int .i64 0, .int .i64 0, .int .i64 0, .int .i64 0] 124, .blk g3 #[.int .i64 o.1, .int .i64 o.2.1, .int .i64 o.2.2.1, .int .i64 o.2.2.2] 88, .blk g2 #[.int .i64 rL, .int .i64 rE] 78, .blk g1 #[rv, pv, .int .i64 pL, .int .i64 pE, .int .i64 0, .int .i64 0, .int .i64 ((room : Nat) : Int)] 124, .blk t #[sv, .int .i64 ((room : Nat) : Int), .func (.func 103) #[] #[]] 228, .row (sv) 230 3 (List.length xs) (List.flatMap pairLB xs), .row (rv) 119 4 (List.length rs) (List.flatMap (dbL rL rE) rs), .row (pv) 206 5 (List.length xs) (List.flatMap (dpL pL pE) xs)] (by kernel_rfl) rfl (by kernel_rfl) (Hs.use (A := [.blk p #[.int .i64 rL, .int .i64 rE, .int .i64 pL, .int .i64 pE, .int .i64 ((room : Nat) : Int), .int .i64 hv, .slice (some ⟨gr, 0, none⟩) ranks ranks, .pointer (some ⟨t, 0, none⟩)] 187, .row (.slice (some ⟨gr, 0, none⟩) ranks ranks) 86 2 ranks (List.flatMap bukL rs)]) (R := [.blk g4 #[.slice none 0 0, .slice none 0 0, .int .i64 0, .int .i64 0, .int .i64 0, .int .i64 0, .int .i64 0] 124, .blk g3 #[.int .i64 o.1, .int .i64 o.2.1, .int .i64 o.2.2.1, .int .i64 o.2.2.2] 88, .blk g2 #[.int .i64 rL, .int .i64 rE] 78, .blk g1 #[rv, pv, .int .i64 pL, .int .i64 pE, .int .i64 0, .int .i64 0, .int .i64 ((room : Nat) : Int)] 124, .blk t #[sv, .int .i64 ((room : Nat) : Int), .func (.func 103) #[] #[]] 228, .row (sv) 230 3 (List.length xs) (List.flatMap pairLB xs), .row (rv) 119 4 (List.length rs) (List.flatMap (dbL rL rE) rs), .row (pv) 206 5 (List.length xs) (List.flatMap (dpL pL pE) xs)]) (H.pick [4, 5, 0, 1, 2, 3, 6, 7, 8, 9] _ (by decide) (by kernel_rfl)) (fun h => Reset_any o.2.1 hk.n _ h)) ?_
          clear H
          intro v52 H
          refine x_nil ?_
          refine x_then ?_
          refine x_seq ?_
          refine x_region ?_
          refine x_val (.bool (decide (o.2.1 < ((ranks : Nat) : Int)))) (by kernel_rfl) rfl (by kernel_rfl) ?_
          refine x_nil ?_
          refine x_then ?_
          cases h37 : decide (o.2.1 < ((ranks : Nat) : Int))
          · skip
            have h37p := of_decide_eq_false h37
            refine x_f (by kernel_rfl) ?_
            refine x_skipc ?_
            refine x_blk ?_
            refine x_then ?_
            refine x_seq ?_
            refine x_region ?_
            refine x_loadn (t := 124) H 5 g1 0 _ _ [rv, pv, .int .i64 pL, .int .i64 pE, .int .i64 0, .int .i64 0, .int .i64 ((room : Nat) : Int)] rfl (by kernel_rfl) (by kernel_rfl) rfl (by kernel_rfl) (by kernel_rfl) ?_
            have h38o := H.rowOne 8 rfl
            have h39o := H.rowOne 9 rfl
            refine x_store (t := 124) (v := .agg #[rv, pv, .int .i64 pL, .int .i64 pE, .int .i64 0, .int .i64 0, .int .i64 ((room : Nat) : Int)]) H 2 g4 0 _ #[rv, pv, .int .i64 pL, .int .i64 pE, .int .i64 0, .int .i64 0, .int .i64 ((room : Nat) : Int)] 124 [rv, pv, .int .i64 pL, .int .i64 pE, .int .i64 0, .int .i64 0, .int .i64 ((room : Nat) : Int)] _ rfl rfl (by kernel_rfl) (by simp only [List.all_cons, List.all_nil, h38o, h39o, Bool.and_true, Bool.true_and] <;> rfl) (by kernel_rfl) rfl (by kernel_rfl) (by kernel_rfl) (by kernel_rfl) (by kernel_rfl) ?_
            clear H
            intro v53 H
            refine x_val (.bool true) (by kernel_rfl) rfl (by kernel_rfl) ?_
            refine x_nil ?_
            refine x_then ?_
            refine x_retc ?_
            refine x_ret (.tuple #[.agg #[rv, pv, .int .i64 pL, .int .i64 pE, .int .i64 0, .int .i64 0, .int .i64 ((room : Nat) : Int)], .bool true]) (by kernel_rfl) (x_rescell H 2 g4 0 #[rv, pv, .int .i64 pL, .int .i64 pE, .int .i64 0, .int .i64 0, .int .i64 ((room : Nat) : Int)] 124 [rv, pv, .int .i64 pL, .int .i64 pE, .int .i64 0, .int .i64 0, .int .i64 ((room : Nat) : Int)] (fun x => .tuple #[x, .bool true]) (by kernel_rfl) (by kernel_rfl) (by kernel_rfl)) ?_
            replace H := H.pick [0, 1, 6, 7, 8, 9] [.blk p #[.int .i64 rL, .int .i64 rE, .int .i64 pL, .int .i64 pE, .int .i64 ((room : Nat) : Int), .int .i64 hv, .slice (some ⟨gr, 0, none⟩) ranks ranks, .pointer (some ⟨t, 0, none⟩)] 187, .row (.slice (some ⟨gr, 0, none⟩) ranks ranks) 86 2 ranks (List.flatMap bukL (rset ranks rs o.2.1)), .blk t #[sv, .int .i64 ((room : Nat) : Int), .func (.func 103) #[] #[]] 228, .row (sv) 230 3 (List.length xs) (List.flatMap pairLB xs), .row (rv) 119 4 (List.length rs) (List.flatMap (dbL rL rE) rs), .row (pv) 206 5 (List.length xs) (List.flatMap (dpL pL pE) xs)] (by decide) (by kernel_rfl)
            have e1 : stR ranks rE rs o = rset ranks rs o.2.1 := by unfold stR; rw [if_neg (show ¬ o.1 = 1 by omega), if_neg (show ¬ o.1 = 2 by omega), if_pos (show o.1 = 3 by omega)]
            have e2 : stX ranks room pE xs o = xs := by unfold stX; rw [if_neg (show ¬ o.1 = 1 by omega), if_neg (show ¬ o.1 = 2 by omega), if_neg (show ¬ o.1 = 4 by omega)]
            have f1 : rset ranks rs o.2.1 = rs := by unfold rset; rw [if_neg (by omega)]
            rw [f1] at H
            rw [f1] at e1
            rw [e1, e2]
            exact ⟨(sv, rv, pv), rfl, H⟩
          · skip
            have h37p := of_decide_eq_true h37
            refine x_t (by kernel_rfl) ?_
            refine x_region_s 8 (fun w' => Hs M w0 w' [.blk p #[.int .i64 rL, .int .i64 rE, .int .i64 pL, .int .i64 pE, .int .i64 ((room : Nat) : Int), .int .i64 hv, .slice (some ⟨gr, 0, none⟩) ranks ranks, .pointer (some ⟨t, 0, none⟩)] 187, .row (.slice (some ⟨gr, 0, none⟩) ranks ranks) 86 2 ranks (List.flatMap bukL (rset ranks rs o.2.1)), .blk g4 #[.slice none 0 0, .slice none 0 0, .int .i64 0, .int .i64 0, .int .i64 0, .int .i64 0, .int .i64 0] 124, .blk g3 #[.int .i64 o.1, .int .i64 o.2.1, .int .i64 o.2.2.1, .int .i64 o.2.2.2] 88, .blk g2 #[.int .i64 rL, .int .i64 rE] 78, .blk t #[sv, .int .i64 ((room : Nat) : Int), .func (.func 103) #[] #[]] 228, .row (sv) 230 3 (List.length xs) (List.flatMap pairLB xs), .row (rv) 119 4 (List.length rs) (List.flatMap (dbL rL rE) rs), .row (pv) 206 5 (List.length xs) (List.flatMap (dpL pL pE) xs)]) (fun w' => Hs M w0 w' [.blk p #[.int .i64 rL, .int .i64 rE, .int .i64 pL, .int .i64 pE, .int .i64 ((room : Nat) : Int), .int .i64 hv, .slice (some ⟨gr, 0, none⟩) ranks ranks, .pointer (some ⟨t, 0, none⟩)] 187, .row (.slice (some ⟨gr, 0, none⟩) ranks ranks) 86 2 ranks (List.flatMap bukL (rset ranks rs o.2.1)), .blk g4 #[.slice none 0 0, .slice none 0 0, .int .i64 0, .int .i64 0, .int .i64 0, .int .i64 0, .int .i64 0] 124, .blk g3 #[.int .i64 o.1, .int .i64 o.2.1, .int .i64 o.2.2.1, .int .i64 o.2.2.2] 88, .blk g2 #[.int .i64 rL, .int .i64 rE] 78, .blk g1 #[rv, pv, .int .i64 pL, .int .i64 pE, .int .i64 0, .int .i64 0, .int .i64 ((room : Nat) : Int)] 124, .blk t #[sv, .int .i64 ((room : Nat) : Int), .func (.func 103) #[] #[]] 228, .row (sv) 230 3 (List.length xs) (List.flatMap pairLB xs), .row (rv) 119 4 (List.length rs) (List.flatMap (dbL rL rE) rs), .row (pv) 206 5 (List.length xs) (List.flatMap (dpL pL pE) xs)]) (by kernel_rfl) (by kernel_rfl) (by kernel_rfl) hsShut (fun _ h => h.pick [0, 1, 2, 3, 4, 6, 7, 8, 9] _ (by decide) (by kernel_rfl)) H.drew ?_
            refine s_quiet 1 rfl (by kernel_rfl) (y_val (.pointer (some ⟨g3, 1, none⟩)) (by kernel_rfl) (fun _ => by kernel_rfl)) ?_
            refine s_quiet 2 rfl (by kernel_rfl) (y_load1 3 g3 1 #[.int .i64 o.1, .int .i64 o.2.1, .int .i64 o.2.2.1, .int .i64 o.2.2.2] 88 (.int .i64 o.2.1) (by kernel_rfl) (by kernel_rfl) (by kernel_rfl) (fun _ => by kernel_rfl)) ?_
            refine s_quiet 3 rfl (by kernel_rfl) (y_loadn (t := 78) 4 g2 0 #[.int .i64 rL, .int .i64 rE] 78 [.int .i64 rL, .int .i64 rE] (by kernel_rfl) (by kernel_rfl) (by kernel_rfl) (by kernel_rfl) (by kernel_rfl)) ?_
            refine s_quiet 4 rfl (by kernel_rfl) (y_val (.agg #[.int .i64 0, .int .i64 0]) (by kernel_rfl) (fun _ => by kernel_rfl)) ?_
            refine s_quiet 5 rfl (by kernel_rfl) (y_callB (.agg #[.int .i64 rL, .int .i64 rE, .int .i64 0, .int .i64 0]) (by kernel_rfl) (fun _ => by kernel_rfl) (fun _ => (ofB rL rE 0 0 _))) ?_
            refine s_one 0 rfl (by kernel_rfl) rfl ?_
            clear H
            intro v54 H
            refine x_loadn (t := 124) H 5 g1 0 _ _ [rv, pv, .int .i64 pL, .int .i64 pE, .int .i64 0, .int .i64 0, .int .i64 ((room : Nat) : Int)] rfl (by kernel_rfl) (by kernel_rfl) rfl (by kernel_rfl) (by kernel_rfl) ?_
            refine x_nil ?_
            refine x_then ?_
            refine ⟨fun w' => Hs M w0 w' [.blk p #[.int .i64 rL, .int .i64 rE, .int .i64 pL, .int .i64 pE, .int .i64 ((room : Nat) : Int), .int .i64 hv, .slice (some ⟨gr, 0, none⟩) ranks ranks, .pointer (some ⟨t, 0, none⟩)] 187, .row (.slice (some ⟨gr, 0, none⟩) ranks ranks) 86 2 ranks (List.flatMap bukL (rset ranks rs o.2.1)), .blk g4 #[.slice none 0 0, .slice none 0 0, .int .i64 0, .int .i64 0, .int .i64 0, .int .i64 0, .int .i64 0] 124, .blk g3 #[.int .i64 o.1, .int .i64 o.2.1, .int .i64 o.2.2.1, .int .i64 o.2.2.2] 88, .blk g2 #[.int .i64 rL, .int .i64 rE] 78, .blk t #[sv, .int .i64 ((room : Nat) : Int), .func (.func 103) #[] #[]] 228, .row (sv) 230 3 (List.length xs) (List.flatMap pairLB xs), .row (rv) 119 4 (List.length rs) (List.flatMap (dbL rL rE) rs), .row (pv) 206 5 (List.length xs) (List.flatMap (dpL pL pE) xs)], fun w' => Hs M w0 w' [.blk p #[.int .i64 rL, .int .i64 rE, .int .i64 pL, .int .i64 pE, .int .i64 ((room : Nat) : Int), .int .i64 hv, .slice (some ⟨gr, 0, none⟩) ranks ranks, .pointer (some ⟨t, 0, none⟩)] 187, .row (.slice (some ⟨gr, 0, none⟩) ranks ranks) 86 2 ranks (List.flatMap bukL (rset ranks rs o.2.1)), .blk g4 #[.slice none 0 0, .slice none 0 0, .int .i64 0, .int .i64 0, .int .i64 0, .int .i64 0, .int .i64 0] 124, .blk g3 #[.int .i64 o.1, .int .i64 o.2.1, .int .i64 o.2.2.1, .int .i64 o.2.2.2] 88, .blk g2 #[.int .i64 rL, .int .i64 rE] 78, .blk g1 #[rv, pv, .int .i64 pL, .int .i64 pE, .int .i64 0, .int .i64 0, .int .i64 ((room : Nat) : Int)] 124, .blk t #[sv, .int .i64 ((room : Nat) : Int), .func (.func 103) #[] #[]] 228, .row (sv) 230 3 (List.length xs) (List.flatMap pairLB xs), .row (rv) 119 4 (List.length rs) (List.flatMap (dbL rL rE) rs), .row (pv) 206 5 (List.length xs) (List.flatMap (dpL pL pE) xs)], H, hsShut, fun _ h => h.pick [0, 1, 2, 3, 4, 6, 7, 8, 9] _ (by decide) (by kernel_rfl), fun _ h => h.pick [0, 1, 2, 3, 4, 5, 6, 7, 8] _ (by decide) (by kernel_rfl), ?_⟩
            refine s_one 6 rfl (by kernel_rfl) rfl ?_
            clear H
            intro v55 H
            refine x_call (by kernel_rfl) rfl (by kernel_rfl) (DResetI o.2.1 hk hP (by omega) _ (Ro.two (H.roOf [8] [.row (rv) 119 4 (List.length rs) (List.flatMap (dbL rL rE) rs)] (by kernel_rfl)) (H.roOf [9] [.row (pv) 206 5 (List.length xs) (List.flatMap (dpL pL pE) xs)] (by kernel_rfl)))) ?_
            rintro _ v56 ⟨u1, rfl, hN'⟩
            refine ⟨_, rfl, ?_⟩
            replace H := H.more hN'
            clear hN'
            replace H : Hs M w0 _ [.row (u1) 119 4 (List.length (rset ranks rs o.2.1)) (List.flatMap (dbL rL rE) (rset ranks rs o.2.1)), .blk p #[.int .i64 rL, .int .i64 rE, .int .i64 pL, .int .i64 pE, .int .i64 ((room : Nat) : Int), .int .i64 hv, .slice (some ⟨gr, 0, none⟩) ranks ranks, .pointer (some ⟨t, 0, none⟩)] 187, .row (.slice (some ⟨gr, 0, none⟩) ranks ranks) 86 2 ranks (List.flatMap bukL (rset ranks rs o.2.1)), .blk g4 #[.slice none 0 0, .slice none 0 0, .int .i64 0, .int .i64 0, .int .i64 0, .int .i64 0, .int .i64 0] 124, .blk g3 #[.int .i64 o.1, .int .i64 o.2.1, .int .i64 o.2.2.1, .int .i64 o.2.2.2] 88, .blk g2 #[.int .i64 rL, .int .i64 rE] 78, .blk g1 #[rv, pv, .int .i64 pL, .int .i64 pE, .int .i64 0, .int .i64 0, .int .i64 ((room : Nat) : Int)] 124, .blk t #[sv, .int .i64 ((room : Nat) : Int), .func (.func 103) #[] #[]] 228, .row (sv) 230 3 (List.length xs) (List.flatMap pairLB xs), .row (rv) 119 4 (List.length rs) (List.flatMap (dbL rL rE) rs), .row (pv) 206 5 (List.length xs) (List.flatMap (dpL pL pE) xs)] := H
            refine x_nil ?_
            refine x_then ?_
            refine ⟨fun w' => Hs M w0 w' [.row (u1) 119 4 (List.length (rset ranks rs o.2.1)) (List.flatMap (dbL rL rE) (rset ranks rs o.2.1)), .blk p #[.int .i64 rL, .int .i64 rE, .int .i64 pL, .int .i64 pE, .int .i64 ((room : Nat) : Int), .int .i64 hv, .slice (some ⟨gr, 0, none⟩) ranks ranks, .pointer (some ⟨t, 0, none⟩)] 187, .row (.slice (some ⟨gr, 0, none⟩) ranks ranks) 86 2 ranks (List.flatMap bukL (rset ranks rs o.2.1)), .blk g4 #[.slice none 0 0, .slice none 0 0, .int .i64 0, .int .i64 0, .int .i64 0, .int .i64 0, .int .i64 0] 124, .blk g3 #[.int .i64 o.1, .int .i64 o.2.1, .int .i64 o.2.2.1, .int .i64 o.2.2.2] 88, .blk g2 #[.int .i64 rL, .int .i64 rE] 78, .blk t #[sv, .int .i64 ((room : Nat) : Int), .func (.func 103) #[] #[]] 228, .row (sv) 230 3 (List.length xs) (List.flatMap pairLB xs), .row (rv) 119 4 (List.length rs) (List.flatMap (dbL rL rE) rs), .row (pv) 206 5 (List.length xs) (List.flatMap (dpL pL pE) xs)], fun w' => Hs M w0 w' [.row (u1) 119 4 (List.length (rset ranks rs o.2.1)) (List.flatMap (dbL rL rE) (rset ranks rs o.2.1)), .blk p #[.int .i64 rL, .int .i64 rE, .int .i64 pL, .int .i64 pE, .int .i64 ((room : Nat) : Int), .int .i64 hv, .slice (some ⟨gr, 0, none⟩) ranks ranks, .pointer (some ⟨t, 0, none⟩)] 187, .row (.slice (some ⟨gr, 0, none⟩) ranks ranks) 86 2 ranks (List.flatMap bukL (rset ranks rs o.2.1)), .blk g4 #[.slice none 0 0, .slice none 0 0, .int .i64 0, .int .i64 0, .int .i64 0, .int .i64 0, .int .i64 0] 124, .blk g3 #[.int .i64 o.1, .int .i64 o.2.1, .int .i64 o.2.2.1, .int .i64 o.2.2.2] 88, .blk g2 #[.int .i64 rL, .int .i64 rE] 78, .blk g1 #[rv, pv, .int .i64 pL, .int .i64 pE, .int .i64 0, .int .i64 0, .int .i64 ((room : Nat) : Int)] 124, .blk t #[sv, .int .i64 ((room : Nat) : Int), .func (.func 103) #[] #[]] 228, .row (sv) 230 3 (List.length xs) (List.flatMap pairLB xs), .row (rv) 119 4 (List.length rs) (List.flatMap (dbL rL rE) rs), .row (pv) 206 5 (List.length xs) (List.flatMap (dpL pL pE) xs)], H, hsShut, fun _ h => h.pick [0, 1, 2, 3, 4, 5, 7, 8, 9, 10] _ (by decide) (by kernel_rfl), fun _ h => h.pick [1, 2, 3, 4, 5, 6, 7, 8, 9] _ (by decide) (by kernel_rfl), ?_⟩
            refine s_one 7 rfl (by kernel_rfl) rfl ?_
            clear H
            intro v57 H
            have h40o := H.rowOne 0 rfl
            have h41o := H.rowOne 10 rfl
            refine x_store (t := 124) (v := .agg #[u1, pv, .int .i64 pL, .int .i64 pE, .int .i64 0, .int .i64 0, .int .i64 ((room : Nat) : Int)]) H 6 g1 0 _ #[u1, pv, .int .i64 pL, .int .i64 pE, .int .i64 0, .int .i64 0, .int .i64 ((room : Nat) : Int)] 124 [u1, pv, .int .i64 pL, .int .i64 pE, .int .i64 0, .int .i64 0, .int .i64 ((room : Nat) : Int)] [.row (u1) 119 4 (List.length (rset ranks rs o.2.1)) (List.flatMap (dbL rL rE) (rset ranks rs o.2.1)), .blk p #[.int .i64 rL, .int .i64 rE, .int .i64 pL, .int .i64 pE, .int .i64 ((room : Nat) : Int), .int .i64 hv, .slice (some ⟨gr, 0, none⟩) ranks ranks, .pointer (some ⟨t, 0, none⟩)] 187, .row (.slice (some ⟨gr, 0, none⟩) ranks ranks) 86 2 ranks (List.flatMap bukL (rset ranks rs o.2.1)), .blk g4 #[.slice none 0 0, .slice none 0 0, .int .i64 0, .int .i64 0, .int .i64 0, .int .i64 0, .int .i64 0] 124, .blk g3 #[.int .i64 o.1, .int .i64 o.2.1, .int .i64 o.2.2.1, .int .i64 o.2.2.2] 88, .blk g2 #[.int .i64 rL, .int .i64 rE] 78, .blk g1 #[u1, pv, .int .i64 pL, .int .i64 pE, .int .i64 0, .int .i64 0, .int .i64 ((room : Nat) : Int)] 124, .blk t #[sv, .int .i64 ((room : Nat) : Int), .func (.func 103) #[] #[]] 228, .row (sv) 230 3 (List.length xs) (List.flatMap pairLB xs), .row (rv) 119 4 (List.length rs) (List.flatMap (dbL rL rE) rs), .row (pv) 206 5 (List.length xs) (List.flatMap (dpL pL pE) xs)] rfl rfl (by kernel_rfl) (by simp only [List.all_cons, List.all_nil, h40o, h41o, Bool.and_true, Bool.true_and] <;> rfl) (by kernel_rfl) (by kernel_rfl) (by kernel_rfl) (by kernel_rfl) (by kernel_rfl) (by kernel_rfl) ?_
            clear H
            intro v58 H
            refine x_nil ?_
            refine x_then ?_
            refine ⟨fun w' => Hs M w0 w' [.row (u1) 119 4 (List.length (rset ranks rs o.2.1)) (List.flatMap (dbL rL rE) (rset ranks rs o.2.1)), .blk p #[.int .i64 rL, .int .i64 rE, .int .i64 pL, .int .i64 pE, .int .i64 ((room : Nat) : Int), .int .i64 hv, .slice (some ⟨gr, 0, none⟩) ranks ranks, .pointer (some ⟨t, 0, none⟩)] 187, .row (.slice (some ⟨gr, 0, none⟩) ranks ranks) 86 2 ranks (List.flatMap bukL (rset ranks rs o.2.1)), .blk g4 #[.slice none 0 0, .slice none 0 0, .int .i64 0, .int .i64 0, .int .i64 0, .int .i64 0, .int .i64 0] 124, .blk g3 #[.int .i64 o.1, .int .i64 o.2.1, .int .i64 o.2.2.1, .int .i64 o.2.2.2] 88, .blk g2 #[.int .i64 rL, .int .i64 rE] 78, .blk g1 #[u1, pv, .int .i64 pL, .int .i64 pE, .int .i64 0, .int .i64 0, .int .i64 ((room : Nat) : Int)] 124, .blk t #[sv, .int .i64 ((room : Nat) : Int), .func (.func 103) #[] #[]] 228, .row (sv) 230 3 (List.length xs) (List.flatMap pairLB xs), .row (rv) 119 4 (List.length rs) (List.flatMap (dbL rL rE) rs), .row (pv) 206 5 (List.length xs) (List.flatMap (dpL pL pE) xs)], fun w' => Hs M w0 w' [.row (u1) 119 4 (List.length (rset ranks rs o.2.1)) (List.flatMap (dbL rL rE) (rset ranks rs o.2.1)), .blk p #[.int .i64 rL, .int .i64 rE, .int .i64 pL, .int .i64 pE, .int .i64 ((room : Nat) : Int), .int .i64 hv, .slice (some ⟨gr, 0, none⟩) ranks ranks, .pointer (some ⟨t, 0, none⟩)] 187, .row (.slice (some ⟨gr, 0, none⟩) ranks ranks) 86 2 ranks (List.flatMap bukL (rset ranks rs o.2.1)), .blk g4 #[.slice none 0 0, .slice none 0 0, .int .i64 0, .int .i64 0, .int .i64 0, .int .i64 0, .int .i64 0] 124, .blk g3 #[.int .i64 o.1, .int .i64 o.2.1, .int .i64 o.2.2.1, .int .i64 o.2.2.2] 88, .blk g2 #[.int .i64 rL, .int .i64 rE] 78, .blk g1 #[u1, pv, .int .i64 pL, .int .i64 pE, .int .i64 0, .int .i64 0, .int .i64 ((room : Nat) : Int)] 124, .blk t #[sv, .int .i64 ((room : Nat) : Int), .func (.func 103) #[] #[]] 228, .row (sv) 230 3 (List.length xs) (List.flatMap pairLB xs), .row (rv) 119 4 (List.length rs) (List.flatMap (dbL rL rE) rs), .row (pv) 206 5 (List.length xs) (List.flatMap (dpL pL pE) xs)], H, hsShut, fun _ h => h.pick [0, 1, 2, 3, 4, 5, 6, 7, 8, 9, 10] _ (by decide) (by kernel_rfl), fun _ h => h.pick [0, 1, 2, 3, 4, 5, 7, 8, 9, 10] _ (by decide) (by kernel_rfl), ?_⟩
            refine s_done (by kernel_rfl) ?_
            clear H
            intro v59 H
            refine x_blk ?_
            refine x_then ?_
            refine x_seq ?_
            refine x_region ?_
            refine x_loadn (t := 124) H 6 g1 0 _ _ [u1, pv, .int .i64 pL, .int .i64 pE, .int .i64 0, .int .i64 0, .int .i64 ((room : Nat) : Int)] rfl (by kernel_rfl) (by kernel_rfl) rfl (by kernel_rfl) (by kernel_rfl) ?_
            have h42o := H.rowOne 0 rfl
            have h43o := H.rowOne 10 rfl
            refine x_store (t := 124) (v := .agg #[u1, pv, .int .i64 pL, .int .i64 pE, .int .i64 0, .int .i64 0, .int .i64 ((room : Nat) : Int)]) H 3 g4 0 _ #[u1, pv, .int .i64 pL, .int .i64 pE, .int .i64 0, .int .i64 0, .int .i64 ((room : Nat) : Int)] 124 [u1, pv, .int .i64 pL, .int .i64 pE, .int .i64 0, .int .i64 0, .int .i64 ((room : Nat) : Int)] _ rfl rfl (by kernel_rfl) (by simp only [List.all_cons, List.all_nil, h42o, h43o, Bool.and_true, Bool.true_and] <;> rfl) (by kernel_rfl) rfl (by kernel_rfl) (by kernel_rfl) (by kernel_rfl) (by kernel_rfl) ?_
            clear H
            intro v60 H
            refine x_val (.bool true) (by kernel_rfl) rfl (by kernel_rfl) ?_
            refine x_nil ?_
            refine x_then ?_
            refine x_retc ?_
            refine x_ret (.tuple #[.agg #[u1, pv, .int .i64 pL, .int .i64 pE, .int .i64 0, .int .i64 0, .int .i64 ((room : Nat) : Int)], .bool true]) (by kernel_rfl) (x_rescell H 3 g4 0 #[u1, pv, .int .i64 pL, .int .i64 pE, .int .i64 0, .int .i64 0, .int .i64 ((room : Nat) : Int)] 124 [u1, pv, .int .i64 pL, .int .i64 pE, .int .i64 0, .int .i64 0, .int .i64 ((room : Nat) : Int)] (fun x => .tuple #[x, .bool true]) (by kernel_rfl) (by kernel_rfl) (by kernel_rfl)) ?_
            replace H := H.pick [1, 2, 7, 8, 0, 10] [.blk p #[.int .i64 rL, .int .i64 rE, .int .i64 pL, .int .i64 pE, .int .i64 ((room : Nat) : Int), .int .i64 hv, .slice (some ⟨gr, 0, none⟩) ranks ranks, .pointer (some ⟨t, 0, none⟩)] 187, .row (.slice (some ⟨gr, 0, none⟩) ranks ranks) 86 2 ranks (List.flatMap bukL (rset ranks rs o.2.1)), .blk t #[sv, .int .i64 ((room : Nat) : Int), .func (.func 103) #[] #[]] 228, .row (sv) 230 3 (List.length xs) (List.flatMap pairLB xs), .row (u1) 119 4 (List.length (rset ranks rs o.2.1)) (List.flatMap (dbL rL rE) (rset ranks rs o.2.1)), .row (pv) 206 5 (List.length xs) (List.flatMap (dpL pL pE) xs)] (by decide) (by kernel_rfl)
            have e1 : stR ranks rE rs o = rset ranks rs o.2.1 := by unfold stR; rw [if_neg (show ¬ o.1 = 1 by omega), if_neg (show ¬ o.1 = 2 by omega), if_pos (show o.1 = 3 by omega)]
            have e2 : stX ranks room pE xs o = xs := by unfold stX; rw [if_neg (show ¬ o.1 = 1 by omega), if_neg (show ¬ o.1 = 2 by omega), if_neg (show ¬ o.1 = 4 by omega)]
            rw [e1, e2]
            exact ⟨(sv, u1, pv), rfl, H⟩
      · skip
        have h24p := of_decide_eq_true h24
        refine x_t (by kernel_rfl) ?_
        refine x_seq ?_
        refine x_region ?_
        refine x_val (.pointer (some ⟨p, 0, none⟩)) (by kernel_rfl) rfl (by kernel_rfl) ?_
        refine x_call (by kernel_rfl) rfl (by kernel_rfl) (Hs.useE (A := [.blk p #[.int .i64 rL, .int .i64 rE, .int .i64 pL, .int .i64 pE, .int .i64 ((room : Nat) : Int), .int .i64 hv, .slice (some ⟨gr, 0, none⟩) ranks ranks, .pointer (some ⟨t, 0, none⟩)] 187, .row (.slice (some ⟨gr, 0, none⟩) ranks ranks) 86 2 ranks (List.flatMap bukL rs), .blk t #[sv, .int .i64 ((room : Nat) : Int), .func (.func 103) #[] #[]] 228, .row (sv) 230 3 (List.length xs) (List.flatMap pairLB xs)]) (R := [.blk g4 #[.slice none 0 0, .slice none 0 0, .int .i64 0, .int .i64 0, .int .i64 0, .int .i64 0, .int .i64 0] 124, .blk g3 #[.int .i64 o.1, .int .i64 o.2.1, .int .i64 o.2.2.1, .int .i64 o.2.2.2] 88, .blk g2 #[.int .i64 rL, .int .i64 rE] 78, .blk g1 #[rv, pv, .int .i64 pL, .int .i64 pE, .int .i64 0, .int .i64 0, .int .i64 ((room : Nat) : Int)] 124, .row (rv) 119 4 (List.length rs) (List.flatMap (dbL rL rE) rs), .row (pv) 206 5 (List.length xs) (List.flatMap (dpL pL pE) xs)]) (fun svn => [.blk p #[.int .i64 rL, .int .i64 rE, .int .i64 pL, .int .i64 pE, .int .i64 ((room : Nat) : Int), .int .i64 hv, .slice (some ⟨gr, 0, none⟩) ranks ranks, .pointer (some ⟨t, 0, none⟩)] 187, .row (.slice (some ⟨gr, 0, none⟩) ranks ranks) 86 2 ranks (List.flatMap bukL (List.map (btick rE) rs)), .blk t #[svn, .int .i64 ((room : Nat) : Int), .func (.func 103) #[] #[]] 228, .row (svn) 230 3 (List.length (List.map (tickX pE) xs)) (List.flatMap pairLB (List.map (tickX pE) xs))]) (fun _ => .tuple #[]) (H.pick [4, 5, 6, 7, 0, 1, 2, 3, 8, 9] _ (by decide) (by kernel_rfl)) (fun h => Tick_any hk hP _ h)) ?_
        rintro _ v61 ⟨svn, rfl, H'⟩
        refine ⟨_, rfl, ?_⟩
        clear H
        have H : Hs M w0 _ [.blk p #[.int .i64 rL, .int .i64 rE, .int .i64 pL, .int .i64 pE, .int .i64 ((room : Nat) : Int), .int .i64 hv, .slice (some ⟨gr, 0, none⟩) ranks ranks, .pointer (some ⟨t, 0, none⟩)] 187, .row (.slice (some ⟨gr, 0, none⟩) ranks ranks) 86 2 ranks (List.flatMap bukL (List.map (btick rE) rs)), .blk t #[svn, .int .i64 ((room : Nat) : Int), .func (.func 103) #[] #[]] 228, .row (svn) 230 3 (List.length (List.map (tickX pE) xs)) (List.flatMap pairLB (List.map (tickX pE) xs)), .blk g4 #[.slice none 0 0, .slice none 0 0, .int .i64 0, .int .i64 0, .int .i64 0, .int .i64 0, .int .i64 0] 124, .blk g3 #[.int .i64 o.1, .int .i64 o.2.1, .int .i64 o.2.2.1, .int .i64 o.2.2.2] 88, .blk g2 #[.int .i64 rL, .int .i64 rE] 78, .blk g1 #[rv, pv, .int .i64 pL, .int .i64 pE, .int .i64 0, .int .i64 0, .int .i64 ((room : Nat) : Int)] 124, .row (rv) 119 4 (List.length rs) (List.flatMap (dbL rL rE) rs), .row (pv) 206 5 (List.length xs) (List.flatMap (dpL pL pE) xs)] := H'
        clear H'
        refine x_nil ?_
        refine x_then ?_
        refine x_seq ?_
        refine x_region ?_
        refine x_loadn (t := 124) H 7 g1 0 _ _ [rv, pv, .int .i64 pL, .int .i64 pE, .int .i64 0, .int .i64 0, .int .i64 ((room : Nat) : Int)] rfl (by kernel_rfl) (by kernel_rfl) rfl (by kernel_rfl) (by kernel_rfl) ?_
        refine x_call (by kernel_rfl) rfl (by kernel_rfl) (DTk (room := room) ⟨hP.r.2.2.1, hP.r.2.2.2⟩ ⟨hP.p.2.2.1, hP.p.2.2.2⟩ hk.b hk.c (by omega) (by omega) (by omega) _ (Ro.two (H.roOf [8] [.row (rv) 119 4 (List.length rs) (List.flatMap (dbL rL rE) rs)] (by kernel_rfl)) (H.roOf [9] [.row (pv) 206 5 (List.length xs) (List.flatMap (dpL pL pE) xs)] (by kernel_rfl)))) ?_
        rintro _ v62 ⟨u1, u2, rfl, hN'⟩
        refine ⟨_, rfl, ?_⟩
        replace H := H.more hN'
        clear hN'
        replace H : Hs M w0 _ [.row (u1) 119 4 (List.length (List.map (btick rE) rs)) (List.flatMap (dbL rL rE) (List.map (btick rE) rs)), .row (u2) 206 5 (List.length (List.map (tickX pE) xs)) (List.flatMap (dpL pL pE) (List.map (tickX pE) xs)), .blk p #[.int .i64 rL, .int .i64 rE, .int .i64 pL, .int .i64 pE, .int .i64 ((room : Nat) : Int), .int .i64 hv, .slice (some ⟨gr, 0, none⟩) ranks ranks, .pointer (some ⟨t, 0, none⟩)] 187, .row (.slice (some ⟨gr, 0, none⟩) ranks ranks) 86 2 ranks (List.flatMap bukL (List.map (btick rE) rs)), .blk t #[svn, .int .i64 ((room : Nat) : Int), .func (.func 103) #[] #[]] 228, .row (svn) 230 3 (List.length (List.map (tickX pE) xs)) (List.flatMap pairLB (List.map (tickX pE) xs)), .blk g4 #[.slice none 0 0, .slice none 0 0, .int .i64 0, .int .i64 0, .int .i64 0, .int .i64 0, .int .i64 0] 124, .blk g3 #[.int .i64 o.1, .int .i64 o.2.1, .int .i64 o.2.2.1, .int .i64 o.2.2.2] 88, .blk g2 #[.int .i64 rL, .int .i64 rE] 78, .blk g1 #[rv, pv, .int .i64 pL, .int .i64 pE, .int .i64 0, .int .i64 0, .int .i64 ((room : Nat) : Int)] 124, .row (rv) 119 4 (List.length rs) (List.flatMap (dbL rL rE) rs), .row (pv) 206 5 (List.length xs) (List.flatMap (dpL pL pE) xs)] := H
        have h44o := H.rowOne 0 rfl
        have h45o := H.rowOne 1 rfl
        refine x_store (t := 124) (v := .agg #[u1, u2, .int .i64 pL, .int .i64 pE, .int .i64 0, .int .i64 0, .int .i64 ((room : Nat) : Int)]) H 6 g4 0 _ #[u1, u2, .int .i64 pL, .int .i64 pE, .int .i64 0, .int .i64 0, .int .i64 ((room : Nat) : Int)] 124 [u1, u2, .int .i64 pL, .int .i64 pE, .int .i64 0, .int .i64 0, .int .i64 ((room : Nat) : Int)] _ rfl rfl (by kernel_rfl) (by simp only [List.all_cons, List.all_nil, h44o, h45o, Bool.and_true, Bool.true_and] <;> rfl) (by kernel_rfl) rfl (by kernel_rfl) (by kernel_rfl) (by kernel_rfl) (by kernel_rfl) ?_
        clear H
        intro v63 H
        refine x_val (.bool true) (by kernel_rfl) rfl (by kernel_rfl) ?_
        refine x_nil ?_
        refine x_then ?_
        refine x_retc ?_
        refine x_blk_ret ?_
        refine x_then_ret ?_
        refine x_ret (.tuple #[.agg #[u1, u2, .int .i64 pL, .int .i64 pE, .int .i64 0, .int .i64 0, .int .i64 ((room : Nat) : Int)], .bool true]) (by kernel_rfl) (x_rescell H 6 g4 0 #[u1, u2, .int .i64 pL, .int .i64 pE, .int .i64 0, .int .i64 0, .int .i64 ((room : Nat) : Int)] 124 [u1, u2, .int .i64 pL, .int .i64 pE, .int .i64 0, .int .i64 0, .int .i64 ((room : Nat) : Int)] (fun x => .tuple #[x, .bool true]) (by kernel_rfl) (by kernel_rfl) (by kernel_rfl)) ?_
        replace H := H.pick [2, 3, 4, 5, 0, 1] [.blk p #[.int .i64 rL, .int .i64 rE, .int .i64 pL, .int .i64 pE, .int .i64 ((room : Nat) : Int), .int .i64 hv, .slice (some ⟨gr, 0, none⟩) ranks ranks, .pointer (some ⟨t, 0, none⟩)] 187, .row (.slice (some ⟨gr, 0, none⟩) ranks ranks) 86 2 ranks (List.flatMap bukL (List.map (btick rE) rs)), .blk t #[svn, .int .i64 ((room : Nat) : Int), .func (.func 103) #[] #[]] 228, .row (svn) 230 3 (List.length (List.map (tickX pE) xs)) (List.flatMap pairLB (List.map (tickX pE) xs)), .row (u1) 119 4 (List.length (List.map (btick rE) rs)) (List.flatMap (dbL rL rE) (List.map (btick rE) rs)), .row (u2) 206 5 (List.length (List.map (tickX pE) xs)) (List.flatMap (dpL pL pE) (List.map (tickX pE) xs))] (by decide) (by kernel_rfl)
        have e1 : stR ranks rE rs o = List.map (btick rE) rs := by unfold stR; rw [if_neg (show ¬ o.1 = 1 by omega), if_pos (show o.1 = 2 by omega)]
        have e2 : stX ranks room pE xs o = List.map (tickX pE) xs := by unfold stX; rw [if_neg (show ¬ o.1 = 1 by omega), if_pos (show o.1 = 2 by omega)]
        rw [e1, e2]
        exact ⟨(svn, u1, u2), rfl, H⟩
    · skip
      have h23p := of_decide_eq_true h23
      refine x_t (by kernel_rfl) ?_
      refine x_seq ?_
      refine x_region ?_
      refine x_val (.pointer (some ⟨p, 0, none⟩)) (by kernel_rfl) rfl (by kernel_rfl) ?_
      refine x_val (.pointer (some ⟨g3, 1, none⟩)) (by kernel_rfl) rfl (by kernel_rfl) ?_
      refine x_load1 H 1 g3 1 _ _ (.int .i64 o.2.1) rfl (by kernel_rfl) (by kernel_rfl) rfl (by kernel_rfl) ?_
      refine x_val (.pointer (some ⟨g3, 2, none⟩)) (by kernel_rfl) rfl (by kernel_rfl) ?_
      refine x_load1 H 1 g3 2 _ _ (.int .i64 o.2.2.1) rfl (by kernel_rfl) (by kernel_rfl) rfl (by kernel_rfl) ?_
      refine x_val (.pointer (some ⟨g3, 3, none⟩)) (by kernel_rfl) rfl (by kernel_rfl) ?_
      refine x_load1 H 1 g3 3 _ _ (.int .i64 o.2.2.2) rfl (by kernel_rfl) (by kernel_rfl) rfl (by kernel_rfl) ?_
      cases h46 : nOk ranks o.2.1 o.2.2.2
      · skip
        refine x_call (by kernel_rfl) rfl (by kernel_rfl) (Hs.useE (A := [.blk p #[.int .i64 rL, .int .i64 rE, .int .i64 pL, .int .i64 pE, .int .i64 ((room : Nat) : Int), .int .i64 hv, .slice (some ⟨gr, 0, none⟩) ranks ranks, .pointer (some ⟨t, 0, none⟩)] 187, .row (.slice (some ⟨gr, 0, none⟩) ranks ranks) 86 2 ranks (List.flatMap bukL rs), .blk t #[sv, .int .i64 ((room : Nat) : Int), .func (.func 103) #[] #[]] 228, .row (sv) 230 3 (List.length xs) (List.flatMap pairLB xs)]) (R := [.blk g4 #[.slice none 0 0, .slice none 0 0, .int .i64 0, .int .i64 0, .int .i64 0, .int .i64 0, .int .i64 0] 124, .blk g3 #[.int .i64 o.1, .int .i64 o.2.1, .int .i64 o.2.2.1, .int .i64 o.2.2.2] 88, .blk g2 #[.int .i64 rL, .int .i64 rE] 78, .blk g1 #[rv, pv, .int .i64 pL, .int .i64 pE, .int .i64 0, .int .i64 0, .int .i64 ((room : Nat) : Int)] 124, .row (rv) 119 4 (List.length rs) (List.flatMap (dbL rL rE) rs), .row (pv) 206 5 (List.length xs) (List.flatMap (dpL pL pE) xs)]) (fun svn => [.blk p #[.int .i64 rL, .int .i64 rE, .int .i64 pL, .int .i64 pE, .int .i64 ((room : Nat) : Int), .int .i64 hv, .slice (some ⟨gr, 0, none⟩) ranks ranks, .pointer (some ⟨t, 0, none⟩)] 187, .row (.slice (some ⟨gr, 0, none⟩) ranks ranks) 86 2 ranks (List.flatMap bukL (nRs ranks rs o.2.1 o.2.2.2)), .blk t #[svn, .int .i64 ((room : Nat) : Int), .func (.func 103) #[] #[]] 228, .row (svn) 230 3 (List.length (nXs ranks room xs o.2.1 o.2.2.1 o.2.2.2)) (List.flatMap pairLB (nXs ranks room xs o.2.1 o.2.2.1 o.2.2.2))]) (fun _ => .tuple #[.agg #[.bool false, .bool false], .int .i64 12]) (H.pick [4, 5, 6, 7, 0, 1, 2, 3, 8, 9] _ (by decide) (by kernel_rfl)) (fun h => (Note_any o.2.1 o.2.2.1 o.2.2.2 hk hP _ h).mono (fun e w' ⟨s', q1, q2⟩ => ⟨s', q1.trans (by unfold nE nC1 nC2; rw [if_neg (by rw [h46]; decide), h46]; rfl), q2⟩))) ?_
        rintro _ v64 ⟨svn, rfl, H'⟩
        refine ⟨_, rfl, ?_⟩
        clear H
        have H : Hs M w0 _ [.blk p #[.int .i64 rL, .int .i64 rE, .int .i64 pL, .int .i64 pE, .int .i64 ((room : Nat) : Int), .int .i64 hv, .slice (some ⟨gr, 0, none⟩) ranks ranks, .pointer (some ⟨t, 0, none⟩)] 187, .row (.slice (some ⟨gr, 0, none⟩) ranks ranks) 86 2 ranks (List.flatMap bukL (nRs ranks rs o.2.1 o.2.2.2)), .blk t #[svn, .int .i64 ((room : Nat) : Int), .func (.func 103) #[] #[]] 228, .row (svn) 230 3 (List.length (nXs ranks room xs o.2.1 o.2.2.1 o.2.2.2)) (List.flatMap pairLB (nXs ranks room xs o.2.1 o.2.2.1 o.2.2.2)), .blk g4 #[.slice none 0 0, .slice none 0 0, .int .i64 0, .int .i64 0, .int .i64 0, .int .i64 0, .int .i64 0] 124, .blk g3 #[.int .i64 o.1, .int .i64 o.2.1, .int .i64 o.2.2.1, .int .i64 o.2.2.2] 88, .blk g2 #[.int .i64 rL, .int .i64 rE] 78, .blk g1 #[rv, pv, .int .i64 pL, .int .i64 pE, .int .i64 0, .int .i64 0, .int .i64 ((room : Nat) : Int)] 124, .row (rv) 119 4 (List.length rs) (List.flatMap (dbL rL rE) rs), .row (pv) 206 5 (List.length xs) (List.flatMap (dpL pL pE) xs)] := H'
        clear H'
        refine x_val (.tuple #[.agg #[.bool false, .bool false], .int .i64 12]) (by kernel_rfl) rfl (by kernel_rfl) ?_
        refine x_val (.agg #[.bool false, .bool false]) (by kernel_rfl) rfl (by kernel_rfl) ?_
        refine x_val (.int .i64 12) (by kernel_rfl) rfl (by kernel_rfl) ?_
        refine x_box H #[.bool false, .bool false] 90 (by kernel_rfl) rfl (by kernel_rfl) ?_
        clear H
        intro v65 g6 H
        refine x_store (t := 90) (v := .agg #[.bool false, .bool false]) H 0 g6 0 _ #[.bool false, .bool false] 90 [.bool false, .bool false] _ rfl rfl (by kernel_rfl) (by kernel_rfl) (by kernel_rfl) rfl (by kernel_rfl) (by kernel_rfl) (by kernel_rfl) (by kernel_rfl) ?_
        clear H
        intro v66 H
        refine x_val (.int .i64 12) (by kernel_rfl) rfl (by kernel_rfl) ?_
        refine x_nil ?_
        refine x_then ?_
        refine x_seq ?_
        refine x_seq ?_
        refine x_region ?_
        refine x_val (.bool (decide (o.2.1 < ((ranks : Nat) : Int)))) (by kernel_rfl) rfl (by kernel_rfl) ?_
        refine x_val (.bool (!(decide (o.2.1 < ((ranks : Nat) : Int))))) (by kernel_rfl) rfl (by kernel_rfl) ?_
        refine x_val (.bool (!(decide (o.2.1 < ((ranks : Nat) : Int))))) (by kernel_rfl) rfl (by kernel_rfl) ?_
        cases h47 : decide (o.2.1 < ((ranks : Nat) : Int))
        · skip
          have h47p := of_decide_eq_false h47
          refine x_skip (by kernel_rfl) ?_
          refine x_skip (by kernel_rfl) ?_
          refine x_skip (by kernel_rfl) ?_
          refine x_val (.bool true) (by kernel_rfl) rfl (by kernel_rfl) ?_
          refine x_nil ?_
          refine x_then ?_
          refine x_t (by kernel_rfl) ?_
          refine x_seq ?_
          refine x_region_s 10 (fun w' => Hs M w0 w' [.blk g6 #[.bool false, .bool false] 90, .blk p #[.int .i64 rL, .int .i64 rE, .int .i64 pL, .int .i64 pE, .int .i64 ((room : Nat) : Int), .int .i64 hv, .slice (some ⟨gr, 0, none⟩) ranks ranks, .pointer (some ⟨t, 0, none⟩)] 187, .row (.slice (some ⟨gr, 0, none⟩) ranks ranks) 86 2 ranks (List.flatMap bukL (nRs ranks rs o.2.1 o.2.2.2)), .blk t #[svn, .int .i64 ((room : Nat) : Int), .func (.func 103) #[] #[]] 228, .row (svn) 230 3 (List.length (nXs ranks room xs o.2.1 o.2.2.1 o.2.2.2)) (List.flatMap pairLB (nXs ranks room xs o.2.1 o.2.2.1 o.2.2.2)), .blk g3 #[.int .i64 o.1, .int .i64 o.2.1, .int .i64 o.2.2.1, .int .i64 o.2.2.2] 88, .blk g2 #[.int .i64 rL, .int .i64 rE] 78, .blk g1 #[rv, pv, .int .i64 pL, .int .i64 pE, .int .i64 0, .int .i64 0, .int .i64 ((room : Nat) : Int)] 124, .row (rv) 119 4 (List.length rs) (List.flatMap (dbL rL rE) rs), .row (pv) 206 5 (List.length xs) (List.flatMap (dpL pL pE) xs)]) (fun w' => Hs M w0 w' [.blk g6 #[.bool false, .bool false] 90, .blk p #[.int .i64 rL, .int .i64 rE, .int .i64 pL, .int .i64 pE, .int .i64 ((room : Nat) : Int), .int .i64 hv, .slice (some ⟨gr, 0, none⟩) ranks ranks, .pointer (some ⟨t, 0, none⟩)] 187, .row (.slice (some ⟨gr, 0, none⟩) ranks ranks) 86 2 ranks (List.flatMap bukL (nRs ranks rs o.2.1 o.2.2.2)), .blk t #[svn, .int .i64 ((room : Nat) : Int), .func (.func 103) #[] #[]] 228, .row (svn) 230 3 (List.length (nXs ranks room xs o.2.1 o.2.2.1 o.2.2.2)) (List.flatMap pairLB (nXs ranks room xs o.2.1 o.2.2.1 o.2.2.2)), .blk g4 #[.slice none 0 0, .slice none 0 0, .int .i64 0, .int .i64 0, .int .i64 0, .int .i64 0, .int .i64 0] 124, .blk g3 #[.int .i64 o.1, .int .i64 o.2.1, .int .i64 o.2.2.1, .int .i64 o.2.2.2] 88, .blk g2 #[.int .i64 rL, .int .i64 rE] 78, .blk g1 #[rv, pv, .int .i64 pL, .int .i64 pE, .int .i64 0, .int .i64 0, .int .i64 ((room : Nat) : Int)] 124, .row (rv) 119 4 (List.length rs) (List.flatMap (dbL rL rE) rs), .row (pv) 206 5 (List.length xs) (List.flatMap (dpL pL pE) xs)]) (by kernel_rfl) (by kernel_rfl) (by kernel_rfl) hsShut (fun _ h => h.pick [0, 1, 2, 3, 4, 6, 7, 8, 9, 10] _ (by decide) (by kernel_rfl)) H.drew ?_
          refine s_quiet 0 rfl (by kernel_rfl) (y_loadn (t := 124) 7 g1 0 #[rv, pv, .int .i64 pL, .int .i64 pE, .int .i64 0, .int .i64 0, .int .i64 ((room : Nat) : Int)] 124 [rv, pv, .int .i64 pL, .int .i64 pE, .int .i64 0, .int .i64 0, .int .i64 ((room : Nat) : Int)] (by kernel_rfl) (by kernel_rfl) (by kernel_rfl) (by kernel_rfl) (by kernel_rfl)) ?_
          refine s_quiet 1 rfl (by kernel_rfl) (y_val (.int .i64 12) (by kernel_rfl) (fun _ => by kernel_rfl)) ?_
          refine s_quiet 2 rfl (by kernel_rfl) (y_val (.bool true) (by kernel_rfl) (fun _ => by kernel_rfl)) ?_
          refine s_quiet 3 rfl (by kernel_rfl) (y_val (.bool true) (by kernel_rfl) (fun _ => by kernel_rfl)) ?_
          refine s_quiet 4 rfl (by kernel_rfl) (y_loadn (t := 90) 0 g6 0 #[.bool false, .bool false] 90 [.bool false, .bool false] (by kernel_rfl) (by kernel_rfl) (by kernel_rfl) (by kernel_rfl) (by kernel_rfl)) ?_
          refine s_quiet 5 rfl (by kernel_rfl) (y_val (.agg #[.bool false, .bool false]) (by kernel_rfl) (fun _ => by kernel_rfl)) ?_
          refine s_quiet 6 rfl (by kernel_rfl) (y_val (.bool true) (by kernel_rfl) (fun _ => (run_eqS (t := 90) (x := .tmp 53) (y := .tmp 54) (xs := #[.bool false, .bool false]) (ys := #[.bool false, .bool false]) (B := true) (by kernel_rfl) (by kernel_rfl) (by kernel_rfl)))) ?_
          refine s_quiet 7 rfl (by kernel_rfl) (y_val (.bool true) (by kernel_rfl) (fun _ => by kernel_rfl)) ?_
          refine s_one 8 rfl (by kernel_rfl) rfl ?_
          clear H
          intro v67 H
          have h48o := H.rowOne 9 rfl
          have h49o := H.rowOne 10 rfl
          refine x_store (t := 124) (v := .agg #[rv, pv, .int .i64 pL, .int .i64 pE, .int .i64 0, .int .i64 0, .int .i64 ((room : Nat) : Int)]) H 5 g4 0 _ #[rv, pv, .int .i64 pL, .int .i64 pE, .int .i64 0, .int .i64 0, .int .i64 ((room : Nat) : Int)] 124 [rv, pv, .int .i64 pL, .int .i64 pE, .int .i64 0, .int .i64 0, .int .i64 ((room : Nat) : Int)] [.blk g6 #[.bool false, .bool false] 90, .blk p #[.int .i64 rL, .int .i64 rE, .int .i64 pL, .int .i64 pE, .int .i64 ((room : Nat) : Int), .int .i64 hv, .slice (some ⟨gr, 0, none⟩) ranks ranks, .pointer (some ⟨t, 0, none⟩)] 187, .row (.slice (some ⟨gr, 0, none⟩) ranks ranks) 86 2 ranks (List.flatMap bukL (nRs ranks rs o.2.1 o.2.2.2)), .blk t #[svn, .int .i64 ((room : Nat) : Int), .func (.func 103) #[] #[]] 228, .row (svn) 230 3 (List.length (nXs ranks room xs o.2.1 o.2.2.1 o.2.2.2)) (List.flatMap pairLB (nXs ranks room xs o.2.1 o.2.2.1 o.2.2.2)), .blk g4 #[rv, pv, .int .i64 pL, .int .i64 pE, .int .i64 0, .int .i64 0, .int .i64 ((room : Nat) : Int)] 124, .blk g3 #[.int .i64 o.1, .int .i64 o.2.1, .int .i64 o.2.2.1, .int .i64 o.2.2.2] 88, .blk g2 #[.int .i64 rL, .int .i64 rE] 78, .blk g1 #[rv, pv, .int .i64 pL, .int .i64 pE, .int .i64 0, .int .i64 0, .int .i64 ((room : Nat) : Int)] 124, .row (rv) 119 4 (List.length rs) (List.flatMap (dbL rL rE) rs), .row (pv) 206 5 (List.length xs) (List.flatMap (dpL pL pE) xs)] rfl rfl (by kernel_rfl) (by simp only [List.all_cons, List.all_nil, h48o, h49o, Bool.and_true, Bool.true_and] <;> rfl) (by kernel_rfl) (by kernel_rfl) (by kernel_rfl) (by kernel_rfl) (by kernel_rfl) (by kernel_rfl) ?_
          clear H
          intro v68 H
          refine x_nil ?_
          refine x_then ?_
          refine ⟨fun w' => Hs M w0 w' [.blk g6 #[.bool false, .bool false] 90, .blk p #[.int .i64 rL, .int .i64 rE, .int .i64 pL, .int .i64 pE, .int .i64 ((room : Nat) : Int), .int .i64 hv, .slice (some ⟨gr, 0, none⟩) ranks ranks, .pointer (some ⟨t, 0, none⟩)] 187, .row (.slice (some ⟨gr, 0, none⟩) ranks ranks) 86 2 ranks (List.flatMap bukL (nRs ranks rs o.2.1 o.2.2.2)), .blk t #[svn, .int .i64 ((room : Nat) : Int), .func (.func 103) #[] #[]] 228, .row (svn) 230 3 (List.length (nXs ranks room xs o.2.1 o.2.2.1 o.2.2.2)) (List.flatMap pairLB (nXs ranks room xs o.2.1 o.2.2.1 o.2.2.2)), .blk g4 #[rv, pv, .int .i64 pL, .int .i64 pE, .int .i64 0, .int .i64 0, .int .i64 ((room : Nat) : Int)] 124, .blk g3 #[.int .i64 o.1, .int .i64 o.2.1, .int .i64 o.2.2.1, .int .i64 o.2.2.2] 88, .blk g2 #[.int .i64 rL, .int .i64 rE] 78, .blk g1 #[rv, pv, .int .i64 pL, .int .i64 pE, .int .i64 0, .int .i64 0, .int .i64 ((room : Nat) : Int)] 124, .row (rv) 119 4 (List.length rs) (List.flatMap (dbL rL rE) rs), .row (pv) 206 5 (List.length xs) (List.flatMap (dpL pL pE) xs)], fun w' => Hs M w0 w' [.blk g6 #[.bool false, .bool false] 90, .blk p #[.int .i64 rL, .int .i64 rE, .int .i64 pL, .int .i64 pE, .int .i64 ((room : Nat) : Int), .int .i64 hv, .slice (some ⟨gr, 0, none⟩) ranks ranks, .pointer (some ⟨t, 0, none⟩)] 187, .row (.slice (some ⟨gr, 0, none⟩) ranks ranks) 86 2 ranks (List.flatMap bukL (nRs ranks rs o.2.1 o.2.2.2)), .blk t #[svn, .int .i64 ((room : Nat) : Int), .func (.func 103) #[] #[]] 228, .row (svn) 230 3 (List.length (nXs ranks room xs o.2.1 o.2.2.1 o.2.2.2)) (List.flatMap pairLB (nXs ranks room xs o.2.1 o.2.2.1 o.2.2.2)), .blk g4 #[rv, pv, .int .i64 pL, .int .i64 pE, .int .i64 0, .int .i64 0, .int .i64 ((room : Nat) : Int)] 124, .blk g3 #[.int .i64 o.1, .int .i64 o.2.1, .int .i64 o.2.2.1, .int .i64 o.2.2.2] 88, .blk g2 #[.int .i64 rL, .int .i64 rE] 78, .blk g1 #[rv, pv, .int .i64 pL, .int .i64 pE, .int .i64 0, .int .i64 0, .int .i64 ((room : Nat) : Int)] 124, .row (rv) 119 4 (List.length rs) (List.flatMap (dbL rL rE) rs), .row (pv) 206 5 (List.length xs) (List.flatMap (dpL pL pE) xs)], H, hsShut, fun _ h => h.pick [0, 1, 2, 3, 4, 5, 6, 7, 8, 9, 10] _ (by decide) (by kernel_rfl), fun _ h => h.pick [0, 1, 2, 3, 4, 6, 7, 8, 9, 10] _ (by decide) (by kernel_rfl), ?_⟩
          refine s_quiet 9 rfl (by kernel_rfl) (y_val (.bool true) (by kernel_rfl) (fun _ => by kernel_rfl)) ?_
          refine s_done (by kernel_rfl) ?_
          clear H
          intro v69 H
          refine x_then ?_
          refine x_retc ?_
          refine x_then_ret ?_
          refine x_blk_ret ?_
          refine x_then_ret ?_
          refine x_ret (.tuple #[.agg #[rv, pv, .int .i64 pL, .int .i64 pE, .int .i64 0, .int .i64 0, .int .i64 ((room : Nat) : Int)], .bool true]) (by kernel_rfl) (x_rescell H 5 g4 0 #[rv, pv, .int .i64 pL, .int .i64 pE, .int .i64 0, .int .i64 0, .int .i64 ((room : Nat) : Int)] 124 [rv, pv, .int .i64 pL, .int .i64 pE, .int .i64 0, .int .i64 0, .int .i64 ((room : Nat) : Int)] (fun x => .tuple #[x, .bool true]) (by kernel_rfl) (by kernel_rfl) (by kernel_rfl)) ?_
          replace H := H.pick [1, 2, 3, 4, 9, 10] [.blk p #[.int .i64 rL, .int .i64 rE, .int .i64 pL, .int .i64 pE, .int .i64 ((room : Nat) : Int), .int .i64 hv, .slice (some ⟨gr, 0, none⟩) ranks ranks, .pointer (some ⟨t, 0, none⟩)] 187, .row (.slice (some ⟨gr, 0, none⟩) ranks ranks) 86 2 ranks (List.flatMap bukL (nRs ranks rs o.2.1 o.2.2.2)), .blk t #[svn, .int .i64 ((room : Nat) : Int), .func (.func 103) #[] #[]] 228, .row (svn) 230 3 (List.length (nXs ranks room xs o.2.1 o.2.2.1 o.2.2.2)) (List.flatMap pairLB (nXs ranks room xs o.2.1 o.2.2.1 o.2.2.2)), .row (rv) 119 4 (List.length rs) (List.flatMap (dbL rL rE) rs), .row (pv) 206 5 (List.length xs) (List.flatMap (dpL pL pE) xs)] (by decide) (by kernel_rfl)
          have e1 : stR ranks rE rs o = nRs ranks rs o.2.1 o.2.2.2 := by unfold stR; rw [if_pos (show o.1 = 1 by omega)]
          have e2 : stX ranks room pE xs o = nXs ranks room xs o.2.1 o.2.2.1 o.2.2.2 := by unfold stX; rw [if_pos (show o.1 = 1 by omega)]
          have f1 : nRs ranks rs o.2.1 o.2.2.2 = rs := by unfold nRs; rw [if_neg (by rw [h46]; decide)]
          have f2 : nXs ranks room xs o.2.1 o.2.2.1 o.2.2.2 = xs := by unfold nXs; rw [if_neg (by rw [h46]; decide)]
          rw [f1, f2] at H
          rw [f1] at e1
          rw [f2] at e2
          rw [e1, e2]
          exact ⟨(svn, rv, pv), rfl, H⟩
        · skip
          have h47p := of_decide_eq_true h47
          refine x_val (.pointer (some ⟨g3, 3, none⟩)) (by kernel_rfl) rfl (by kernel_rfl) ?_
          refine x_load1 H 6 g3 3 _ _ (.int .i64 o.2.2.2) rfl (by kernel_rfl) (by kernel_rfl) rfl (by kernel_rfl) ?_
          refine x_val (.bool (decide (o.2.2.2 < 0))) (by kernel_rfl) rfl (by kernel_rfl) ?_
          refine x_val (.bool (decide (o.2.2.2 < 0))) (by kernel_rfl) rfl (by kernel_rfl) ?_
          refine x_nil ?_
          refine x_then ?_
          cases h50 : decide (o.2.2.2 < 0)
          · skip
            have h50p := of_decide_eq_false h50
            exact absurd h46 (by unfold nOk; rw [decide_eq_true (by omega)]; decide)
          · skip
            have h50p := of_decide_eq_true h50
            refine x_t (by kernel_rfl) ?_
            refine x_seq ?_
            refine x_region_s 10 (fun w' => Hs M w0 w' [.blk g6 #[.bool false, .bool false] 90, .blk p #[.int .i64 rL, .int .i64 rE, .int .i64 pL, .int .i64 pE, .int .i64 ((room : Nat) : Int), .int .i64 hv, .slice (some ⟨gr, 0, none⟩) ranks ranks, .pointer (some ⟨t, 0, none⟩)] 187, .row (.slice (some ⟨gr, 0, none⟩) ranks ranks) 86 2 ranks (List.flatMap bukL (nRs ranks rs o.2.1 o.2.2.2)), .blk t #[svn, .int .i64 ((room : Nat) : Int), .func (.func 103) #[] #[]] 228, .row (svn) 230 3 (List.length (nXs ranks room xs o.2.1 o.2.2.1 o.2.2.2)) (List.flatMap pairLB (nXs ranks room xs o.2.1 o.2.2.1 o.2.2.2)), .blk g3 #[.int .i64 o.1, .int .i64 o.2.1, .int .i64 o.2.2.1, .int .i64 o.2.2.2] 88, .blk g2 #[.int .i64 rL, .int .i64 rE] 78, .blk g1 #[rv, pv, .int .i64 pL, .int .i64 pE, .int .i64 0, .int .i64 0, .int .i64 ((room : Nat) : Int)] 124, .row (rv) 119 4 (List.length rs) (List.flatMap (dbL rL rE) rs), .row (pv) 206 5 (List.length xs) (List.flatMap (dpL pL pE) xs)]) (fun w' => Hs M w0 w' [.blk g6 #[.bool false, .bool false] 90, .blk p #[.int .i64 rL, .int .i64 rE, .int .i64 pL, .int .i64 pE, .int .i64 ((room : Nat) : Int), .int .i64 hv, .slice (some ⟨gr, 0, none⟩) ranks ranks, .pointer (some ⟨t, 0, none⟩)] 187, .row (.slice (some ⟨gr, 0, none⟩) ranks ranks) 86 2 ranks (List.flatMap bukL (nRs ranks rs o.2.1 o.2.2.2)), .blk t #[svn, .int .i64 ((room : Nat) : Int), .func (.func 103) #[] #[]] 228, .row (svn) 230 3 (List.length (nXs ranks room xs o.2.1 o.2.2.1 o.2.2.2)) (List.flatMap pairLB (nXs ranks room xs o.2.1 o.2.2.1 o.2.2.2)), .blk g4 #[.slice none 0 0, .slice none 0 0, .int .i64 0, .int .i64 0, .int .i64 0, .int .i64 0, .int .i64 0] 124, .blk g3 #[.int .i64 o.1, .int .i64 o.2.1, .int .i64 o.2.2.1, .int .i64 o.2.2.2] 88, .blk g2 #[.int .i64 rL, .int .i64 rE] 78, .blk g1 #[rv, pv, .int .i64 pL, .int .i64 pE, .int .i64 0, .int .i64 0, .int .i64 ((room : Nat) : Int)] 124, .row (rv) 119 4 (List.length rs) (List.flatMap (dbL rL rE) rs), .row (pv) 206 5 (List.length xs) (List.flatMap (dpL pL pE) xs)]) (by kernel_rfl) (by kernel_rfl) (by kernel_rfl) hsShut (fun _ h => h.pick [0, 1, 2, 3, 4, 6, 7, 8, 9, 10] _ (by decide) (by kernel_rfl)) H.drew ?_
            refine s_quiet 0 rfl (by kernel_rfl) (y_loadn (t := 124) 7 g1 0 #[rv, pv, .int .i64 pL, .int .i64 pE, .int .i64 0, .int .i64 0, .int .i64 ((room : Nat) : Int)] 124 [rv, pv, .int .i64 pL, .int .i64 pE, .int .i64 0, .int .i64 0, .int .i64 ((room : Nat) : Int)] (by kernel_rfl) (by kernel_rfl) (by kernel_rfl) (by kernel_rfl) (by kernel_rfl)) ?_
            refine s_quiet 1 rfl (by kernel_rfl) (y_val (.int .i64 12) (by kernel_rfl) (fun _ => by kernel_rfl)) ?_
            refine s_quiet 2 rfl (by kernel_rfl) (y_val (.bool true) (by kernel_rfl) (fun _ => by kernel_rfl)) ?_
            refine s_quiet 3 rfl (by kernel_rfl) (y_val (.bool true) (by kernel_rfl) (fun _ => by kernel_rfl)) ?_
            refine s_quiet 4 rfl (by kernel_rfl) (y_loadn (t := 90) 0 g6 0 #[.bool false, .bool false] 90 [.bool false, .bool false] (by kernel_rfl) (by kernel_rfl) (by kernel_rfl) (by kernel_rfl) (by kernel_rfl)) ?_
            refine s_quiet 5 rfl (by kernel_rfl) (y_val (.agg #[.bool false, .bool false]) (by kernel_rfl) (fun _ => by kernel_rfl)) ?_
            refine s_quiet 6 rfl (by kernel_rfl) (y_val (.bool true) (by kernel_rfl) (fun _ => (run_eqS (t := 90) (x := .tmp 53) (y := .tmp 54) (xs := #[.bool false, .bool false]) (ys := #[.bool false, .bool false]) (B := true) (by kernel_rfl) (by kernel_rfl) (by kernel_rfl)))) ?_
            refine s_quiet 7 rfl (by kernel_rfl) (y_val (.bool true) (by kernel_rfl) (fun _ => by kernel_rfl)) ?_
            refine s_one 8 rfl (by kernel_rfl) rfl ?_
            clear H
            intro v70 H
            have h51o := H.rowOne 9 rfl
            have h52o := H.rowOne 10 rfl
            refine x_store (t := 124) (v := .agg #[rv, pv, .int .i64 pL, .int .i64 pE, .int .i64 0, .int .i64 0, .int .i64 ((room : Nat) : Int)]) H 5 g4 0 _ #[rv, pv, .int .i64 pL, .int .i64 pE, .int .i64 0, .int .i64 0, .int .i64 ((room : Nat) : Int)] 124 [rv, pv, .int .i64 pL, .int .i64 pE, .int .i64 0, .int .i64 0, .int .i64 ((room : Nat) : Int)] _ rfl rfl (by kernel_rfl) (by simp only [List.all_cons, List.all_nil, h51o, h52o, Bool.and_true, Bool.true_and] <;> rfl) (by kernel_rfl) rfl (by kernel_rfl) (by kernel_rfl) (by kernel_rfl) (by kernel_rfl) ?_
            clear H
            intro v71 H
            refine x_nil ?_
            refine x_then ?_
            refine ⟨fun w' => Hs M w0 w' [.blk g6 #[.bool false, .bool false] 90, .blk p #[.int .i64 rL, .int .i64 rE, .int .i64 pL, .int .i64 pE, .int .i64 ((room : Nat) : Int), .int .i64 hv, .slice (some ⟨gr, 0, none⟩) ranks ranks, .pointer (some ⟨t, 0, none⟩)] 187, .row (.slice (some ⟨gr, 0, none⟩) ranks ranks) 86 2 ranks (List.flatMap bukL (nRs ranks rs o.2.1 o.2.2.2)), .blk t #[svn, .int .i64 ((room : Nat) : Int), .func (.func 103) #[] #[]] 228, .row (svn) 230 3 (List.length (nXs ranks room xs o.2.1 o.2.2.1 o.2.2.2)) (List.flatMap pairLB (nXs ranks room xs o.2.1 o.2.2.1 o.2.2.2)), .blk g4 #[rv, pv, .int .i64 pL, .int .i64 pE, .int .i64 0, .int .i64 0, .int .i64 ((room : Nat) : Int)] 124, .blk g3 #[.int .i64 o.1, .int .i64 o.2.1, .int .i64 o.2.2.1, .int .i64 o.2.2.2] 88, .blk g2 #[.int .i64 rL, .int .i64 rE] 78, .blk g1 #[rv, pv, .int .i64 pL, .int .i64 pE, .int .i64 0, .int .i64 0, .int .i64 ((room : Nat) : Int)] 124, .row (rv) 119 4 (List.length rs) (List.flatMap (dbL rL rE) rs), .row (pv) 206 5 (List.length xs) (List.flatMap (dpL pL pE) xs)], fun w' => Hs M w0 w' [.blk g6 #[.bool false, .bool false] 90, .blk p #[.int .i64 rL, .int .i64 rE, .int .i64 pL, .int .i64 pE, .int .i64 ((room : Nat) : Int), .int .i64 hv, .slice (some ⟨gr, 0, none⟩) ranks ranks, .pointer (some ⟨t, 0, none⟩)] 187, .row (.slice (some ⟨gr, 0, none⟩) ranks ranks) 86 2 ranks (List.flatMap bukL (nRs ranks rs o.2.1 o.2.2.2)), .blk t #[svn, .int .i64 ((room : Nat) : Int), .func (.func 103) #[] #[]] 228, .row (svn) 230 3 (List.length (nXs ranks room xs o.2.1 o.2.2.1 o.2.2.2)) (List.flatMap pairLB (nXs ranks room xs o.2.1 o.2.2.1 o.2.2.2)), .blk g4 #[rv, pv, .int .i64 pL, .int .i64 pE, .int .i64 0, .int .i64 0, .int .i64 ((room : Nat) : Int)] 124, .blk g3 #[.int .i64 o.1, .int .i64 o.2.1, .int .i64 o.2.2.1, .int .i64 o.2.2.2] 88, .blk g2 #[.int .i64 rL, .int .i64 rE] 78, .blk g1 #[rv, pv, .int .i64 pL, .int .i64 pE, .int .i64 0, .int .i64 0, .int .i64 ((room : Nat) : Int)] 124, .row (rv) 119 4 (List.length rs) (List.flatMap (dbL rL rE) rs), .row (pv) 206 5 (List.length xs) (List.flatMap (dpL pL pE) xs)], H, hsShut, fun _ h => h.pick [0, 1, 2, 3, 4, 5, 6, 7, 8, 9, 10] _ (by decide) (by kernel_rfl), fun _ h => h.pick [0, 1, 2, 3, 4, 6, 7, 8, 9, 10] _ (by decide) (by kernel_rfl), ?_⟩
            refine s_quiet 9 rfl (by kernel_rfl) (y_val (.bool true) (by kernel_rfl) (fun _ => by kernel_rfl)) ?_
            refine s_done (by kernel_rfl) ?_
            clear H
            intro v72 H
            refine x_then ?_
            refine x_retc ?_
            refine x_then_ret ?_
            refine x_blk_ret ?_
            refine x_then_ret ?_
            refine x_ret (.tuple #[.agg #[rv, pv, .int .i64 pL, .int .i64 pE, .int .i64 0, .int .i64 0, .int .i64 ((room : Nat) : Int)], .bool true]) (by kernel_rfl) (x_rescell H 5 g4 0 #[rv, pv, .int .i64 pL, .int .i64 pE, .int .i64 0, .int .i64 0, .int .i64 ((room : Nat) : Int)] 124 [rv, pv, .int .i64 pL, .int .i64 pE, .int .i64 0, .int .i64 0, .int .i64 ((room : Nat) : Int)] (fun x => .tuple #[x, .bool true]) (by kernel_rfl) (by kernel_rfl) (by kernel_rfl)) ?_
            replace H := H.pick [1, 2, 3, 4, 9, 10] [.blk p #[.int .i64 rL, .int .i64 rE, .int .i64 pL, .int .i64 pE, .int .i64 ((room : Nat) : Int), .int .i64 hv, .slice (some ⟨gr, 0, none⟩) ranks ranks, .pointer (some ⟨t, 0, none⟩)] 187, .row (.slice (some ⟨gr, 0, none⟩) ranks ranks) 86 2 ranks (List.flatMap bukL (nRs ranks rs o.2.1 o.2.2.2)), .blk t #[svn, .int .i64 ((room : Nat) : Int), .func (.func 103) #[] #[]] 228, .row (svn) 230 3 (List.length (nXs ranks room xs o.2.1 o.2.2.1 o.2.2.2)) (List.flatMap pairLB (nXs ranks room xs o.2.1 o.2.2.1 o.2.2.2)), .row (rv) 119 4 (List.length rs) (List.flatMap (dbL rL rE) rs), .row (pv) 206 5 (List.length xs) (List.flatMap (dpL pL pE) xs)] (by decide) (by kernel_rfl)
            have e1 : stR ranks rE rs o = nRs ranks rs o.2.1 o.2.2.2 := by unfold stR; rw [if_pos (show o.1 = 1 by omega)]
            have e2 : stX ranks room pE xs o = nXs ranks room xs o.2.1 o.2.2.1 o.2.2.2 := by unfold stX; rw [if_pos (show o.1 = 1 by omega)]
            have f1 : nRs ranks rs o.2.1 o.2.2.2 = rs := by unfold nRs; rw [if_neg (by rw [h46]; decide)]
            have f2 : nXs ranks room xs o.2.1 o.2.2.1 o.2.2.2 = xs := by unfold nXs; rw [if_neg (by rw [h46]; decide)]
            rw [f1, f2] at H
            rw [f1] at e1
            rw [f2] at e2
            rw [e1, e2]
            exact ⟨(svn, rv, pv), rfl, H⟩
      · skip
        refine x_call (by kernel_rfl) rfl (by kernel_rfl) (Hs.useE (A := [.blk p #[.int .i64 rL, .int .i64 rE, .int .i64 pL, .int .i64 pE, .int .i64 ((room : Nat) : Int), .int .i64 hv, .slice (some ⟨gr, 0, none⟩) ranks ranks, .pointer (some ⟨t, 0, none⟩)] 187, .row (.slice (some ⟨gr, 0, none⟩) ranks ranks) 86 2 ranks (List.flatMap bukL rs), .blk t #[sv, .int .i64 ((room : Nat) : Int), .func (.func 103) #[] #[]] 228, .row (sv) 230 3 (List.length xs) (List.flatMap pairLB xs)]) (R := [.blk g4 #[.slice none 0 0, .slice none 0 0, .int .i64 0, .int .i64 0, .int .i64 0, .int .i64 0, .int .i64 0] 124, .blk g3 #[.int .i64 o.1, .int .i64 o.2.1, .int .i64 o.2.2.1, .int .i64 o.2.2.2] 88, .blk g2 #[.int .i64 rL, .int .i64 rE] 78, .blk g1 #[rv, pv, .int .i64 pL, .int .i64 pE, .int .i64 0, .int .i64 0, .int .i64 ((room : Nat) : Int)] 124, .row (rv) 119 4 (List.length rs) (List.flatMap (dbL rL rE) rs), .row (pv) 206 5 (List.length xs) (List.flatMap (dpL pL pE) xs)]) (fun svn => [.blk p #[.int .i64 rL, .int .i64 rE, .int .i64 pL, .int .i64 pE, .int .i64 ((room : Nat) : Int), .int .i64 hv, .slice (some ⟨gr, 0, none⟩) ranks ranks, .pointer (some ⟨t, 0, none⟩)] 187, .row (.slice (some ⟨gr, 0, none⟩) ranks ranks) 86 2 ranks (List.flatMap bukL (nRs ranks rs o.2.1 o.2.2.2)), .blk t #[svn, .int .i64 ((room : Nat) : Int), .func (.func 103) #[] #[]] 228, .row (svn) 230 3 (List.length (nXs ranks room xs o.2.1 o.2.2.1 o.2.2.2)) (List.flatMap pairLB (nXs ranks room xs o.2.1 o.2.2.1 o.2.2.2))]) (fun _ => .tuple #[.agg #[.bool (nC1 rL ranks rs o.2.1 o.2.2.2), .bool (nC2 pL ranks xs o.2.1 o.2.2.1 o.2.2.2)], .int .i64 0]) (H.pick [4, 5, 6, 7, 0, 1, 2, 3, 8, 9] _ (by decide) (by kernel_rfl)) (fun h => (Note_any o.2.1 o.2.2.1 o.2.2.2 hk hP _ h).mono (fun e w' ⟨s', q1, q2⟩ => ⟨s', q1.trans (by unfold nE; rw [if_pos h46]), q2⟩))) ?_
        rintro _ v73 ⟨svn, rfl, H'⟩
        refine ⟨_, rfl, ?_⟩
        clear H
        have H : Hs M w0 _ [.blk p #[.int .i64 rL, .int .i64 rE, .int .i64 pL, .int .i64 pE, .int .i64 ((room : Nat) : Int), .int .i64 hv, .slice (some ⟨gr, 0, none⟩) ranks ranks, .pointer (some ⟨t, 0, none⟩)] 187, .row (.slice (some ⟨gr, 0, none⟩) ranks ranks) 86 2 ranks (List.flatMap bukL (nRs ranks rs o.2.1 o.2.2.2)), .blk t #[svn, .int .i64 ((room : Nat) : Int), .func (.func 103) #[] #[]] 228, .row (svn) 230 3 (List.length (nXs ranks room xs o.2.1 o.2.2.1 o.2.2.2)) (List.flatMap pairLB (nXs ranks room xs o.2.1 o.2.2.1 o.2.2.2)), .blk g4 #[.slice none 0 0, .slice none 0 0, .int .i64 0, .int .i64 0, .int .i64 0, .int .i64 0, .int .i64 0] 124, .blk g3 #[.int .i64 o.1, .int .i64 o.2.1, .int .i64 o.2.2.1, .int .i64 o.2.2.2] 88, .blk g2 #[.int .i64 rL, .int .i64 rE] 78, .blk g1 #[rv, pv, .int .i64 pL, .int .i64 pE, .int .i64 0, .int .i64 0, .int .i64 ((room : Nat) : Int)] 124, .row (rv) 119 4 (List.length rs) (List.flatMap (dbL rL rE) rs), .row (pv) 206 5 (List.length xs) (List.flatMap (dpL pL pE) xs)] := H'
        clear H'
        refine x_val (.tuple #[.agg #[.bool (nC1 rL ranks rs o.2.1 o.2.2.2), .bool (nC2 pL ranks xs o.2.1 o.2.2.1 o.2.2.2)], .int .i64 0]) (by kernel_rfl) rfl (by kernel_rfl) ?_
        refine x_val (.agg #[.bool (nC1 rL ranks rs o.2.1 o.2.2.2), .bool (nC2 pL ranks xs o.2.1 o.2.2.1 o.2.2.2)]) (by kernel_rfl) rfl (by kernel_rfl) ?_
        refine x_val (.int .i64 0) (by kernel_rfl) rfl (by kernel_rfl) ?_
        refine x_box H #[.bool false, .bool false] 90 (by kernel_rfl) rfl (by kernel_rfl) ?_
        clear H
        intro v74 g7 H
        refine x_store (t := 90) (v := .agg #[.bool (nC1 rL ranks rs o.2.1 o.2.2.2), .bool (nC2 pL ranks xs o.2.1 o.2.2.1 o.2.2.2)]) H 0 g7 0 _ #[.bool (nC1 rL ranks rs o.2.1 o.2.2.2), .bool (nC2 pL ranks xs o.2.1 o.2.2.1 o.2.2.2)] 90 [.bool (nC1 rL ranks rs o.2.1 o.2.2.2), .bool (nC2 pL ranks xs o.2.1 o.2.2.1 o.2.2.2)] _ rfl rfl (by kernel_rfl) (by kernel_rfl) (by kernel_rfl) rfl (by kernel_rfl) (by kernel_rfl) (by kernel_rfl) (by kernel_rfl) ?_
        clear H
        intro v75 H
        refine x_val (.int .i64 0) (by kernel_rfl) rfl (by kernel_rfl) ?_
        refine x_nil ?_
        refine x_then ?_
        refine x_seq ?_
        refine x_seq ?_
        refine x_region ?_
        refine x_val (.bool (decide (o.2.1 < ((ranks : Nat) : Int)))) (by kernel_rfl) rfl (by kernel_rfl) ?_
        refine x_val (.bool (!(decide (o.2.1 < ((ranks : Nat) : Int))))) (by kernel_rfl) rfl (by kernel_rfl) ?_
        refine x_val (.bool (!(decide (o.2.1 < ((ranks : Nat) : Int))))) (by kernel_rfl) rfl (by kernel_rfl) ?_
        cases h53 : decide (o.2.1 < ((ranks : Nat) : Int))
        · skip
          have h53p := of_decide_eq_false h53
          exact absurd (nOk_at h46).1.2 h53p
        · skip
          have h53p := of_decide_eq_true h53
          refine x_val (.pointer (some ⟨g3, 3, none⟩)) (by kernel_rfl) rfl (by kernel_rfl) ?_
          refine x_load1 H 6 g3 3 _ _ (.int .i64 o.2.2.2) rfl (by kernel_rfl) (by kernel_rfl) rfl (by kernel_rfl) ?_
          refine x_val (.bool (decide (o.2.2.2 < 0))) (by kernel_rfl) rfl (by kernel_rfl) ?_
          refine x_val (.bool (decide (o.2.2.2 < 0))) (by kernel_rfl) rfl (by kernel_rfl) ?_
          refine x_nil ?_
          refine x_then ?_
          cases h54 : decide (o.2.2.2 < 0)
          · skip
            have h54p := of_decide_eq_false h54
            refine x_f (by kernel_rfl) ?_
            refine x_skipc ?_
            refine x_then ?_
            refine x_seq ?_
            refine x_region ?_
            refine x_loadn (t := 124) H 8 g1 0 _ _ [rv, pv, .int .i64 pL, .int .i64 pE, .int .i64 0, .int .i64 0, .int .i64 ((room : Nat) : Int)] rfl (by kernel_rfl) (by kernel_rfl) rfl (by kernel_rfl) (by kernel_rfl) ?_
            refine x_val (.pointer (some ⟨g3, 1, none⟩)) (by kernel_rfl) rfl (by kernel_rfl) ?_
            refine x_load1 H 6 g3 1 _ _ (.int .i64 o.2.1) rfl (by kernel_rfl) (by kernel_rfl) rfl (by kernel_rfl) ?_
            refine x_val (.pointer (some ⟨g3, 2, none⟩)) (by kernel_rfl) rfl (by kernel_rfl) ?_
            refine x_load1 H 6 g3 2 _ _ (.int .i64 o.2.2.1) rfl (by kernel_rfl) (by kernel_rfl) rfl (by kernel_rfl) ?_
            refine x_val (.pointer (some ⟨g3, 3, none⟩)) (by kernel_rfl) rfl (by kernel_rfl) ?_
            refine x_load1 H 6 g3 3 _ _ (.int .i64 o.2.2.2) rfl (by kernel_rfl) (by kernel_rfl) rfl (by kernel_rfl) ?_
            refine x_call (by kernel_rfl) rfl (by kernel_rfl) (DNoteI o.2.1 o.2.2.1 o.2.2.2 hk hP h46 _ (Ro.two (H.roOf [9] [.row (rv) 119 4 (List.length rs) (List.flatMap (dbL rL rE) rs)] (by kernel_rfl)) (H.roOf [10] [.row (pv) 206 5 (List.length xs) (List.flatMap (dpL pL pE) xs)] (by kernel_rfl)))) ?_
            rintro _ v76 ⟨u1, u2, rfl, hN'⟩
            refine ⟨_, rfl, ?_⟩
            replace H := H.more hN'
            clear hN'
            replace H : Hs M w0 _ [.row (u1) 119 4 (List.length (nRs ranks rs o.2.1 o.2.2.2)) (List.flatMap (dbL rL rE) (nRs ranks rs o.2.1 o.2.2.2)), .row (u2) 206 5 (List.length (nXs ranks room xs o.2.1 o.2.2.1 o.2.2.2)) (List.flatMap (dpL pL pE) (nXs ranks room xs o.2.1 o.2.2.1 o.2.2.2)), .blk g7 #[.bool (nC1 rL ranks rs o.2.1 o.2.2.2), .bool (nC2 pL ranks xs o.2.1 o.2.2.1 o.2.2.2)] 90, .blk p #[.int .i64 rL, .int .i64 rE, .int .i64 pL, .int .i64 pE, .int .i64 ((room : Nat) : Int), .int .i64 hv, .slice (some ⟨gr, 0, none⟩) ranks ranks, .pointer (some ⟨t, 0, none⟩)] 187, .row (.slice (some ⟨gr, 0, none⟩) ranks ranks) 86 2 ranks (List.flatMap bukL (nRs ranks rs o.2.1 o.2.2.2)), .blk t #[svn, .int .i64 ((room : Nat) : Int), .func (.func 103) #[] #[]] 228, .row (svn) 230 3 (List.length (nXs ranks room xs o.2.1 o.2.2.1 o.2.2.2)) (List.flatMap pairLB (nXs ranks room xs o.2.1 o.2.2.1 o.2.2.2)), .blk g4 #[.slice none 0 0, .slice none 0 0, .int .i64 0, .int .i64 0, .int .i64 0, .int .i64 0, .int .i64 0] 124, .blk g3 #[.int .i64 o.1, .int .i64 o.2.1, .int .i64 o.2.2.1, .int .i64 o.2.2.2] 88, .blk g2 #[.int .i64 rL, .int .i64 rE] 78, .blk g1 #[rv, pv, .int .i64 pL, .int .i64 pE, .int .i64 0, .int .i64 0, .int .i64 ((room : Nat) : Int)] 124, .row (rv) 119 4 (List.length rs) (List.flatMap (dbL rL rE) rs), .row (pv) 206 5 (List.length xs) (List.flatMap (dpL pL pE) xs)] := H
            refine x_val (.tuple #[.agg #[u1, u2, .int .i64 pL, .int .i64 pE, .int .i64 0, .int .i64 0, .int .i64 ((room : Nat) : Int)], .bool (nC1 rL ranks rs o.2.1 o.2.2.2), .bool (nC2 pL ranks xs o.2.1 o.2.2.1 o.2.2.2)]) (by kernel_rfl) rfl (by kernel_rfl) ?_
            refine x_val (.agg #[u1, u2, .int .i64 pL, .int .i64 pE, .int .i64 0, .int .i64 0, .int .i64 ((room : Nat) : Int)]) (by kernel_rfl) rfl (by kernel_rfl) ?_
            refine x_val (.bool (nC1 rL ranks rs o.2.1 o.2.2.2)) (by kernel_rfl) rfl (by kernel_rfl) ?_
            refine x_val (.bool (nC2 pL ranks xs o.2.1 o.2.2.1 o.2.2.2)) (by kernel_rfl) rfl (by kernel_rfl) ?_
            refine x_box H #[.slice none 0 0, .slice none 0 0, .int .i64 0, .int .i64 0, .int .i64 0, .int .i64 0, .int .i64 0] 124 (by kernel_rfl) rfl (by kernel_rfl) ?_
            clear H
            intro v77 g8 H
            have h55o := H.rowOne 1 rfl
            have h56o := H.rowOne 2 rfl
            refine x_store (t := 124) (v := .agg #[u1, u2, .int .i64 pL, .int .i64 pE, .int .i64 0, .int .i64 0, .int .i64 ((room : Nat) : Int)]) H 0 g8 0 _ #[u1, u2, .int .i64 pL, .int .i64 pE, .int .i64 0, .int .i64 0, .int .i64 ((room : Nat) : Int)] 124 [u1, u2, .int .i64 pL, .int .i64 pE, .int .i64 0, .int .i64 0, .int .i64 ((room : Nat) : Int)] _ rfl rfl (by kernel_rfl) (by simp only [List.all_cons, List.all_nil, h55o, h56o, Bool.and_true, Bool.true_and] <;> rfl) (by kernel_rfl) rfl (by kernel_rfl) (by kernel_rfl) (by kernel_rfl) (by kernel_rfl) ?_
            clear H
            intro v78 H
            refine x_val (.bool (nC1 rL ranks rs o.2.1 o.2.2.2)) (by kernel_rfl) rfl (by kernel_rfl) ?_
            refine x_val (.bool (nC2 pL ranks xs o.2.1 o.2.2.1 o.2.2.2)) (by kernel_rfl) rfl (by kernel_rfl) ?_
            refine x_nil ?_
            refine x_then ?_
            refine x_seq ?_
            refine x_region_s 12 (fun w' => Hs M w0 w' [.blk g8 #[u1, u2, .int .i64 pL, .int .i64 pE, .int .i64 0, .int .i64 0, .int .i64 ((room : Nat) : Int)] 124, .row (u1) 119 4 (List.length (nRs ranks rs o.2.1 o.2.2.2)) (List.flatMap (dbL rL rE) (nRs ranks rs o.2.1 o.2.2.2)), .row (u2) 206 5 (List.length (nXs ranks room xs o.2.1 o.2.2.1 o.2.2.2)) (List.flatMap (dpL pL pE) (nXs ranks room xs o.2.1 o.2.2.1 o.2.2.2)), .blk g7 #[.bool (nC1 rL ranks rs o.2.1 o.2.2.2), .bool (nC2 pL ranks xs o.2.1 o.2.2.1 o.2.2.2)] 90, .blk p #[.int .i64 rL, .int .i64 rE, .int .i64 pL, .int .i64 pE, .int .i64 ((room : Nat) : Int), .int .i64 hv, .slice (some ⟨gr, 0, none⟩) ranks ranks, .pointer (some ⟨t, 0, none⟩)] 187, .row (.slice (some ⟨gr, 0, none⟩) ranks ranks) 86 2 ranks (List.flatMap bukL (nRs ranks rs o.2.1 o.2.2.2)), .blk t #[svn, .int .i64 ((room : Nat) : Int), .func (.func 103) #[] #[]] 228, .row (svn) 230 3 (List.length (nXs ranks room xs o.2.1 o.2.2.1 o.2.2.2)) (List.flatMap pairLB (nXs ranks room xs o.2.1 o.2.2.1 o.2.2.2)), .blk g3 #[.int .i64 o.1, .int .i64 o.2.1, .int .i64 o.2.2.1, .int .i64 o.2.2.2] 88, .blk g2 #[.int .i64 rL, .int .i64 rE] 78, .blk g1 #[rv, pv, .int .i64 pL, .int .i64 pE, .int .i64 0, .int .i64 0, .int .i64 ((room : Nat) : Int)] 124, .row (rv) 119 4 (List.length rs) (List.flatMap (dbL rL rE) rs), .row (pv) 206 5 (List.length xs) (List.flatMap (dpL pL pE) xs)]) (fun w' => Hs M w0 w' [.blk g8 #[u1, u2, .int .i64 pL, .int .i64 pE, .int .i64 0, .int .i64 0, .int .i64 ((room : Nat) : Int)] 124, .row (u1) 119 4 (List.length (nRs ranks rs o.2.1 o.2.2.2)) (List.flatMap (dbL rL rE) (nRs ranks rs o.2.1 o.2.2.2)), .row (u2) 206 5 (List.length (nXs ranks room xs o.2.1 o.2.2.1 o.2.2.2)) (List.flatMap (dpL pL pE) (nXs ranks room xs o.2.1 o.2.2.1 o.2.2.2)), .blk g7 #[.bool (nC1 rL ranks rs o.2.1 o.2.2.2), .bool (nC2 pL ranks xs o.2.1 o.2.2.1 o.2.2.2)] 90, .blk p #[.int .i64 rL, .int .i64 rE, .int .i64 pL, .int .i64 pE, .int .i64 ((room : Nat) : Int), .int .i64 hv, .slice (some ⟨gr, 0, none⟩) ranks ranks, .pointer (some ⟨t, 0, none⟩)] 187, .row (.slice (some ⟨gr, 0, none⟩) ranks ranks) 86 2 ranks (List.flatMap bukL (nRs ranks rs o.2.1 o.2.2.2)), .blk t #[svn, .int .i64 ((room : Nat) : Int), .func (.func 103) #[] #[]] 228, .row (svn) 230 3 (List.length (nXs ranks room xs o.2.1 o.2.2.1 o.2.2.2)) (List.flatMap pairLB (nXs ranks room xs o.2.1 o.2.2.1 o.2.2.2)), .blk g4 #[.slice none 0 0, .slice none 0 0, .int .i64 0, .int .i64 0, .int .i64 0, .int .i64 0, .int .i64 0] 124, .blk g3 #[.int .i64 o.1, .int .i64 o.2.1, .int .i64 o.2.2.1, .int .i64 o.2.2.2] 88, .blk g2 #[.int .i64 rL, .int .i64 rE] 78, .blk g1 #[rv, pv, .int .i64 pL, .int .i64 pE, .int .i64 0, .int .i64 0, .int .i64 ((room : Nat) : Int)] 124, .row (rv) 119 4 (List.length rs) (List.flatMap (dbL rL rE) rs), .row (pv) 206 5 (List.length xs) (List.flatMap (dpL pL pE) xs)]) (by kernel_rfl) (by kernel_rfl) (by kernel_rfl) hsShut (fun _ h => h.pick [0, 1, 2, 3, 4, 5, 6, 7, 9, 10, 11, 12, 13] _ (by decide) (by kernel_rfl)) H.drew ?_
            refine s_quiet 0 rfl (by kernel_rfl) (y_loadn (t := 124) 0 g8 0 #[u1, u2, .int .i64 pL, .int .i64 pE, .int .i64 0, .int .i64 0, .int .i64 ((room : Nat) : Int)] 124 [u1, u2, .int .i64 pL, .int .i64 pE, .int .i64 0, .int .i64 0, .int .i64 ((room : Nat) : Int)] (by kernel_rfl) (by kernel_rfl) (by kernel_rfl) (by kernel_rfl) (by kernel_rfl)) ?_
            refine s_quiet 1 rfl (by kernel_rfl) (y_val (.int .i64 0) (by kernel_rfl) (fun _ => by kernel_rfl)) ?_
            refine s_quiet 2 rfl (by kernel_rfl) (y_val (.bool true) (by kernel_rfl) (fun _ => by kernel_rfl)) ?_
            refine s_quiet 3 rfl (by kernel_rfl) (y_val (.bool true) (by kernel_rfl) (fun _ => by kernel_rfl)) ?_
            refine s_quiet 4 rfl (by kernel_rfl) (y_loadn (t := 90) 3 g7 0 #[.bool (nC1 rL ranks rs o.2.1 o.2.2.2), .bool (nC2 pL ranks xs o.2.1 o.2.2.1 o.2.2.2)] 90 [.bool (nC1 rL ranks rs o.2.1 o.2.2.2), .bool (nC2 pL ranks xs o.2.1 o.2.2.1 o.2.2.2)] (by kernel_rfl) (by kernel_rfl) (by kernel_rfl) (by kernel_rfl) (by kernel_rfl)) ?_
            refine s_quiet 5 rfl (by kernel_rfl) (y_val (.bool (nC1 rL ranks rs o.2.1 o.2.2.2)) (by kernel_rfl) (fun _ => by kernel_rfl)) ?_
            refine s_quiet 6 rfl (by kernel_rfl) (y_val (.bool (nC2 pL ranks xs o.2.1 o.2.2.1 o.2.2.2)) (by kernel_rfl) (fun _ => by kernel_rfl)) ?_
            refine s_quiet 7 rfl (by kernel_rfl) (y_val (.agg #[.bool (nC1 rL ranks rs o.2.1 o.2.2.2), .bool (nC2 pL ranks xs o.2.1 o.2.2.1 o.2.2.2)]) (by kernel_rfl) (fun _ => by kernel_rfl)) ?_
            have h57 : (((nC1 rL ranks rs o.2.1 o.2.2.2) == (nC1 rL ranks rs o.2.1 o.2.2.2)) && (((nC2 pL ranks xs o.2.1 o.2.2.1 o.2.2.2) == (nC2 pL ranks xs o.2.1 o.2.2.1 o.2.2.2)) && true)) = true := by simp
            refine s_quiet 8 rfl (by kernel_rfl) (y_val (.bool true) (by kernel_rfl) (fun _ => ((run_eqS (t := 90) (x := .tmp 73) (y := .tmp 76) (xs := #[.bool (nC1 rL ranks rs o.2.1 o.2.2.2), .bool (nC2 pL ranks xs o.2.1 o.2.2.1 o.2.2.2)]) (ys := #[.bool (nC1 rL ranks rs o.2.1 o.2.2.2), .bool (nC2 pL ranks xs o.2.1 o.2.2.1 o.2.2.2)]) (B := ((nC1 rL ranks rs o.2.1 o.2.2.2) == (nC1 rL ranks rs o.2.1 o.2.2.2)) && (((nC2 pL ranks xs o.2.1 o.2.2.1 o.2.2.2) == (nC2 pL ranks xs o.2.1 o.2.2.1 o.2.2.2)) && true)) (by kernel_rfl) (by kernel_rfl) (by kernel_rfl)).trans (by rw [h57]; try rfl)))) ?_
            refine s_quiet 9 rfl (by kernel_rfl) (y_val (.bool true) (by kernel_rfl) (fun _ => by kernel_rfl)) ?_
            refine s_one 10 rfl (by kernel_rfl) rfl ?_
            clear H
            intro v79 H
            have h58o := H.rowOne 1 rfl
            have h59o := H.rowOne 2 rfl
            refine x_store (t := 124) (v := .agg #[u1, u2, .int .i64 pL, .int .i64 pE, .int .i64 0, .int .i64 0, .int .i64 ((room : Nat) : Int)]) H 8 g4 0 _ #[u1, u2, .int .i64 pL, .int .i64 pE, .int .i64 0, .int .i64 0, .int .i64 ((room : Nat) : Int)] 124 [u1, u2, .int .i64 pL, .int .i64 pE, .int .i64 0, .int .i64 0, .int .i64 ((room : Nat) : Int)] _ rfl rfl (by kernel_rfl) (by simp only [List.all_cons, List.all_nil, h58o, h59o, Bool.and_true, Bool.true_and] <;> rfl) (by kernel_rfl) rfl (by kernel_rfl) (by kernel_rfl) (by kernel_rfl) (by kernel_rfl) ?_
            clear H
            intro v80 H
            refine x_nil ?_
            refine x_then ?_
            refine ⟨fun w' => Hs M w0 w' [.blk g8 #[u1, u2, .int .i64 pL, .int .i64 pE, .int .i64 0, .int .i64 0, .int .i64 ((room : Nat) : Int)] 124, .row (u1) 119 4 (List.length (nRs ranks rs o.2.1 o.2.2.2)) (List.flatMap (dbL rL rE) (nRs ranks rs o.2.1 o.2.2.2)), .row (u2) 206 5 (List.length (nXs ranks room xs o.2.1 o.2.2.1 o.2.2.2)) (List.flatMap (dpL pL pE) (nXs ranks room xs o.2.1 o.2.2.1 o.2.2.2)), .blk g7 #[.bool (nC1 rL ranks rs o.2.1 o.2.2.2), .bool (nC2 pL ranks xs o.2.1 o.2.2.1 o.2.2.2)] 90, .blk p #[.int .i64 rL, .int .i64 rE, .int .i64 pL, .int .i64 pE, .int .i64 ((room : Nat) : Int), .int .i64 hv, .slice (some ⟨gr, 0, none⟩) ranks ranks, .pointer (some ⟨t, 0, none⟩)] 187, .row (.slice (some ⟨gr, 0, none⟩) ranks ranks) 86 2 ranks (List.flatMap bukL (nRs ranks rs o.2.1 o.2.2.2)), .blk t #[svn, .int .i64 ((room : Nat) : Int), .func (.func 103) #[] #[]] 228, .row (svn) 230 3 (List.length (nXs ranks room xs o.2.1 o.2.2.1 o.2.2.2)) (List.flatMap pairLB (nXs ranks room xs o.2.1 o.2.2.1 o.2.2.2)), .blk g4 #[u1, u2, .int .i64 pL, .int .i64 pE, .int .i64 0, .int .i64 0, .int .i64 ((room : Nat) : Int)] 124, .blk g3 #[.int .i64 o.1, .int .i64 o.2.1, .int .i64 o.2.2.1, .int .i64 o.2.2.2] 88, .blk g2 #[.int .i64 rL, .int .i64 rE] 78, .blk g1 #[rv, pv, .int .i64 pL, .int .i64 pE, .int .i64 0, .int .i64 0, .int .i64 ((room : Nat) : Int)] 124, .row (rv) 119 4 (List.length rs) (List.flatMap (dbL rL rE) rs), .row (pv) 206 5 (List.length xs) (List.flatMap (dpL pL pE) xs)], fun w' => Hs M w0 w' [.blk g8 #[u1, u2, .int .i64 pL, .int .i64 pE, .int .i64 0, .int .i64 0, .int .i64 ((room : Nat) : Int)] 124, .row (u1) 119 4 (List.length (nRs ranks rs o.2.1 o.2.2.2)) (List.flatMap (dbL rL rE) (nRs ranks rs o.2.1 o.2.2.2)), .row (u2) 206 5 (List.length (nXs ranks room xs o.2.1 o.2.2.1 o.2.2.2)) (List.flatMap (dpL pL pE) (nXs ranks room xs o.2.1 o.2.2.1 o.2.2.2)), .blk g7 #[.bool (nC1 rL ranks rs o.2.1 o.2.2.2), .bool (nC2 pL ranks xs o.2.1 o.2.2.1 o.2.2.2)] 90, .blk p #[.int .i64 rL, .int .i64 rE, .int .i64 pL, .int .i64 pE, .int .i64 ((room : Nat) : Int), .int .i64 hv, .slice (some ⟨gr, 0, none⟩) ranks ranks, .pointer (some ⟨t, 0, none⟩)] 187, .row (.slice (some ⟨gr, 0, none⟩) ranks ranks) 86 2 ranks (List.flatMap bukL (nRs ranks rs o.2.1 o.2.2.2)), .blk t #[svn, .int .i64 ((room : Nat) : Int), .func (.func 103) #[] #[]] 228, .row (svn) 230 3 (List.length (nXs ranks room xs o.2.1 o.2.2.1 o.2.2.2)) (List.flatMap pairLB (nXs ranks room xs o.2.1 o.2.2.1 o.2.2.2)), .blk g4 #[u1, u2, .int .i64 pL, .int .i64 pE, .int .i64 0, .int .i64 0, .int .i64 ((room : Nat) : Int)] 124, .blk g3 #[.int .i64 o.1, .int .i64 o.2.1, .int .i64 o.2.2.1, .int .i64 o.2.2.2] 88, .blk g2 #[.int .i64 rL, .int .i64 rE] 78, .blk g1 #[rv, pv, .int .i64 pL, .int .i64 pE, .int .i64 0, .int .i64 0, .int .i64 ((room : Nat) : Int)] 124, .row (rv) 119 4 (List.length rs) (List.flatMap (dbL rL rE) rs), .row (pv) 206 5 (List.length xs) (List.flatMap (dpL pL pE) xs)], H, hsShut, fun _ h => h.pick [0, 1, 2, 3, 4, 5, 6, 7, 8, 9, 10, 11, 12, 13] _ (by decide) (by kernel_rfl), fun _ h => h.pick [0, 1, 2, 3, 4, 5, 6, 7, 9, 10, 11, 12, 13] _ (by decide) (by kernel_rfl), ?_⟩
            refine s_quiet 11 rfl (by kernel_rfl) (y_val (.bool true) (by kernel_rfl) (fun _ => by kernel_rfl)) ?_
            refine s_done (by kernel_rfl) ?_
            clear H
            intro v81 H
            refine x_frame' { tmps := #[.pointer (some ⟨p, 0, none⟩), .agg #[rv, pv, .int .i64 pL, .int .i64 pE, .int .i64 0, .int .i64 0, .int .i64 ((room : Nat) : Int)], .int .i64 ((ranks : Nat) : Int), .agg #[.int .i64 rL, .int .i64 rE], .agg #[.int .i64 o.1, .int .i64 o.2.1, .int .i64 o.2.2.1, .int .i64 o.2.2.2], undef, .pointer (some ⟨g1, 0, none⟩), undef, .pointer (some ⟨g2, 0, none⟩), .pointer (some ⟨g3, 0, none⟩), .pointer (some ⟨g4, 0, none⟩), .bool true, .bool true, .pointer (some ⟨g7, 0, none⟩), .int .i64 0, .pointer (some ⟨g8, 0, none⟩), .bool (nC1 rL ranks rs o.2.1 o.2.2.2), .bool (nC2 pL ranks xs o.2.1 o.2.2.1 o.2.2.2), .pointer (some ⟨g3, 1, none⟩), .int .i64 o.2.1, .bool true, .bool true, .pointer (some ⟨g3, 1, none⟩), .int .i64 o.2.1, .int .i64 ((ranks : Nat) : Int), .bool true, .bool true, .pointer (some ⟨g3, 0, none⟩), .int .i64 o.1, .bool true, .bool true, .tuple #[.agg #[.bool (nC1 rL ranks rs o.2.1 o.2.2.2), .bool (nC2 pL ranks xs o.2.1 o.2.2.1 o.2.2.2)], .int .i64 0], .pointer (some ⟨p, 0, none⟩), .pointer (some ⟨g3, 1, none⟩), .int .i64 o.2.1, .pointer (some ⟨g3, 2, none⟩), .int .i64 o.2.2.1, .pointer (some ⟨g3, 3, none⟩), .int .i64 o.2.2.2, .tuple #[.agg #[.bool (nC1 rL ranks rs o.2.1 o.2.2.2), .bool (nC2 pL ranks xs o.2.1 o.2.2.1 o.2.2.2)], .int .i64 0], .agg #[.bool (nC1 rL ranks rs o.2.1 o.2.2.2), .bool (nC2 pL ranks xs o.2.1 o.2.2.1 o.2.2.2)], .int .i64 0, .bool true, .bool false, .bool false, .pointer (some ⟨g3, 3, none⟩), .int .i64 o.2.2.2, .bool false, .bool false, undef, undef, undef, undef, undef, undef, undef, undef, .tuple #[.agg #[u1, u2, .int .i64 pL, .int .i64 pE, .int .i64 0, .int .i64 0, .int .i64 ((room : Nat) : Int)], .bool (nC1 rL ranks rs o.2.1 o.2.2.2), .bool (nC2 pL ranks xs o.2.1 o.2.2.1 o.2.2.2)], .agg #[rv, pv, .int .i64 pL, .int .i64 pE, .int .i64 0, .int .i64 0, .int .i64 ((room : Nat) : Int)], .pointer (some ⟨g3, 1, none⟩), .int .i64 o.2.1, .pointer (some ⟨g3, 2, none⟩), .int .i64 o.2.2.1, .pointer (some ⟨g3, 3, none⟩), .int .i64 o.2.2.2, .tuple #[.agg #[u1, u2, .int .i64 pL, .int .i64 pE, .int .i64 0, .int .i64 0, .int .i64 ((room : Nat) : Int)], .bool (nC1 rL ranks rs o.2.1 o.2.2.2), .bool (nC2 pL ranks xs o.2.1 o.2.2.1 o.2.2.2)], .agg #[u1, u2, .int .i64 pL, .int .i64 pE, .int .i64 0, .int .i64 0, .int .i64 ((room : Nat) : Int)], .bool (nC1 rL ranks rs o.2.1 o.2.2.2), .bool (nC2 pL ranks xs o.2.1 o.2.2.1 o.2.2.2), .agg #[u1, u2, .int .i64 pL, .int .i64 pE, .int .i64 0, .int .i64 0, .int .i64 ((room : Nat) : Int)], .int .i64 0, .bool true, .bool true, .agg #[.bool (nC1 rL ranks rs o.2.1 o.2.2.2), .bool (nC2 pL ranks xs o.2.1 o.2.2.1 o.2.2.2)], .bool (nC1 rL ranks rs o.2.1 o.2.2.2), .bool (nC2 pL ranks xs o.2.1 o.2.2.1 o.2.2.2), .agg #[.bool (nC1 rL ranks rs o.2.1 o.2.2.2), .bool (nC2 pL ranks xs o.2.1 o.2.2.1 o.2.2.2)], .bool true, .bool true, undef, undef, undef, undef, undef, undef, undef, undef, undef, undef, undef, undef, undef, undef, undef, undef, undef, undef, undef, undef, undef, undef, undef, undef, undef, undef, undef, undef, undef, undef, undef, undef, undef], defers := [] } (by kernel_rfl) ?_
            refine x_then ?_
            refine x_retc ?_
            refine x_blk_ret ?_
            refine x_then_ret ?_
            refine x_ret (.tuple #[.agg #[u1, u2, .int .i64 pL, .int .i64 pE, .int .i64 0, .int .i64 0, .int .i64 ((room : Nat) : Int)], .bool true]) (by kernel_rfl) (x_rescell H 8 g4 0 #[u1, u2, .int .i64 pL, .int .i64 pE, .int .i64 0, .int .i64 0, .int .i64 ((room : Nat) : Int)] 124 [u1, u2, .int .i64 pL, .int .i64 pE, .int .i64 0, .int .i64 0, .int .i64 ((room : Nat) : Int)] (fun x => .tuple #[x, .bool true]) (by kernel_rfl) (by kernel_rfl) (by kernel_rfl)) ?_
            replace H := H.pick [4, 5, 6, 7, 1, 2] [.blk p #[.int .i64 rL, .int .i64 rE, .int .i64 pL, .int .i64 pE, .int .i64 ((room : Nat) : Int), .int .i64 hv, .slice (some ⟨gr, 0, none⟩) ranks ranks, .pointer (some ⟨t, 0, none⟩)] 187, .row (.slice (some ⟨gr, 0, none⟩) ranks ranks) 86 2 ranks (List.flatMap bukL (nRs ranks rs o.2.1 o.2.2.2)), .blk t #[svn, .int .i64 ((room : Nat) : Int), .func (.func 103) #[] #[]] 228, .row (svn) 230 3 (List.length (nXs ranks room xs o.2.1 o.2.2.1 o.2.2.2)) (List.flatMap pairLB (nXs ranks room xs o.2.1 o.2.2.1 o.2.2.2)), .row (u1) 119 4 (List.length (nRs ranks rs o.2.1 o.2.2.2)) (List.flatMap (dbL rL rE) (nRs ranks rs o.2.1 o.2.2.2)), .row (u2) 206 5 (List.length (nXs ranks room xs o.2.1 o.2.2.1 o.2.2.2)) (List.flatMap (dpL pL pE) (nXs ranks room xs o.2.1 o.2.2.1 o.2.2.2))] (by decide) (by kernel_rfl)
            have e1 : stR ranks rE rs o = nRs ranks rs o.2.1 o.2.2.2 := by unfold stR; rw [if_pos (show o.1 = 1 by omega)]
            have e2 : stX ranks room pE xs o = nXs ranks room xs o.2.1 o.2.2.1 o.2.2.2 := by unfold stX; rw [if_pos (show o.1 = 1 by omega)]
            rw [e1, e2]
            exact ⟨(svn, u1, u2), rfl, H⟩
          · skip
            have h54p := of_decide_eq_true h54
            exact absurd h54p (by have := (nOk_at h46).2; omega)

end Go.Proofs.Ytgpalgbdacoagaa
