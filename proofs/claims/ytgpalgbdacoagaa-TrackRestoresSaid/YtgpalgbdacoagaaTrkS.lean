/- A tracker's state; a play; states that are alike. -/
import Derived.Test.YtgpalgbdacoagaaTrkQ
import Derived.Test.YtgpalgbdacoagaaPxG
namespace Go.Proofs.Ytgpalgbdacoagaa
open Go Go.RowKit
set_option linter.unusedVariables false
set_option linter.unusedSimpArgs false

set_option maxRecDepth 100000 in
set_option maxHeartbeats 4000000 in
theorem Clone_of {gr ranks : Nat} {rs : List Buk} (h1 : 1 ≤ ranks) (h8 : ranks ≤ 8) (w0 : World) (hR : Ro w0 [.row (.slice (some ⟨gr, 0, none⟩) ranks ranks) 86 2 ranks (List.flatMap bukL rs)]) :
    Calls Try.prog 137 #[.slice (some ⟨gr, 0, none⟩) ranks ranks] w0 fun e w' => ∃ u c, e = .returned (.slice (some ⟨u, 0, none⟩) ranks c) ∧ Hs [] w0 w' [.row (.slice (some ⟨u, 0, none⟩) ranks c) 86 2 ranks (List.flatMap bukL rs)] := by
  refine x_enter Try.func137 rfl #[.slice (some ⟨gr, 0, none⟩) ranks ranks, undef, undef, undef, undef, undef, undef, undef] (by kernel_rfl) ?_
  have H := Hs.nil w0
  have R0 := hR
  refine x_seq ?_
  refine x_region ?_
  refine x_val (.slice none 0 0) (by kernel_rfl) rfl (by kernel_rfl) ?_
  refine x_nil ?_
  refine x_then ?_
  refine x_seq ?_
  refine x_seq ?_
  refine x_region ?_
  refine x_val (.slice (some ⟨gr, 0, none⟩) ranks ranks) (by kernel_rfl) rfl (by kernel_rfl) ?_
  refine x_val (.bool false) (by kernel_rfl) rfl (by kernel_rfl) ?_
  refine x_nil ?_
  refine x_then ?_
  refine x_f (by kernel_rfl) ?_
  refine x_skipc ?_
  refine x_then ?_
  refine x_seq ?_
  refine x_region ?_
  refine x_box' H #[] 86 0 (by kernel_rfl) rfl (by kernel_rfl) ?_
  clear H
  intro v1 g1 H
  refine x_val (.slice (some ⟨gr, 0, none⟩) ranks ranks) (by kernel_rfl) rfl (by kernel_rfl) ?_
  replace H : Hs [] w0 _ [.row (.slice (some ⟨g1, 0, none⟩) 0 0) 86 2 0 (List.flatMap bukL ([] : List Buk))] := H.row0 0 rfl
  refine x_appendSrc H 0 (.slice (some ⟨g1, 0, none⟩) 0 0) 145 86 2 16 0 (.agg #[.int .i64 0, .int .i64 0]) (List.flatMap bukL ([] : List Buk)) (.slice (some ⟨gr, 0, none⟩) ranks ranks) ranks (List.flatMap bukL rs) rfl (src_row (((H.ro R0) 0 _ rfl : Go.World.ownsRow _ 0 86 2 _ _ _))) (by kernel_rfl) (by kernel_rfl) (by kernel_rfl) (by decide) (oneCellFlat bukOne _) (by unfold maxLen; omega) (by omega) (by kernel_rfl) rfl (by kernel_rfl) ?_
  clear H
  intro v2 vr7 H
  rw [show (List.flatMap bukL ([] : List Buk)) ++ (List.flatMap bukL rs) = (List.flatMap bukL rs) from (by simp)] at H
  rw [show (0 + ranks : Nat) = ranks from (by simp)] at H
  replace H : Hs [] w0 v2 [.row (vr7) 86 2 ranks (List.flatMap bukL rs)] := H
  rcases H.rowForm 0 rfl with ⟨rfl, h0⟩ | ⟨gz1, cz1, rfl, hcz1, -⟩
  · exfalso; omega
  refine x_val (.slice (some ⟨gz1, 0, none⟩) ranks cz1) (by kernel_rfl) rfl (by kernel_rfl) ?_
  refine x_nil ?_
  refine x_then ?_
  refine x_retc ?_
  refine x_ret (.slice (some ⟨gz1, 0, none⟩) ranks cz1) (by kernel_rfl) (by kernel_rfl) ?_
  exact ⟨_, _, rfl, H.pick [0] _ (by decide) (by kernel_rfl)⟩

set_option maxRecDepth 100000 in
set_option maxHeartbeats 4000000 in
theorem TState_of {M : List Nat} {p t gr : Nat} {sv : Value} {rs : List Buk} {xs : List PairB} {ranks room : Nat} {rL rE pL pE hv : Int} (hxs : xs.length ≤ 256) (h1 : 1 ≤ ranks) (h8 : ranks ≤ 8) (w0 : World) (H0 : Hs M w0 w0 [.blk p #[.int .i64 rL, .int .i64 rE, .int .i64 pL, .int .i64 pE, .int .i64 ((room : Nat) : Int), .int .i64 hv, .slice (some ⟨gr, 0, none⟩) ranks ranks, .pointer (some ⟨t, 0, none⟩)] 187, .row (.slice (some ⟨gr, 0, none⟩) ranks ranks) 86 2 ranks (List.flatMap bukL rs), .blk t #[sv, .int .i64 ((room : Nat) : Int), .func (.func 103) #[] #[]] 228, .row (sv) 230 3 (List.length xs) (List.flatMap pairLB xs)]) :
    Calls Try.prog 79 #[.pointer (some ⟨p, 0, none⟩)] w0 fun e w' => ∃ z : Value × Value × Value, e = .returned (.agg #[z.1, z.2.1, z.2.2]) ∧ Hs M w0 w' [.blk p #[.int .i64 rL, .int .i64 rE, .int .i64 pL, .int .i64 pE, .int .i64 ((room : Nat) : Int), .int .i64 hv, .slice (some ⟨gr, 0, none⟩) ranks ranks, .pointer (some ⟨t, 0, none⟩)] 187, .row (.slice (some ⟨gr, 0, none⟩) ranks ranks) 86 2 ranks (List.flatMap bukL rs), .blk t #[sv, .int .i64 ((room : Nat) : Int), .func (.func 103) #[] #[]] 228, .row (sv) 230 3 (List.length xs) (List.flatMap pairLB xs), .row (z.1) 86 2 ranks (List.flatMap bukL rs), .row (z.2.1) 3 1 (List.length xs) (List.map (Value.int .i64) (List.map Prod.fst xs)), .row (z.2.2) 86 2 (List.length xs) (List.flatMap bukL (List.map Prod.snd xs))] := by
  refine x_enterM Try.func79 rfl #[.pointer (some ⟨p, 0, none⟩), undef, undef, undef, undef, undef, undef, undef, undef, undef, undef, undef, undef, undef, undef, undef, undef, undef, undef, undef, undef, undef, undef, undef, undef, undef, undef, undef, undef, undef, undef, undef] (by kernel_rfl) ?_
  have H := H0
  refine x_seq ?_
  refine x_region ?_
  refine x_box H #[.slice none 0 0, .slice none 0 0, .slice none 0 0] 147 (by kernel_rfl) rfl (by kernel_rfl) ?_
  clear H
  intro v1 g1 H
  refine x_nil ?_
  refine x_then ?_
  refine x_seq ?_
  refine x_region ?_
  refine x_val (.pointer (some ⟨p, 0, none⟩)) (by kernel_rfl) rfl (by kernel_rfl) ?_
  refine x_val (.pointer (some ⟨p, 0, none⟩)) (by kernel_rfl) rfl (by kernel_rfl) ?_
  refine x_val (.pointer (some ⟨p, 6, none⟩)) (by kernel_rfl) rfl (by kernel_rfl) ?_
  refine x_load1 H 1 p 6 _ _ (.slice (some ⟨gr, 0, none⟩) ranks ranks) rfl (by kernel_rfl) (by kernel_rfl) rfl (by kernel_rfl) ?_
  refine x_call (by kernel_rfl) rfl (by kernel_rfl) (Clone_of h1 h8 _ (H.roOf [2] [.row (.slice (some ⟨gr, 0, none⟩) ranks ranks) 86 2 ranks (List.flatMap bukL rs)] (by kernel_rfl))) ?_
  rintro _ v2 ⟨gv, cv, rfl, hN'⟩
  refine ⟨_, rfl, ?_⟩
  replace H := H.more hN'
  clear hN'
  replace H : Hs M w0 _ [.row (.slice (some ⟨gv, 0, none⟩) ranks cv) 86 2 ranks (List.flatMap bukL rs), .blk g1 #[.slice none 0 0, .slice none 0 0, .slice none 0 0] 147, .blk p #[.int .i64 rL, .int .i64 rE, .int .i64 pL, .int .i64 pE, .int .i64 ((room : Nat) : Int), .int .i64 hv, .slice (some ⟨gr, 0, none⟩) ranks ranks, .pointer (some ⟨t, 0, none⟩)] 187, .row (.slice (some ⟨gr, 0, none⟩) ranks ranks) 86 2 ranks (List.flatMap bukL rs), .blk t #[sv, .int .i64 ((room : Nat) : Int), .func (.func 103) #[] #[]] 228, .row (sv) 230 3 (List.length xs) (List.flatMap pairLB xs)] := H
  refine x_val (.agg #[.slice (some ⟨gv, 0, none⟩) ranks cv, .slice none 0 0, .slice none 0 0]) (by kernel_rfl) rfl (by kernel_rfl) ?_
  refine x_box H #[.slice none 0 0, .slice none 0 0, .slice none 0 0] 147 (by kernel_rfl) rfl (by kernel_rfl) ?_
  clear H
  intro v3 g2 H
  refine x_store (t := 147) (v := .agg #[.slice (some ⟨gv, 0, none⟩) ranks cv, .slice none 0 0, .slice none 0 0]) H 0 g2 0 _ #[.slice (some ⟨gv, 0, none⟩) ranks cv, .slice none 0 0, .slice none 0 0] 147 [.slice (some ⟨gv, 0, none⟩) ranks cv, .slice none 0 0, .slice none 0 0] _ rfl rfl (by kernel_rfl) (by kernel_rfl) (by kernel_rfl) rfl (by kernel_rfl) (by kernel_rfl) (by kernel_rfl) (by kernel_rfl) ?_
  clear H
  intro v4 H
  refine x_nil ?_
  refine x_then ?_
  refine x_seq ?_
  refine x_seq ?_
  refine x_region ?_
  refine x_val (.pointer (some ⟨p, 0, none⟩)) (by kernel_rfl) rfl (by kernel_rfl) ?_
  refine x_val (.pointer (some ⟨p, 0, none⟩)) (by kernel_rfl) rfl (by kernel_rfl) ?_
  refine x_val (.pointer (some ⟨p, 7, none⟩)) (by kernel_rfl) rfl (by kernel_rfl) ?_
  refine x_load1 H 3 p 7 _ _ (.pointer (some ⟨t, 0, none⟩)) rfl (by kernel_rfl) (by kernel_rfl) rfl (by kernel_rfl) ?_
  refine x_call (by kernel_rfl) rfl (by kernel_rfl) (TAllB_of t _) ?_
  rintro _ v5 ⟨q, rfl, hN'⟩
  refine ⟨_, rfl, ?_⟩
  replace H := H.more hN'
  clear hN'
  replace H : Hs M w0 _ [.blk q #[.pointer (some ⟨t, 0, none⟩)] 182, .blk g2 #[.slice (some ⟨gv, 0, none⟩) ranks cv, .slice none 0 0, .slice none 0 0] 147, .row (.slice (some ⟨gv, 0, none⟩) ranks cv) 86 2 ranks (List.flatMap bukL rs), .blk g1 #[.slice none 0 0, .slice none 0 0, .slice none 0 0] 147, .blk p #[.int .i64 rL, .int .i64 rE, .int .i64 pL, .int .i64 pE, .int .i64 ((room : Nat) : Int), .int .i64 hv, .slice (some ⟨gr, 0, none⟩) ranks ranks, .pointer (some ⟨t, 0, none⟩)] 187, .row (.slice (some ⟨gr, 0, none⟩) ranks ranks) 86 2 ranks (List.flatMap bukL rs), .blk t #[sv, .int .i64 ((room : Nat) : Int), .func (.func 103) #[] #[]] 228, .row (sv) 230 3 (List.length xs) (List.flatMap pairLB xs)] := H
  refine x_nil ?_
  refine x_then ?_
  refine x_block ?_
  replace H := H.nilRow 3 1
  replace H := H.nilRow 86 2
  replace H : Hs M w0 _ [.row (.slice none 0 0) 86 2 (List.length ([] : List PairB)) (List.flatMap bukL (List.map Prod.snd ([] : List PairB))), .row (.slice none 0 0) 3 1 (List.length ([] : List PairB)) (List.map (Value.int .i64) (List.map Prod.fst ([] : List PairB))), .blk q #[.pointer (some ⟨t, 0, none⟩)] 182, .blk g2 #[.slice (some ⟨gv, 0, none⟩) ranks cv, .slice none 0 0, .slice none 0 0] 147, .row (.slice (some ⟨gv, 0, none⟩) ranks cv) 86 2 ranks (List.flatMap bukL rs), .blk g1 #[.slice none 0 0, .slice none 0 0, .slice none 0 0] 147, .blk p #[.int .i64 rL, .int .i64 rE, .int .i64 pL, .int .i64 pE, .int .i64 ((room : Nat) : Int), .int .i64 hv, .slice (some ⟨gr, 0, none⟩) ranks ranks, .pointer (some ⟨t, 0, none⟩)] 187, .row (.slice (some ⟨gr, 0, none⟩) ranks ranks) 86 2 ranks (List.flatMap bukL rs), .blk t #[sv, .int .i64 ((room : Nat) : Int), .func (.func 103) #[] #[]] 228, .row (sv) 230 3 (List.length xs) (List.flatMap pairLB xs)] := H
  replace H := H.pick [3, 2, 6, 7, 8, 9, 4, 1, 0, 5] [.blk g2 #[.slice (some ⟨gv, 0, none⟩) ranks cv, .slice none 0 0, .slice none 0 0] 147, .blk q #[.pointer (some ⟨t, 0, none⟩)] 182, .blk p #[.int .i64 rL, .int .i64 rE, .int .i64 pL, .int .i64 pE, .int .i64 ((room : Nat) : Int), .int .i64 hv, .slice (some ⟨gr, 0, none⟩) ranks ranks, .pointer (some ⟨t, 0, none⟩)] 187, .row (.slice (some ⟨gr, 0, none⟩) ranks ranks) 86 2 ranks (List.flatMap bukL rs), .blk t #[sv, .int .i64 ((room : Nat) : Int), .func (.func 103) #[] #[]] 228, .row (sv) 230 3 (List.length xs) (List.flatMap pairLB xs), .row (.slice (some ⟨gv, 0, none⟩) ranks cv) 86 2 ranks (List.flatMap bukL rs), .row (.slice none 0 0) 3 1 (List.length ([] : List PairB)) (List.map (Value.int .i64) (List.map Prod.fst ([] : List PairB))), .row (.slice none 0 0) 86 2 (List.length ([] : List PairB)) (List.flatMap bukL (List.map Prod.snd ([] : List PairB))), .blk g1 #[.slice none 0 0, .slice none 0 0, .slice none 0 0] 147] (by decide) (by kernel_rfl)
  replace H : Hs M w0 _ [.blk g2 #[.slice (some ⟨gv, 0, none⟩) ranks cv, .slice none 0 0, .slice none 0 0] 147, .blk q #[.pointer (some ⟨t, 0, none⟩)] 182, .blk p #[.int .i64 rL, .int .i64 rE, .int .i64 pL, .int .i64 pE, .int .i64 ((room : Nat) : Int), .int .i64 hv, .slice (some ⟨gr, 0, none⟩) ranks ranks, .pointer (some ⟨t, 0, none⟩)] 187, .row (.slice (some ⟨gr, 0, none⟩) ranks ranks) 86 2 ranks (List.flatMap bukL rs), .blk t #[sv, .int .i64 ((room : Nat) : Int), .func (.func 103) #[] #[]] 228, .row (sv) 230 3 (List.length xs) (List.flatMap pairLB xs), .row (.slice (some ⟨gv, 0, none⟩) ranks cv) 86 2 ranks (List.flatMap bukL rs), .row (.slice none 0 0) 3 1 (List.length ([] : List PairB)) (List.map (Value.int .i64) (List.map Prod.fst ([] : List PairB))), .row (.slice none 0 0) 86 2 (List.length ([] : List PairB)) (List.flatMap bukL (List.map Prod.snd ([] : List PairB))), .blk g1 #[.slice none 0 0, .slice none 0 0, .slice none 0 0] 147] := H
  refine x_range4 (α := PairB) (G := Value × Value) xs (fun x => #[.int .i64 x.1, .agg #[.int .i64 x.2.1, .int .i64 x.2.2]]) [.blk q #[.pointer (some ⟨t, 0, none⟩)] 182, .blk t #[sv, .int .i64 ((room : Nat) : Int), .func (.func 103) #[] #[]] 228, .row (sv) 230 3 (List.length xs) (List.flatMap pairLB xs)] [1, 4, 5] (fun pre gh => match gh with | (sp, sb) => True) (fun pre gh => match gh with | (sp, sb) => [.blk g2 #[.slice (some ⟨gv, 0, none⟩) ranks cv, sp, sb] 147, .blk q #[.pointer (some ⟨t, 0, none⟩)] 182, .blk p #[.int .i64 rL, .int .i64 rE, .int .i64 pL, .int .i64 pE, .int .i64 ((room : Nat) : Int), .int .i64 hv, .slice (some ⟨gr, 0, none⟩) ranks ranks, .pointer (some ⟨t, 0, none⟩)] 187, .row (.slice (some ⟨gr, 0, none⟩) ranks ranks) 86 2 ranks (List.flatMap bukL rs), .blk t #[sv, .int .i64 ((room : Nat) : Int), .func (.func 103) #[] #[]] 228, .row (sv) 230 3 (List.length xs) (List.flatMap pairLB xs), .row (.slice (some ⟨gv, 0, none⟩) ranks cv) 86 2 ranks (List.flatMap bukL rs), .row (sp) 3 1 (List.length pre) (List.map (Value.int .i64) (List.map Prod.fst pre)), .row (sb) 86 2 (List.length pre) (List.flatMap bukL (List.map Prod.snd pre)), .blk g1 #[.slice none 0 0, .slice none 0 0, .slice none 0 0] 147]) (fun cd pre gh => match gh with | (sp, sb) => False) (fun x => #[.int .i64 x.2.1, .int .i64 x.2.2]) 86 (fun x b => { tmps := #[.pointer (some ⟨p, 0, none⟩), undef, .pointer (some ⟨g1, 0, none⟩), .pointer (some ⟨g2, 0, none⟩), .int .i64 x.1, .pointer (some ⟨b, 0, none⟩), .pointer (some ⟨p, 0, none⟩), .pointer (some ⟨p, 0, none⟩), .pointer (some ⟨p, 6, none⟩), .slice (some ⟨gr, 0, none⟩) ranks ranks, .slice (some ⟨gv, 0, none⟩) ranks cv, .agg #[.slice (some ⟨gv, 0, none⟩) ranks cv, .slice none 0 0, .slice none 0 0], .pointer (some ⟨p, 0, none⟩), .pointer (some ⟨p, 0, none⟩), .pointer (some ⟨p, 7, none⟩), .pointer (some ⟨t, 0, none⟩), .func (.func 167) #[] #[.pointer (some ⟨q, 0, none⟩)], .int .i64 x.1, .agg #[.int .i64 x.2.1, .int .i64 x.2.2], undef, undef, undef, undef, undef, undef, undef, undef, undef, undef, undef, undef, undef], defers := [] }) ((.slice none 0 0), (.slice none 0 0)) (by kernel_rfl) (enters_of Try.func167 (by kernel_rfl) rfl) (tvalsB_of (by omega) _ (H.roOf [1, 4, 5] _ (by kernel_rfl))) (fun _ => rfl) rfl (by rintro _ ⟨sp, sb⟩; rfl) (by rintro _ ⟨sp, sb⟩; rfl) H trivial ?_ (by rintro pre ⟨sp, sb⟩ pre2 ⟨sp2, sb2⟩ W h1 h2; have e := (h1.blk 0 rfl).symm.trans (h2.blk 0 rfl); simp only [Option.some.injEq, Obj.cells.injEq, Array.mk.injEq, List.cons.injEq, and_true, true_and] at e; obtain ⟨rfl, rfl⟩ := e; rfl) ?_ ?_ ?_
  · skip
    clear H
    rintro lrnd pre x ⟨sp, sb⟩ W1 hI H
    refine x_at (b := { tmps := #[.pointer (some ⟨p, 0, none⟩), undef, .pointer (some ⟨g1, 0, none⟩), .pointer (some ⟨g2, 0, none⟩), undef, undef, .pointer (some ⟨p, 0, none⟩), .pointer (some ⟨p, 0, none⟩), .pointer (some ⟨p, 6, none⟩), .slice (some ⟨gr, 0, none⟩) ranks ranks, .slice (some ⟨gv, 0, none⟩) ranks cv, .agg #[.slice (some ⟨gv, 0, none⟩) ranks cv, .slice none 0 0, .slice none 0 0], .pointer (some ⟨p, 0, none⟩), .pointer (some ⟨p, 0, none⟩), .pointer (some ⟨p, 7, none⟩), .pointer (some ⟨t, 0, none⟩), .func (.func 167) #[] #[.pointer (some ⟨q, 0, none⟩)], .int .i64 x.1, .agg #[.int .i64 x.2.1, .int .i64 x.2.2], undef, undef, undef, undef, undef, undef, undef, undef, undef, undef, undef, undef, undef], defers := [] }) (by kernel_rfl) ?_
    refine x_seq ?_
    refine x_region ?_
    refine x_val (.int .i64 x.1) (by kernel_rfl) rfl (by kernel_rfl) ?_
    refine x_nil ?_
    refine x_then ?_
    refine x_region ?_
    refine x_box H #[.int .i64 0, .int .i64 0] 86 (by kernel_rfl) rfl (by kernel_rfl) ?_
    clear H
    intro v6 g3 H
    refine x_store (t := 86) (v := .agg #[.int .i64 x.2.1, .int .i64 x.2.2]) H 0 g3 0 _ #[.int .i64 x.2.1, .int .i64 x.2.2] 86 [.int .i64 x.2.1, .int .i64 x.2.2] _ rfl rfl (by kernel_rfl) (by kernel_rfl) (by kernel_rfl) rfl (by kernel_rfl) (by kernel_rfl) (by kernel_rfl) (by kernel_rfl) ?_
    clear H
    intro v7 H
    refine x_nil ?_
    refine x_then ?_
    exact ⟨g3, (by kernel_rfl), H⟩
  · skip
    clear H
    rintro lrnd pre x ⟨sp, sb⟩ b W1 hI hlen H
    replace H : Hs (fps [.blk b #[.int .i64 x.2.1, .int .i64 x.2.2] 86, .blk g2 #[.slice (some ⟨gv, 0, none⟩) ranks cv, sp, sb] 147, .blk q #[.pointer (some ⟨t, 0, none⟩)] 182, .blk p #[.int .i64 rL, .int .i64 rE, .int .i64 pL, .int .i64 pE, .int .i64 ((room : Nat) : Int), .int .i64 hv, .slice (some ⟨gr, 0, none⟩) ranks ranks, .pointer (some ⟨t, 0, none⟩)] 187, .row (.slice (some ⟨gr, 0, none⟩) ranks ranks) 86 2 ranks (List.flatMap bukL rs), .blk t #[sv, .int .i64 ((room : Nat) : Int), .func (.func 103) #[] #[]] 228, .row (sv) 230 3 (List.length xs) (List.flatMap pairLB xs), .row (.slice (some ⟨gv, 0, none⟩) ranks cv) 86 2 ranks (List.flatMap bukL rs), .row (sp) 3 1 (List.length pre) (List.map (Value.int .i64) (List.map Prod.fst pre)), .row (sb) 86 2 (List.length pre) (List.flatMap bukL (List.map Prod.snd pre)), .blk g1 #[.slice none 0 0, .slice none 0 0, .slice none 0 0] 147]) W1 W1 [.blk b #[.int .i64 x.2.1, .int .i64 x.2.2] 86, .blk g2 #[.slice (some ⟨gv, 0, none⟩) ranks cv, sp, sb] 147, .blk q #[.pointer (some ⟨t, 0, none⟩)] 182, .blk p #[.int .i64 rL, .int .i64 rE, .int .i64 pL, .int .i64 pE, .int .i64 ((room : Nat) : Int), .int .i64 hv, .slice (some ⟨gr, 0, none⟩) ranks ranks, .pointer (some ⟨t, 0, none⟩)] 187, .row (.slice (some ⟨gr, 0, none⟩) ranks ranks) 86 2 ranks (List.flatMap bukL rs), .blk t #[sv, .int .i64 ((room : Nat) : Int), .func (.func 103) #[] #[]] 228, .row (sv) 230 3 (List.length xs) (List.flatMap pairLB xs), .row (.slice (some ⟨gv, 0, none⟩) ranks cv) 86 2 ranks (List.flatMap bukL rs), .row (sp) 3 1 (List.length pre) (List.map (Value.int .i64) (List.map Prod.fst pre)), .row (sb) 86 2 (List.length pre) (List.flatMap bukL (List.map Prod.snd pre)), .blk g1 #[.slice none 0 0, .slice none 0 0, .slice none 0 0] 147] := H
    refine x_block ?_
    refine x_seq ?_
    refine x_region ?_
    refine x_val (.pointer (some ⟨g2, 1, none⟩)) (by kernel_rfl) rfl (by kernel_rfl) ?_
    refine x_load1 H 1 g2 1 _ _ (sp) rfl (by kernel_rfl) (by kernel_rfl) rfl (by kernel_rfl) ?_
    refine x_val (.int .i64 x.1) (by kernel_rfl) rfl (by kernel_rfl) ?_
    refine x_box' H #[.int .i64 x.1] 3 1 (by kernel_rfl) rfl (by kernel_rfl) ?_
    clear H
    intro v8 g4 H
    refine x_append H 9 (sp) 106 3 1 8 (List.length pre) (.int .i64 0) (List.map (Value.int .i64) (List.map Prod.fst pre)) ⟨g4, 0, none⟩ 1 1 [.int .i64 x.1] rfl (by kernel_rfl) (by kernel_rfl) rfl (by decide) (by decide) rfl (fun j u hj => by rw [add_none]; exact cellOf (H.blk 0 rfl) (by simpa using hj)) (List.all_eq_true.1 (by kernel_rfl)) (by unfold maxLen; omega) (by omega) (by kernel_rfl) rfl (by kernel_rfl) ?_
    clear H
    intro v9 g5 c5 hc5 H
    rw [show (((List.length pre) + 1) : Nat) = (List.length (pre ++ [x])) from (by simp)] at H ⊢
    rw [show (List.map (Value.int .i64) (List.map Prod.fst pre)) ++ [.int .i64 x.1] = (List.map (Value.int .i64) (List.map Prod.fst (pre ++ [x]))) from (by rw [List.map_append, List.map_append]; rfl)] at H
    replace H : Hs (fps [.blk b #[.int .i64 x.2.1, .int .i64 x.2.2] 86, .blk g2 #[.slice (some ⟨gv, 0, none⟩) ranks cv, sp, sb] 147, .blk q #[.pointer (some ⟨t, 0, none⟩)] 182, .blk p #[.int .i64 rL, .int .i64 rE, .int .i64 pL, .int .i64 pE, .int .i64 ((room : Nat) : Int), .int .i64 hv, .slice (some ⟨gr, 0, none⟩) ranks ranks, .pointer (some ⟨t, 0, none⟩)] 187, .row (.slice (some ⟨gr, 0, none⟩) ranks ranks) 86 2 ranks (List.flatMap bukL rs), .blk t #[sv, .int .i64 ((room : Nat) : Int), .func (.func 103) #[] #[]] 228, .row (sv) 230 3 (List.length xs) (List.flatMap pairLB xs), .row (.slice (some ⟨gv, 0, none⟩) ranks cv) 86 2 ranks (List.flatMap bukL rs), .row (sp) 3 1 (List.length pre) (List.map (Value.int .i64) (List.map Prod.fst pre)), .row (sb) 86 2 (List.length pre) (List.flatMap bukL (List.map Prod.snd pre)), .blk g1 #[.slice none 0 0, .slice none 0 0, .slice none 0 0] 147]) W1 v9 [.blk g4 #[.int .i64 x.1] 3, .blk b #[.int .i64 x.2.1, .int .i64 x.2.2] 86, .blk g2 #[.slice (some ⟨gv, 0, none⟩) ranks cv, sp, sb] 147, .blk q #[.pointer (some ⟨t, 0, none⟩)] 182, .blk p #[.int .i64 rL, .int .i64 rE, .int .i64 pL, .int .i64 pE, .int .i64 ((room : Nat) : Int), .int .i64 hv, .slice (some ⟨gr, 0, none⟩) ranks ranks, .pointer (some ⟨t, 0, none⟩)] 187, .row (.slice (some ⟨gr, 0, none⟩) ranks ranks) 86 2 ranks (List.flatMap bukL rs), .blk t #[sv, .int .i64 ((room : Nat) : Int), .func (.func 103) #[] #[]] 228, .row (sv) 230 3 (List.length xs) (List.flatMap pairLB xs), .row (.slice (some ⟨gv, 0, none⟩) ranks cv) 86 2 ranks (List.flatMap bukL rs), .row (.slice (some ⟨g5, 0, none⟩) (List.length (pre ++ [x])) c5) 3 1 (List.length (pre ++ [x])) (List.map (Value.int .i64) (List.map Prod.fst (pre ++ [x]))), .row (sb) 86 2 (List.length pre) (List.flatMap bukL (List.map Prod.snd pre)), .blk g1 #[.slice none 0 0, .slice none 0 0, .slice none 0 0] 147] := H
    replace H := H.pick [1, 2, 3, 4, 5, 6, 7, 8, 9, 10, 11] [.blk b #[.int .i64 x.2.1, .int .i64 x.2.2] 86, .blk g2 #[.slice (some ⟨gv, 0, none⟩) ranks cv, sp, sb] 147, .blk q #[.pointer (some ⟨t, 0, none⟩)] 182, .blk p #[.int .i64 rL, .int .i64 rE, .int .i64 pL, .int .i64 pE, .int .i64 ((room : Nat) : Int), .int .i64 hv, .slice (some ⟨gr, 0, none⟩) ranks ranks, .pointer (some ⟨t, 0, none⟩)] 187, .row (.slice (some ⟨gr, 0, none⟩) ranks ranks) 86 2 ranks (List.flatMap bukL rs), .blk t #[sv, .int .i64 ((room : Nat) : Int), .func (.func 103) #[] #[]] 228, .row (sv) 230 3 (List.length xs) (List.flatMap pairLB xs), .row (.slice (some ⟨gv, 0, none⟩) ranks cv) 86 2 ranks (List.flatMap bukL rs), .row (.slice (some ⟨g5, 0, none⟩) (List.length (pre ++ [x])) c5) 3 1 (List.length (pre ++ [x])) (List.map (Value.int .i64) (List.map Prod.fst (pre ++ [x]))), .row (sb) 86 2 (List.length pre) (List.flatMap bukL (List.map Prod.snd pre)), .blk g1 #[.slice none 0 0, .slice none 0 0, .slice none 0 0] 147] (by decide) (by kernel_rfl)
    refine x_val (.pointer (some ⟨g2, 1, none⟩)) (by kernel_rfl) rfl (by kernel_rfl) ?_
    refine x_store (t := 106) (v := .slice (some ⟨g5, 0, none⟩) (List.length (pre ++ [x])) c5) H 1 g2 1 _ #[.slice (some ⟨gv, 0, none⟩) ranks cv, .slice (some ⟨g5, 0, none⟩) (List.length (pre ++ [x])) c5, sb] 147 [.slice (some ⟨g5, 0, none⟩) (List.length (pre ++ [x])) c5] _ rfl rfl (by kernel_rfl) (by kernel_rfl) (by kernel_rfl) rfl (by kernel_rfl) (by kernel_rfl) (by kernel_rfl) (by kernel_rfl) ?_
    clear H
    intro v10 H
    refine x_nil ?_
    refine x_then ?_
    refine x_region ?_
    refine x_val (.pointer (some ⟨g2, 2, none⟩)) (by kernel_rfl) rfl (by kernel_rfl) ?_
    refine x_load1 H 1 g2 2 _ _ (sb) rfl (by kernel_rfl) (by kernel_rfl) rfl (by kernel_rfl) ?_
    refine x_loadn (t := 86) H 0 b 0 _ _ [.int .i64 x.2.1, .int .i64 x.2.2] rfl (by kernel_rfl) (by kernel_rfl) rfl (by kernel_rfl) (by kernel_rfl) ?_
    refine x_box' H #[.int .i64 x.2.1, .int .i64 x.2.2] 86 1 (by kernel_rfl) rfl (by kernel_rfl) ?_
    clear H
    intro v11 g6 H
    refine x_append H 10 (sb) 145 86 2 16 (List.length pre) (.agg #[.int .i64 0, .int .i64 0]) (List.flatMap bukL (List.map Prod.snd pre)) ⟨g6, 0, none⟩ 1 1 [.int .i64 x.2.1, .int .i64 x.2.2] rfl (by kernel_rfl) (by kernel_rfl) rfl (by decide) (by decide) rfl (fun j u hj => by rw [add_none]; exact cellOf (H.blk 0 rfl) (by simpa using hj)) (List.all_eq_true.1 (by kernel_rfl)) (by unfold maxLen; omega) (by omega) (by kernel_rfl) rfl (by kernel_rfl) ?_
    clear H
    intro v12 g7 c7 hc7 H
    rw [show (((List.length pre) + 1) : Nat) = (List.length (pre ++ [x])) from (by simp)] at H ⊢
    rw [show (List.flatMap bukL (List.map Prod.snd pre)) ++ [.int .i64 x.2.1, .int .i64 x.2.2] = (List.flatMap bukL (List.map Prod.snd (pre ++ [x]))) from (by rw [List.map_append, List.flatMap_append]; rfl)] at H
    replace H : Hs (fps [.blk b #[.int .i64 x.2.1, .int .i64 x.2.2] 86, .blk g2 #[.slice (some ⟨gv, 0, none⟩) ranks cv, sp, sb] 147, .blk q #[.pointer (some ⟨t, 0, none⟩)] 182, .blk p #[.int .i64 rL, .int .i64 rE, .int .i64 pL, .int .i64 pE, .int .i64 ((room : Nat) : Int), .int .i64 hv, .slice (some ⟨gr, 0, none⟩) ranks ranks, .pointer (some ⟨t, 0, none⟩)] 187, .row (.slice (some ⟨gr, 0, none⟩) ranks ranks) 86 2 ranks (List.flatMap bukL rs), .blk t #[sv, .int .i64 ((room : Nat) : Int), .func (.func 103) #[] #[]] 228, .row (sv) 230 3 (List.length xs) (List.flatMap pairLB xs), .row (.slice (some ⟨gv, 0, none⟩) ranks cv) 86 2 ranks (List.flatMap bukL rs), .row (sp) 3 1 (List.length pre) (List.map (Value.int .i64) (List.map Prod.fst pre)), .row (sb) 86 2 (List.length pre) (List.flatMap bukL (List.map Prod.snd pre)), .blk g1 #[.slice none 0 0, .slice none 0 0, .slice none 0 0] 147]) W1 v12 [.blk g6 #[.int .i64 x.2.1, .int .i64 x.2.2] 86, .blk b #[.int .i64 x.2.1, .int .i64 x.2.2] 86, .blk g2 #[.slice (some ⟨gv, 0, none⟩) ranks cv, .slice (some ⟨g5, 0, none⟩) (List.length (pre ++ [x])) c5, sb] 147, .blk q #[.pointer (some ⟨t, 0, none⟩)] 182, .blk p #[.int .i64 rL, .int .i64 rE, .int .i64 pL, .int .i64 pE, .int .i64 ((room : Nat) : Int), .int .i64 hv, .slice (some ⟨gr, 0, none⟩) ranks ranks, .pointer (some ⟨t, 0, none⟩)] 187, .row (.slice (some ⟨gr, 0, none⟩) ranks ranks) 86 2 ranks (List.flatMap bukL rs), .blk t #[sv, .int .i64 ((room : Nat) : Int), .func (.func 103) #[] #[]] 228, .row (sv) 230 3 (List.length xs) (List.flatMap pairLB xs), .row (.slice (some ⟨gv, 0, none⟩) ranks cv) 86 2 ranks (List.flatMap bukL rs), .row (.slice (some ⟨g5, 0, none⟩) (List.length (pre ++ [x])) c5) 3 1 (List.length (pre ++ [x])) (List.map (Value.int .i64) (List.map Prod.fst (pre ++ [x]))), .row (.slice (some ⟨g7, 0, none⟩) (List.length (pre ++ [x])) c7) 86 2 (List.length (pre ++ [x])) (List.flatMap bukL (List.map Prod.snd (pre ++ [x]))), .blk g1 #[.slice none 0 0, .slice none 0 0, .slice none 0 0] 147] := H
    replace H := H.pick [1, 2, 3, 4, 5, 6, 7, 8, 9, 10, 11] [.blk b #[.int .i64 x.2.1, .int .i64 x.2.2] 86, .blk g2 #[.slice (some ⟨gv, 0, none⟩) ranks cv, .slice (some ⟨g5, 0, none⟩) (List.length (pre ++ [x])) c5, sb] 147, .blk q #[.pointer (some ⟨t, 0, none⟩)] 182, .blk p #[.int .i64 rL, .int .i64 rE, .int .i64 pL, .int .i64 pE, .int .i64 ((room : Nat) : Int), .int .i64 hv, .slice (some ⟨gr, 0, none⟩) ranks ranks, .pointer (some ⟨t, 0, none⟩)] 187, .row (.slice (some ⟨gr, 0, none⟩) ranks ranks) 86 2 ranks (List.flatMap bukL rs), .blk t #[sv, .int .i64 ((room : Nat) : Int), .func (.func 103) #[] #[]] 228, .row (sv) 230 3 (List.length xs) (List.flatMap pairLB xs), .row (.slice (some ⟨gv, 0, none⟩) ranks cv) 86 2 ranks (List.flatMap bukL rs), .row (.slice (some ⟨g5, 0, none⟩) (List.length (pre ++ [x])) c5) 3 1 (List.length (pre ++ [x])) (List.map (Value.int .i64) (List.map Prod.fst (pre ++ [x]))), .row (.slice (some ⟨g7, 0, none⟩) (List.length (pre ++ [x])) c7) 86 2 (List.length (pre ++ [x])) (List.flatMap bukL (List.map Prod.snd (pre ++ [x]))), .blk g1 #[.slice none 0 0, .slice none 0 0, .slice none 0 0] 147] (by decide) (by kernel_rfl)
    refine x_val (.pointer (some ⟨g2, 2, none⟩)) (by kernel_rfl) rfl (by kernel_rfl) ?_
    refine x_store (t := 145) (v := .slice (some ⟨g7, 0, none⟩) (List.length (pre ++ [x])) c7) H 1 g2 2 _ #[.slice (some ⟨gv, 0, none⟩) ranks cv, .slice (some ⟨g5, 0, none⟩) (List.length (pre ++ [x])) c5, .slice (some ⟨g7, 0, none⟩) (List.length (pre ++ [x])) c7] 147 [.slice (some ⟨g7, 0, none⟩) (List.length (pre ++ [x])) c7] _ rfl rfl (by kernel_rfl) (by kernel_rfl) (by kernel_rfl) rfl (by kernel_rfl) (by kernel_rfl) (by kernel_rfl) (by kernel_rfl) ?_
    clear H
    intro v13 H
    refine x_nil ?_
    refine x_blk ?_
    replace H := H.pick [1, 2, 3, 4, 5, 6, 7, 8, 9, 10] [.blk g2 #[.slice (some ⟨gv, 0, none⟩) ranks cv, .slice (some ⟨g5, 0, none⟩) (List.length (pre ++ [x])) c5, .slice (some ⟨g7, 0, none⟩) (List.length (pre ++ [x])) c7] 147, .blk q #[.pointer (some ⟨t, 0, none⟩)] 182, .blk p #[.int .i64 rL, .int .i64 rE, .int .i64 pL, .int .i64 pE, .int .i64 ((room : Nat) : Int), .int .i64 hv, .slice (some ⟨gr, 0, none⟩) ranks ranks, .pointer (some ⟨t, 0, none⟩)] 187, .row (.slice (some ⟨gr, 0, none⟩) ranks ranks) 86 2 ranks (List.flatMap bukL rs), .blk t #[sv, .int .i64 ((room : Nat) : Int), .func (.func 103) #[] #[]] 228, .row (sv) 230 3 (List.length xs) (List.flatMap pairLB xs), .row (.slice (some ⟨gv, 0, none⟩) ranks cv) 86 2 ranks (List.flatMap bukL rs), .row (.slice (some ⟨g5, 0, none⟩) (List.length (pre ++ [x])) c5) 3 1 (List.length (pre ++ [x])) (List.map (Value.int .i64) (List.map Prod.fst (pre ++ [x]))), .row (.slice (some ⟨g7, 0, none⟩) (List.length (pre ++ [x])) c7) 86 2 (List.length (pre ++ [x])) (List.flatMap bukL (List.map Prod.snd (pre ++ [x]))), .blk g1 #[.slice none 0 0, .slice none 0 0, .slice none 0 0] 147] (by decide) (by kernel_rfl)
    exact ⟨((.slice (some ⟨g5, 0, none⟩) (List.length (pre ++ [x])) c5), (.slice (some ⟨g7, 0, none⟩) (List.length (pre ++ [x])) c7)), trivial, H⟩
  · skip
    clear H
    rintro D ⟨sp, sb⟩ W1 hI H
    refine x_blk ?_
    refine x_then ?_
    refine x_seq ?_
    refine x_region ?_
    refine x_loadn (t := 147) H 1 g2 0 _ _ [.slice (some ⟨gv, 0, none⟩) ranks cv, sp, sb] rfl (by kernel_rfl) (by kernel_rfl) rfl (by kernel_rfl) (by kernel_rfl) ?_
    have h1o := H.rowOne 8 rfl
    have h2o := H.rowOne 9 rfl
    refine x_store (t := 147) (v := .agg #[.slice (some ⟨gv, 0, none⟩) ranks cv, sp, sb]) H 10 g1 0 _ #[.slice (some ⟨gv, 0, none⟩) ranks cv, sp, sb] 147 [.slice (some ⟨gv, 0, none⟩) ranks cv, sp, sb] [.obj D ((.deferred (some []))), .blk g2 #[.slice (some ⟨gv, 0, none⟩) ranks cv, sp, sb] 147, .blk q #[.pointer (some ⟨t, 0, none⟩)] 182, .blk p #[.int .i64 rL, .int .i64 rE, .int .i64 pL, .int .i64 pE, .int .i64 ((room : Nat) : Int), .int .i64 hv, .slice (some ⟨gr, 0, none⟩) ranks ranks, .pointer (some ⟨t, 0, none⟩)] 187, .row (.slice (some ⟨gr, 0, none⟩) ranks ranks) 86 2 ranks (List.flatMap bukL rs), .blk t #[sv, .int .i64 ((room : Nat) : Int), .func (.func 103) #[] #[]] 228, .row (sv) 230 3 (List.length xs) (List.flatMap pairLB xs), .row (.slice (some ⟨gv, 0, none⟩) ranks cv) 86 2 ranks (List.flatMap bukL rs), .row (sp) 3 1 (List.length xs) (List.map (Value.int .i64) (List.map Prod.fst xs)), .row (sb) 86 2 (List.length xs) (List.flatMap bukL (List.map Prod.snd xs)), .blk g1 #[.slice (some ⟨gv, 0, none⟩) ranks cv, sp, sb] 147] rfl rfl (by kernel_rfl) (by simp only [List.all_cons, List.all_nil, h1o, h2o, Bool.and_true, Bool.true_and] <;> rfl) (by kernel_rfl) (by kernel_rfl) (by kernel_rfl) (by kernel_rfl) (by kernel_rfl) (by kernel_rfl) ?_
    clear H
    intro v14 H
    refine x_nil ?_
    refine x_then ?_
    refine x_retc ?_
    refine x_retM1 [0, 1, 2, 3, 4, 5, 6, 7, 8, 9, 10] [.blk g2 #[.slice (some ⟨gv, 0, none⟩) ranks cv, sp, sb] 147, .blk q #[.pointer (some ⟨t, 0, none⟩)] 182, .blk p #[.int .i64 rL, .int .i64 rE, .int .i64 pL, .int .i64 pE, .int .i64 ((room : Nat) : Int), .int .i64 hv, .slice (some ⟨gr, 0, none⟩) ranks ranks, .pointer (some ⟨t, 0, none⟩)] 187, .row (.slice (some ⟨gr, 0, none⟩) ranks ranks) 86 2 ranks (List.flatMap bukL rs), .blk t #[sv, .int .i64 ((room : Nat) : Int), .func (.func 103) #[] #[]] 228, .row (sv) 230 3 (List.length xs) (List.flatMap pairLB xs), .row (.slice (some ⟨gv, 0, none⟩) ranks cv) 86 2 ranks (List.flatMap bukL rs), .row (sp) 3 1 (List.length xs) (List.map (Value.int .i64) (List.map Prod.fst xs)), .row (sb) 86 2 (List.length xs) (List.flatMap bukL (List.map Prod.snd xs)), .blk g1 #[.slice (some ⟨gv, 0, none⟩) ranks cv, sp, sb] 147] (.agg #[.slice (some ⟨gv, 0, none⟩) ranks cv, sp, sb]) H (by kernel_rfl) rfl (by decide) (fun _ H => (x_rescell H 9 g1 0 #[.slice (some ⟨gv, 0, none⟩) ranks cv, sp, sb] 147 [.slice (some ⟨gv, 0, none⟩) ranks cv, sp, sb] (fun x => x) (by kernel_rfl) (by kernel_rfl) (by kernel_rfl))) ?_
    clear H
    intro v15 H
    replace H := H.pick [2, 3, 4, 5, 6, 7, 8] [.blk p #[.int .i64 rL, .int .i64 rE, .int .i64 pL, .int .i64 pE, .int .i64 ((room : Nat) : Int), .int .i64 hv, .slice (some ⟨gr, 0, none⟩) ranks ranks, .pointer (some ⟨t, 0, none⟩)] 187, .row (.slice (some ⟨gr, 0, none⟩) ranks ranks) 86 2 ranks (List.flatMap bukL rs), .blk t #[sv, .int .i64 ((room : Nat) : Int), .func (.func 103) #[] #[]] 228, .row (sv) 230 3 (List.length xs) (List.flatMap pairLB xs), .row (.slice (some ⟨gv, 0, none⟩) ranks cv) 86 2 ranks (List.flatMap bukL rs), .row (sp) 3 1 (List.length xs) (List.map (Value.int .i64) (List.map Prod.fst xs)), .row (sb) 86 2 (List.length xs) (List.flatMap bukL (List.map Prod.snd xs))] (by decide) (by kernel_rfl)
    exact ⟨(.slice (some ⟨gv, 0, none⟩) ranks cv, sp, sb), rfl, H⟩
  · skip
    clear H
    rintro D c pre ⟨sp, sb⟩ W1 hpre hJ H
    exact hJ.elim

set_option maxRecDepth 100000 in
set_option maxHeartbeats 4000000 in
theorem Turn_of {M : List Nat} {p t gr : Nat} {sv : Value} {rs : List Buk} {xs : List PairB} {ranks room : Nat} {rL rE pL pE hv : Int} (ad : Option Addr) (nA cA : Nat) (l : List Int4) (hA30 : nA ≤ 1000) (hk0 : TOk ranks room rE pE rs xs) (hP : TP ranks room rL rE pL pE) (w0 : World) (hA : RAtM M int4L 4 (0, 0, 0, 0) w0 ad nA l) (H0 : Hs M w0 w0 [.blk p #[.int .i64 rL, .int .i64 rE, .int .i64 pL, .int .i64 pE, .int .i64 ((room : Nat) : Int), .int .i64 hv, .slice (some ⟨gr, 0, none⟩) ranks ranks, .pointer (some ⟨t, 0, none⟩)] 187, .row (.slice (some ⟨gr, 0, none⟩) ranks ranks) 86 2 ranks (List.flatMap bukL rs), .blk t #[sv, .int .i64 ((room : Nat) : Int), .func (.func 103) #[] #[]] 228, .row (sv) 230 3 (List.length xs) (List.flatMap pairLB xs)]) :
    Calls Try.prog 78 #[.pointer (some ⟨p, 0, none⟩), .slice ad nA cA] w0 fun e w' => ∃ sv', e = .returned (.tuple #[]) ∧ Hs M w0 w' [.blk p #[.int .i64 rL, .int .i64 rE, .int .i64 pL, .int .i64 pE, .int .i64 ((room : Nat) : Int), .int .i64 hv, .slice (some ⟨gr, 0, none⟩) ranks ranks, .pointer (some ⟨t, 0, none⟩)] 187, .row (.slice (some ⟨gr, 0, none⟩) ranks ranks) 86 2 ranks (List.flatMap bukL ((playT ranks room rE pE l (rs, xs) nA).1)), .blk t #[sv', .int .i64 ((room : Nat) : Int), .func (.func 103) #[] #[]] 228, .row (sv') 230 3 (List.length ((playT ranks room rE pE l (rs, xs) nA).2)) (List.flatMap pairLB ((playT ranks room rE pE l (rs, xs) nA).2))] := by
  refine x_enter Try.func78 rfl #[.pointer (some ⟨p, 0, none⟩), .slice ad nA cA, undef, undef, undef, undef, undef, undef, undef, undef, undef, undef, undef, undef, undef, undef, undef, undef, undef, undef, undef, undef, undef, undef, undef, undef, undef, undef, undef, undef, undef, undef, undef, undef, undef, undef, undef, undef, undef, undef, undef] (by kernel_rfl) ?_
  have H := H0
  refine x_seq ?_
  refine x_region ?_
  refine x_val (.slice ad nA cA) (by kernel_rfl) rfl (by kernel_rfl) ?_
  refine x_val (.int .i64 ((nA : Nat) : Int)) (by kernel_rfl) rfl (by kernel_rfl) ?_
  refine x_val (.int .i64 0) (by kernel_rfl) rfl (by kernel_rfl) ?_
  refine x_nil ?_
  refine x_then ?_
  refine x_block ?_
  replace H := H.pick [0, 1, 2, 3] [.blk p #[.int .i64 rL, .int .i64 rE, .int .i64 pL, .int .i64 pE, .int .i64 ((room : Nat) : Int), .int .i64 hv, .slice (some ⟨gr, 0, none⟩) ranks ranks, .pointer (some ⟨t, 0, none⟩)] 187, .row (.slice (some ⟨gr, 0, none⟩) ranks ranks) 86 2 ranks (List.flatMap bukL rs), .blk t #[sv, .int .i64 ((room : Nat) : Int), .func (.func 103) #[] #[]] 228, .row (sv) 230 3 (List.length xs) (List.flatMap pairLB xs)] (by decide) (by kernel_rfl)
  refine x_loop (G := Nat × Value × List Buk × List PairB) (fun gh a w' => match gh with | (k, sv2, rs2, xs2) => ∃ uf1 : Nat → Value, a = { tmps := #[.pointer (some ⟨p, 0, none⟩), .slice ad nA cA, undef, undef, undef, (uf1 0), .slice ad nA cA, .int .i64 ((nA : Nat) : Int), .int .i64 ((k : Nat) : Int), (uf1 1), (uf1 2), (uf1 3), (uf1 4), (uf1 5), (uf1 6), (uf1 7), (uf1 8), (uf1 9), (uf1 10), (uf1 11), (uf1 12), (uf1 13), (uf1 14), (uf1 15), (uf1 16), (uf1 17), (uf1 18), (uf1 19), (uf1 20), (uf1 21), (uf1 22), (uf1 23), (uf1 24), (uf1 25), (uf1 26), (uf1 27), (uf1 28), (uf1 29), (uf1 30), (uf1 31), (uf1 32)], defers := [] } ∧ Hs M w0 w' [.blk p #[.int .i64 rL, .int .i64 rE, .int .i64 pL, .int .i64 pE, .int .i64 ((room : Nat) : Int), .int .i64 hv, .slice (some ⟨gr, 0, none⟩) ranks ranks, .pointer (some ⟨t, 0, none⟩)] 187, .row (.slice (some ⟨gr, 0, none⟩) ranks ranks) 86 2 ranks (List.flatMap bukL rs2), .blk t #[sv2, .int .i64 ((room : Nat) : Int), .func (.func 103) #[] #[]] 228, .row (sv2) 230 3 (List.length xs2) (List.flatMap pairLB xs2)] ∧ (k ≤ nA) ∧ (rs2 = (playT ranks room rE pE l (rs, xs) k).1) ∧ (xs2 = (playT ranks room rE pE l (rs, xs) k).2)) (fun gh => match gh with | (k, sv2, rs2, xs2) => nA - k) (0, sv, rs, xs) ⟨(nthV [undef, undef, undef, undef, undef, undef, undef, undef, undef, undef, undef, undef, undef, undef, undef, undef, undef, undef, undef, undef, undef, undef, undef, undef, undef, undef, undef, undef, undef, undef, undef, undef, undef]), (by kernel_rfl), H, (Nat.zero_le _), rfl, rfl⟩ ?_
  clear H
  rintro ⟨k, sv2, rs2, xs2⟩ _ v1 ⟨uf1, rfl, H, r1, r2, r3⟩
  have hk := hk0.play hP l k
  rw [← r2, ← r3] at hk
  refine x_seq ?_
  refine x_region ?_
  refine x_val (.bool (decide (((k : Nat) : Int) < ((nA : Nat) : Int)))) (by kernel_rfl) rfl (by kernel_rfl) ?_
  refine x_nil ?_
  refine x_then ?_
  refine x_seq ?_
  cases h1 : decide (((k : Nat) : Int) < ((nA : Nat) : Int))
  · skip
    have h1p := of_decide_eq_false h1
    refine x_f (by kernel_rfl) ?_
    refine x_exit ?_
    refine x_then_exit ?_
    refine x_then_exit ?_
    refine x_blk_exit ?_
    refine x_end (.tuple #[]) (by kernel_rfl) (by kernel_rfl) ?_
    have hkn : k = nA := by omega
    rw [hkn] at r2 r3
    rw [← r2, ← r3]
    exact ⟨sv2, rfl, H⟩
  · skip
    have h1p := of_decide_eq_true h1
    refine x_t (by kernel_rfl) ?_
    refine x_skipc ?_
    refine x_then ?_
    refine x_seq ?_
    refine x_block ?_
    refine x_seq ?_
    refine x_region ?_
    obtain ⟨ga, oa, had, hcell⟩ := hA (by omega)
    refine x_ixO (t := 81) had k nA cA 88 4 (oa + k * 4) (by omega) (by omega) (by kernel_rfl) (by kernel_rfl) (by kernel_rfl) rfl (by kernel_rfl) ?_
    refine x_loadcn (t := 88) ga (oa + k * 4) [.int .i64 ((l.getD k (0, 0, 0, 0)).1), .int .i64 ((l.getD k (0, 0, 0, 0)).2.1), .int .i64 ((l.getD k (0, 0, 0, 0)).2.2.1), .int .i64 ((l.getD k (0, 0, 0, 0)).2.2.2)] (hcell _ H.fr k (by omega)) (by kernel_rfl) rfl (by kernel_rfl) (by kernel_rfl) ?_
    refine x_box H #[.int .i64 0, .int .i64 0, .int .i64 0, .int .i64 0] 88 (by kernel_rfl) rfl (by kernel_rfl) ?_
    clear H
    intro v2 g1 H
    refine x_store (t := 88) (v := .agg #[.int .i64 ((l.getD k (0, 0, 0, 0)).1), .int .i64 ((l.getD k (0, 0, 0, 0)).2.1), .int .i64 ((l.getD k (0, 0, 0, 0)).2.2.1), .int .i64 ((l.getD k (0, 0, 0, 0)).2.2.2)]) H 0 g1 0 _ #[.int .i64 ((l.getD k (0, 0, 0, 0)).1), .int .i64 ((l.getD k (0, 0, 0, 0)).2.1), .int .i64 ((l.getD k (0, 0, 0, 0)).2.2.1), .int .i64 ((l.getD k (0, 0, 0, 0)).2.2.2)] 88 [.int .i64 ((l.getD k (0, 0, 0, 0)).1), .int .i64 ((l.getD k (0, 0, 0, 0)).2.1), .int .i64 ((l.getD k (0, 0, 0, 0)).2.2.1), .int .i64 ((l.getD k (0, 0, 0, 0)).2.2.2)] _ rfl rfl (by kernel_rfl) (by kernel_rfl) (by kernel_rfl) rfl (by kernel_rfl) (by kernel_rfl) (by kernel_rfl) (by kernel_rfl) ?_
    clear H
    intro v3 H
    refine x_nil ?_
    refine x_then ?_
    refine x_seq ?_
    refine x_region ?_
    refine x_val (.pointer (some ⟨g1, 0, none⟩)) (by kernel_rfl) rfl (by kernel_rfl) ?_
    refine x_load1 H 0 g1 0 _ _ (.int .i64 ((l.getD k (0, 0, 0, 0)).1)) rfl (by kernel_rfl) (by kernel_rfl) rfl (by kernel_rfl) ?_
    refine x_nil ?_
    refine x_then ?_
    refine x_block ?_
    refine x_seq ?_
    refine x_region ?_
    refine x_val (.bool (decide (((l.getD k (0, 0, 0, 0)).1) = 1))) (by kernel_rfl) rfl (by kernel_rfl) ?_
    refine x_val (.bool (decide (((l.getD k (0, 0, 0, 0)).1) = 1))) (by kernel_rfl) rfl (by kernel_rfl) ?_
    refine x_nil ?_
    refine x_then ?_
    cases h2 : decide (((l.getD k (0, 0, 0, 0)).1) = 1)
    · skip
      have h2p := of_decide_eq_false h2
      refine x_f (by kernel_rfl) ?_
      refine x_seq ?_
      refine x_region ?_
      refine x_val (.bool (decide (((l.getD k (0, 0, 0, 0)).1) = 2))) (by kernel_rfl) rfl (by kernel_rfl) ?_
      refine x_val (.bool (decide (((l.getD k (0, 0, 0, 0)).1) = 2))) (by kernel_rfl) rfl (by kernel_rfl) ?_
      refine x_nil ?_
      refine x_then ?_
      cases h3 : decide (((l.getD k (0, 0, 0, 0)).1) = 2)
      · skip
        have h3p := of_decide_eq_false h3
        refine x_f (by kernel_rfl) ?_
        refine x_seq ?_
        refine x_region ?_
        refine x_val (.bool (decide (((l.getD k (0, 0, 0, 0)).1) = 3))) (by kernel_rfl) rfl (by kernel_rfl) ?_
        refine x_val (.bool (decide (((l.getD k (0, 0, 0, 0)).1) = 3))) (by kernel_rfl) rfl (by kernel_rfl) ?_
        refine x_nil ?_
        refine x_then ?_
        cases h4 : decide (((l.getD k (0, 0, 0, 0)).1) = 3)
        · skip
          have h4p := of_decide_eq_false h4
          refine x_f (by kernel_rfl) ?_
          refine x_seq ?_
          refine x_region ?_
          refine x_val (.bool (decide (((l.getD k (0, 0, 0, 0)).1) = 4))) (by kernel_rfl) rfl (by kernel_rfl) ?_
          refine x_val (.bool (decide (((l.getD k (0, 0, 0, 0)).1) = 4))) (by kernel_rfl) rfl (by kernel_rfl) ?_
          refine x_nil ?_
          refine x_then ?_
          cases h5 : decide (((l.getD k (0, 0, 0, 0)).1) = 4)
          · skip
            have h5p := of_decide_eq_false h5
            refine x_f (by kernel_rfl) ?_
            refine x_skipc ?_
            refine x_blk ?_
            refine x_blk ?_
            refine x_then ?_
            refine x_region ?_
            refine x_ar (((k : Nat) : Int) + 1) ⟨by omega, by omega⟩ (by kernel_rfl) rfl (by kernel_rfl) ?_
            refine x_val (.int .i64 (((k : Nat) : Int) + 1)) (by kernel_rfl) rfl (by kernel_rfl) ?_
            refine x_nil ?_
            refine x_then ?_
            replace H := H.pick [1, 2, 3, 4] [.blk p #[.int .i64 rL, .int .i64 rE, .int .i64 pL, .int .i64 pE, .int .i64 ((room : Nat) : Int), .int .i64 hv, .slice (some ⟨gr, 0, none⟩) ranks ranks, .pointer (some ⟨t, 0, none⟩)] 187, .row (.slice (some ⟨gr, 0, none⟩) ranks ranks) 86 2 ranks (List.flatMap bukL rs2), .blk t #[sv2, .int .i64 ((room : Nat) : Int), .func (.func 103) #[] #[]] 228, .row (sv2) 230 3 (List.length xs2) (List.flatMap pairLB xs2)] (by decide) (by kernel_rfl)
            exact ⟨(k + 1, sv2, rs2, xs2), (by dsimp only; omega), (nthV [.pointer (some ⟨g1, 0, none⟩), .bool true, .pointer (some ⟨ga, oa + k * 4, none⟩), .agg #[.int .i64 ((l.getD k (0, 0, 0, 0)).1), .int .i64 ((l.getD k (0, 0, 0, 0)).2.1), .int .i64 ((l.getD k (0, 0, 0, 0)).2.2.1), .int .i64 ((l.getD k (0, 0, 0, 0)).2.2.2)], .pointer (some ⟨g1, 0, none⟩), .int .i64 ((l.getD k (0, 0, 0, 0)).1), .bool false, .bool false, (uf1 8), (uf1 9), (uf1 10), (uf1 11), (uf1 12), (uf1 13), (uf1 14), (uf1 15), .bool false, .bool false, (uf1 18), (uf1 19), .bool false, .bool false, (uf1 22), (uf1 23), (uf1 24), (uf1 25), .bool false, .bool false, (uf1 28), (uf1 29), (uf1 30), (uf1 31), .int .i64 (((k : Nat) : Int) + 1)]), (by kernel_rfl), H, (by omega), (by show _ = stR ranks rE (playT ranks room rE pE l (rs, xs) k).1 (l.getD k (0, 0, 0, 0)); rw [← r2]; unfold stR; rw [if_neg (show ¬ (l.getD k (0, 0, 0, 0)).1 = 1 by omega), if_neg (show ¬ (l.getD k (0, 0, 0, 0)).1 = 2 by omega), if_neg (show ¬ (l.getD k (0, 0, 0, 0)).1 = 3 by omega)]), (by show _ = stX ranks room pE (playT ranks room rE pE l (rs, xs) k).2 (l.getD k (0, 0, 0, 0)); rw [← r3]; unfold stX; rw [if_neg (show ¬ (l.getD k (0, 0, 0, 0)).1 = 1 by omega), if_neg (show ¬ (l.getD k (0, 0, 0, 0)).1 = 2 by omega), if_neg (show ¬ (l.getD k (0, 0, 0, 0)).1 = 4 by omega)])⟩
          · skip
            have h5p := of_decide_eq_true h5
            refine x_t (by kernel_rfl) ?_
            refine x_region ?_
            refine x_val (.pointer (some ⟨p, 0, none⟩)) (by kernel_rfl) rfl (by kernel_rfl) ?_
            refine x_val (.pointer (some ⟨g1, 2, none⟩)) (by kernel_rfl) rfl (by kernel_rfl) ?_
            refine x_load1 H 0 g1 2 _ _ (.int .i64 ((l.getD k (0, 0, 0, 0)).2.2.1)) rfl (by kernel_rfl) (by kernel_rfl) rfl (by kernel_rfl) ?_
            refine x_call (by kernel_rfl) rfl (by kernel_rfl) (Hs.useE (A := [.blk p #[.int .i64 rL, .int .i64 rE, .int .i64 pL, .int .i64 pE, .int .i64 ((room : Nat) : Int), .int .i64 hv, .slice (some ⟨gr, 0, none⟩) ranks ranks, .pointer (some ⟨t, 0, none⟩)] 187, .row (.slice (some ⟨gr, 0, none⟩) ranks ranks) 86 2 ranks (List.flatMap bukL rs2), .blk t #[sv2, .int .i64 ((room : Nat) : Int), .func (.func 103) #[] #[]] 228, .row (sv2) 230 3 (List.length xs2) (List.flatMap pairLB xs2)]) (R := [.blk g1 #[.int .i64 ((l.getD k (0, 0, 0, 0)).1), .int .i64 ((l.getD k (0, 0, 0, 0)).2.1), .int .i64 ((l.getD k (0, 0, 0, 0)).2.2.1), .int .i64 ((l.getD k (0, 0, 0, 0)).2.2.2)] 88]) (fun svn => [.blk p #[.int .i64 rL, .int .i64 rE, .int .i64 pL, .int .i64 pE, .int .i64 ((room : Nat) : Int), .int .i64 hv, .slice (some ⟨gr, 0, none⟩) ranks ranks, .pointer (some ⟨t, 0, none⟩)] 187, .row (.slice (some ⟨gr, 0, none⟩) ranks ranks) 86 2 ranks (List.flatMap bukL rs2), .blk t #[svn, .int .i64 ((room : Nat) : Int), .func (.func 103) #[] #[]] 228, .row (svn) 230 3 (List.length (dropB xs2 ((l.getD k (0, 0, 0, 0)).2.2.1))) (List.flatMap pairLB (dropB xs2 ((l.getD k (0, 0, 0, 0)).2.2.1)))]) (fun _ => .tuple #[]) (H.pick [1, 2, 3, 4, 0] _ (by decide) (by kernel_rfl)) (fun h => DropPage_any ((l.getD k (0, 0, 0, 0)).2.2.1) hk.n hk.m hP.m _ h)) ?_
            rintro _ v4 ⟨svn, rfl, H'⟩
            refine ⟨_, rfl, ?_⟩
            clear H
            have H : Hs M w0 _ [.blk p #[.int .i64 rL, .int .i64 rE, .int .i64 pL, .int .i64 pE, .int .i64 ((room : Nat) : Int), .int .i64 hv, .slice (some ⟨gr, 0, none⟩) ranks ranks, .pointer (some ⟨t, 0, none⟩)] 187, .row (.slice (some ⟨gr, 0, none⟩) ranks ranks) 86 2 ranks (List.flatMap bukL rs2), .blk t #[svn, .int .i64 ((room : Nat) : Int), .func (.func 103) #[] #[]] 228, .row (svn) 230 3 (List.length (dropB xs2 ((l.getD k (0, 0, 0, 0)).2.2.1))) (List.flatMap pairLB (dropB xs2 ((l.getD k (0, 0, 0, 0)).2.2.1))), .blk g1 #[.int .i64 ((l.getD k (0, 0, 0, 0)).1), .int .i64 ((l.getD k (0, 0, 0, 0)).2.1), .int .i64 ((l.getD k (0, 0, 0, 0)).2.2.1), .int .i64 ((l.getD k (0, 0, 0, 0)).2.2.2)] 88] := H'
            clear H'
            refine x_nil ?_
            refine x_blk ?_
            refine x_blk ?_
            refine x_then ?_
            refine x_region ?_
            refine x_ar (((k : Nat) : Int) + 1) ⟨by omega, by omega⟩ (by kernel_rfl) rfl (by kernel_rfl) ?_
            refine x_val (.int .i64 (((k : Nat) : Int) + 1)) (by kernel_rfl) rfl (by kernel_rfl) ?_
            refine x_nil ?_
            refine x_then ?_
            replace H := H.pick [0, 1, 2, 3] [.blk p #[.int .i64 rL, .int .i64 rE, .int .i64 pL, .int .i64 pE, .int .i64 ((room : Nat) : Int), .int .i64 hv, .slice (some ⟨gr, 0, none⟩) ranks ranks, .pointer (some ⟨t, 0, none⟩)] 187, .row (.slice (some ⟨gr, 0, none⟩) ranks ranks) 86 2 ranks (List.flatMap bukL rs2), .blk t #[svn, .int .i64 ((room : Nat) : Int), .func (.func 103) #[] #[]] 228, .row (svn) 230 3 (List.length (dropB xs2 ((l.getD k (0, 0, 0, 0)).2.2.1))) (List.flatMap pairLB (dropB xs2 ((l.getD k (0, 0, 0, 0)).2.2.1)))] (by decide) (by kernel_rfl)
            exact ⟨(k + 1, svn, rs2, (dropB xs2 ((l.getD k (0, 0, 0, 0)).2.2.1))), (by dsimp only; omega), (nthV [.pointer (some ⟨g1, 0, none⟩), .bool true, .pointer (some ⟨ga, oa + k * 4, none⟩), .agg #[.int .i64 ((l.getD k (0, 0, 0, 0)).1), .int .i64 ((l.getD k (0, 0, 0, 0)).2.1), .int .i64 ((l.getD k (0, 0, 0, 0)).2.2.1), .int .i64 ((l.getD k (0, 0, 0, 0)).2.2.2)], .pointer (some ⟨g1, 0, none⟩), .int .i64 ((l.getD k (0, 0, 0, 0)).1), .bool false, .bool false, (uf1 8), (uf1 9), (uf1 10), (uf1 11), (uf1 12), (uf1 13), (uf1 14), (uf1 15), .bool false, .bool false, (uf1 18), (uf1 19), .bool false, .bool false, (uf1 22), (uf1 23), (uf1 24), (uf1 25), .bool true, .bool true, .pointer (some ⟨p, 0, none⟩), .pointer (some ⟨g1, 2, none⟩), .int .i64 ((l.getD k (0, 0, 0, 0)).2.2.1), .tuple #[], .int .i64 (((k : Nat) : Int) + 1)]), (by kernel_rfl), H, (by omega), (by show _ = stR ranks rE (playT ranks room rE pE l (rs, xs) k).1 (l.getD k (0, 0, 0, 0)); rw [← r2]; unfold stR; rw [if_neg (show ¬ (l.getD k (0, 0, 0, 0)).1 = 1 by omega), if_neg (show ¬ (l.getD k (0, 0, 0, 0)).1 = 2 by omega), if_neg (show ¬ (l.getD k (0, 0, 0, 0)).1 = 3 by omega)]), (by show _ = stX ranks room pE (playT ranks room rE pE l (rs, xs) k).2 (l.getD k (0, 0, 0, 0)); rw [← r3]; unfold stX; rw [if_neg (show ¬ (l.getD k (0, 0, 0, 0)).1 = 1 by omega), if_neg (show ¬ (l.getD k (0, 0, 0, 0)).1 = 2 by omega), if_pos (show (l.getD k (0, 0, 0, 0)).1 = 4 by omega)])⟩
        · skip
          have h4p := of_decide_eq_true h4
          refine x_t (by kernel_rfl) ?_
          refine x_region ?_
          refine x_val (.pointer (some ⟨p, 0, none⟩)) (by kernel_rfl) rfl (by kernel_rfl) ?_
          refine x_val (.pointer (some ⟨g1, 1, none⟩)) (by kernel_rfl) rfl (by kernel_rfl) ?_
          refine x_load1 H 0 g1 1 _ _ (.int .i64 ((l.getD k (0, 0, 0, 0)).2.1)) rfl (by kernel_rfl) (by kernel_rfl) rfl (by kernel_rfl) ?_
          refine x_callH (.tuple #[]) [.blk p #[.int .i64 rL, .int .i64 rE, .int .i64 pL, .int .i64 pE, .int .i64 ((room : Nat) : Int), .int .i64 hv, .slice (some ⟨gr, 0, none⟩) ranks ranks, .pointer (some ⟨t, 0, none⟩)] 187, .row (.slice (some ⟨gr, 0, none⟩) ranks ranks) 86 2 ranks (List.flatMap bukL (rset ranks rs2 ((l.getD k (0, 0, 0, 0)).2.1))), .blk g1 #[.int .i64 ((l.getD k (0, 0, 0, 0)).1), .int .i64 ((l.getD k (0, 0, 0, 0)).2.1), .int .i64 ((l.getD k (0, 0, 0, 0)).2.2.1), .int .i64 ((l.getD k (0, 0, 0, 0)).2.2.2)] 88, .blk t #[sv2, .int .i64 ((room : Nat) : Int), .func (.func 103) #[] #[]] 228, .row (sv2) 230 3 (List.length xs2) (List.flatMap pairLB xs2)] (by kernel_rfl) rfl (by kernel_rfl) (Hs.use (A := [.blk p #[.int .i64 rL, .int .i64 rE, .int .i64 pL, .int .i64 pE, .int .i64 ((room : Nat) : Int), .int .i64 hv, .slice (some ⟨gr, 0, none⟩) ranks ranks, .pointer (some ⟨t, 0, none⟩)] 187, .row (.slice (some ⟨gr, 0, none⟩) ranks ranks) 86 2 ranks (List.flatMap bukL rs2)]) (R := [.blk g1 #[.int .i64 ((l.getD k (0, 0, 0, 0)).1), .int .i64 ((l.getD k (0, 0, 0, 0)).2.1), .int .i64 ((l.getD k (0, 0, 0, 0)).2.2.1), .int .i64 ((l.getD k (0, 0, 0, 0)).2.2.2)] 88, .blk t #[sv2, .int .i64 ((room : Nat) : Int), .func (.func 103) #[] #[]] 228, .row (sv2) 230 3 (List.length xs2) (List.flatMap pairLB xs2)]) (H.pick [1, 2, 0, 3, 4] _ (by decide) (by kernel_rfl)) (fun h => Reset_any ((l.getD k (0, 0, 0, 0)).2.1) hk.n _ h)) ?_
          clear H
          intro v5 H
          refine x_nil ?_
          refine x_blk ?_
          refine x_blk ?_
          refine x_then ?_
          refine x_region ?_
          refine x_ar (((k : Nat) : Int) + 1) ⟨by omega, by omega⟩ (by kernel_rfl) rfl (by kernel_rfl) ?_
          refine x_val (.int .i64 (((k : Nat) : Int) + 1)) (by kernel_rfl) rfl (by kernel_rfl) ?_
          refine x_nil ?_
          refine x_then ?_
          replace H := H.pick [0, 1, 3, 4] [.blk p #[.int .i64 rL, .int .i64 rE, .int .i64 pL, .int .i64 pE, .int .i64 ((room : Nat) : Int), .int .i64 hv, .slice (some ⟨gr, 0, none⟩) ranks ranks, .pointer (some ⟨t, 0, none⟩)] 187, .row (.slice (some ⟨gr, 0, none⟩) ranks ranks) 86 2 ranks (List.flatMap bukL (rset ranks rs2 ((l.getD k (0, 0, 0, 0)).2.1))), .blk t #[sv2, .int .i64 ((room : Nat) : Int), .func (.func 103) #[] #[]] 228, .row (sv2) 230 3 (List.length xs2) (List.flatMap pairLB xs2)] (by decide) (by kernel_rfl)
          exact ⟨(k + 1, sv2, (rset ranks rs2 ((l.getD k (0, 0, 0, 0)).2.1)), xs2), (by dsimp only; omega), (nthV [.pointer (some ⟨g1, 0, none⟩), .bool true, .pointer (some ⟨ga, oa + k * 4, none⟩), .agg #[.int .i64 ((l.getD k (0, 0, 0, 0)).1), .int .i64 ((l.getD k (0, 0, 0, 0)).2.1), .int .i64 ((l.getD k (0, 0, 0, 0)).2.2.1), .int .i64 ((l.getD k (0, 0, 0, 0)).2.2.2)], .pointer (some ⟨g1, 0, none⟩), .int .i64 ((l.getD k (0, 0, 0, 0)).1), .bool false, .bool false, (uf1 8), (uf1 9), (uf1 10), (uf1 11), (uf1 12), (uf1 13), (uf1 14), (uf1 15), .bool false, .bool false, (uf1 18), (uf1 19), .bool true, .bool true, .pointer (some ⟨p, 0, none⟩), .pointer (some ⟨g1, 1, none⟩), .int .i64 ((l.getD k (0, 0, 0, 0)).2.1), .tuple #[], (uf1 26), (uf1 27), (uf1 28), (uf1 29), (uf1 30), (uf1 31), .int .i64 (((k : Nat) : Int) + 1)]), (by kernel_rfl), H, (by omega), (by show _ = stR ranks rE (playT ranks room rE pE l (rs, xs) k).1 (l.getD k (0, 0, 0, 0)); rw [← r2]; unfold stR; rw [if_neg (show ¬ (l.getD k (0, 0, 0, 0)).1 = 1 by omega), if_neg (show ¬ (l.getD k (0, 0, 0, 0)).1 = 2 by omega), if_pos (show (l.getD k (0, 0, 0, 0)).1 = 3 by omega)]), (by show _ = stX ranks room pE (playT ranks room rE pE l (rs, xs) k).2 (l.getD k (0, 0, 0, 0)); rw [← r3]; unfold stX; rw [if_neg (show ¬ (l.getD k (0, 0, 0, 0)).1 = 1 by omega), if_neg (show ¬ (l.getD k (0, 0, 0, 0)).1 = 2 by omega), if_neg (show ¬ (l.getD k (0, 0, 0, 0)).1 = 4 by omega)])⟩
      · skip
        have h3p := of_decide_eq_true h3
        refine x_t (by kernel_rfl) ?_
        refine x_region ?_
        refine x_val (.pointer (some ⟨p, 0, none⟩)) (by kernel_rfl) rfl (by kernel_rfl) ?_
        refine x_call (by kernel_rfl) rfl (by kernel_rfl) (Hs.useE (A := [.blk p #[.int .i64 rL, .int .i64 rE, .int .i64 pL, .int .i64 pE, .int .i64 ((room : Nat) : Int), .int .i64 hv, .slice (some ⟨gr, 0, none⟩) ranks ranks, .pointer (some ⟨t, 0, none⟩)] 187, .row (.slice (some ⟨gr, 0, none⟩) ranks ranks) 86 2 ranks (List.flatMap bukL rs2), .blk t #[sv2, .int .i64 ((room : Nat) : Int), .func (.func 103) #[] #[]] 228, .row (sv2) 230 3 (List.length xs2) (List.flatMap pairLB xs2)]) (R := [.blk g1 #[.int .i64 ((l.getD k (0, 0, 0, 0)).1), .int .i64 ((l.getD k (0, 0, 0, 0)).2.1), .int .i64 ((l.getD k (0, 0, 0, 0)).2.2.1), .int .i64 ((l.getD k (0, 0, 0, 0)).2.2.2)] 88]) (fun svn => [.blk p #[.int .i64 rL, .int .i64 rE, .int .i64 pL, .int .i64 pE, .int .i64 ((room : Nat) : Int), .int .i64 hv, .slice (some ⟨gr, 0, none⟩) ranks ranks, .pointer (some ⟨t, 0, none⟩)] 187, .row (.slice (some ⟨gr, 0, none⟩) ranks ranks) 86 2 ranks (List.flatMap bukL (List.map (btick rE) rs2)), .blk t #[svn, .int .i64 ((room : Nat) : Int), .func (.func 103) #[] #[]] 228, .row (svn) 230 3 (List.length (List.map (tickX pE) xs2)) (List.flatMap pairLB (List.map (tickX pE) xs2))]) (fun _ => .tuple #[]) (H.pick [1, 2, 3, 4, 0] _ (by decide) (by kernel_rfl)) (fun h => Tick_any hk hP _ h)) ?_
        rintro _ v6 ⟨svn, rfl, H'⟩
        refine ⟨_, rfl, ?_⟩
        clear H
        have H : Hs M w0 _ [.blk p #[.int .i64 rL, .int .i64 rE, .int .i64 pL, .int .i64 pE, .int .i64 ((room : Nat) : Int), .int .i64 hv, .slice (some ⟨gr, 0, none⟩) ranks ranks, .pointer (some ⟨t, 0, none⟩)] 187, .row (.slice (some ⟨gr, 0, none⟩) ranks ranks) 86 2 ranks (List.flatMap bukL (List.map (btick rE) rs2)), .blk t #[svn, .int .i64 ((room : Nat) : Int), .func (.func 103) #[] #[]] 228, .row (svn) 230 3 (List.length (List.map (tickX pE) xs2)) (List.flatMap pairLB (List.map (tickX pE) xs2)), .blk g1 #[.int .i64 ((l.getD k (0, 0, 0, 0)).1), .int .i64 ((l.getD k (0, 0, 0, 0)).2.1), .int .i64 ((l.getD k (0, 0, 0, 0)).2.2.1), .int .i64 ((l.getD k (0, 0, 0, 0)).2.2.2)] 88] := H'
        clear H'
        refine x_nil ?_
        refine x_blk ?_
        refine x_blk ?_
        refine x_then ?_
        refine x_region ?_
        refine x_ar (((k : Nat) : Int) + 1) ⟨by omega, by omega⟩ (by kernel_rfl) rfl (by kernel_rfl) ?_
        refine x_val (.int .i64 (((k : Nat) : Int) + 1)) (by kernel_rfl) rfl (by kernel_rfl) ?_
        refine x_nil ?_
        refine x_then ?_
        replace H := H.pick [0, 1, 2, 3] [.blk p #[.int .i64 rL, .int .i64 rE, .int .i64 pL, .int .i64 pE, .int .i64 ((room : Nat) : Int), .int .i64 hv, .slice (some ⟨gr, 0, none⟩) ranks ranks, .pointer (some ⟨t, 0, none⟩)] 187, .row (.slice (some ⟨gr, 0, none⟩) ranks ranks) 86 2 ranks (List.flatMap bukL (List.map (btick rE) rs2)), .blk t #[svn, .int .i64 ((room : Nat) : Int), .func (.func 103) #[] #[]] 228, .row (svn) 230 3 (List.length (List.map (tickX pE) xs2)) (List.flatMap pairLB (List.map (tickX pE) xs2))] (by decide) (by kernel_rfl)
        exact ⟨(k + 1, svn, (List.map (btick rE) rs2), (List.map (tickX pE) xs2)), (by dsimp only; omega), (nthV [.pointer (some ⟨g1, 0, none⟩), .bool true, .pointer (some ⟨ga, oa + k * 4, none⟩), .agg #[.int .i64 ((l.getD k (0, 0, 0, 0)).1), .int .i64 ((l.getD k (0, 0, 0, 0)).2.1), .int .i64 ((l.getD k (0, 0, 0, 0)).2.2.1), .int .i64 ((l.getD k (0, 0, 0, 0)).2.2.2)], .pointer (some ⟨g1, 0, none⟩), .int .i64 ((l.getD k (0, 0, 0, 0)).1), .bool false, .bool false, (uf1 8), (uf1 9), (uf1 10), (uf1 11), (uf1 12), (uf1 13), (uf1 14), (uf1 15), .bool true, .bool true, .pointer (some ⟨p, 0, none⟩), .tuple #[], (uf1 20), (uf1 21), (uf1 22), (uf1 23), (uf1 24), (uf1 25), (uf1 26), (uf1 27), (uf1 28), (uf1 29), (uf1 30), (uf1 31), .int .i64 (((k : Nat) : Int) + 1)]), (by kernel_rfl), H, (by omega), (by show _ = stR ranks rE (playT ranks room rE pE l (rs, xs) k).1 (l.getD k (0, 0, 0, 0)); rw [← r2]; unfold stR; rw [if_neg (show ¬ (l.getD k (0, 0, 0, 0)).1 = 1 by omega), if_pos (show (l.getD k (0, 0, 0, 0)).1 = 2 by omega)]), (by show _ = stX ranks room pE (playT ranks room rE pE l (rs, xs) k).2 (l.getD k (0, 0, 0, 0)); rw [← r3]; unfold stX; rw [if_neg (show ¬ (l.getD k (0, 0, 0, 0)).1 = 1 by omega), if_pos (show (l.getD k (0, 0, 0, 0)).1 = 2 by omega)])⟩
    · skip
      have h2p := of_decide_eq_true h2
      refine x_t (by kernel_rfl) ?_
      refine x_region ?_
      refine x_val (.pointer (some ⟨p, 0, none⟩)) (by kernel_rfl) rfl (by kernel_rfl) ?_
      refine x_val (.pointer (some ⟨g1, 1, none⟩)) (by kernel_rfl) rfl (by kernel_rfl) ?_
      refine x_load1 H 0 g1 1 _ _ (.int .i64 ((l.getD k (0, 0, 0, 0)).2.1)) rfl (by kernel_rfl) (by kernel_rfl) rfl (by kernel_rfl) ?_
      refine x_val (.pointer (some ⟨g1, 2, none⟩)) (by kernel_rfl) rfl (by kernel_rfl) ?_
      refine x_load1 H 0 g1 2 _ _ (.int .i64 ((l.getD k (0, 0, 0, 0)).2.2.1)) rfl (by kernel_rfl) (by kernel_rfl) rfl (by kernel_rfl) ?_
      refine x_val (.pointer (some ⟨g1, 3, none⟩)) (by kernel_rfl) rfl (by kernel_rfl) ?_
      refine x_load1 H 0 g1 3 _ _ (.int .i64 ((l.getD k (0, 0, 0, 0)).2.2.2)) rfl (by kernel_rfl) (by kernel_rfl) rfl (by kernel_rfl) ?_
      refine x_call (by kernel_rfl) rfl (by kernel_rfl) (Hs.useE (A := [.blk p #[.int .i64 rL, .int .i64 rE, .int .i64 pL, .int .i64 pE, .int .i64 ((room : Nat) : Int), .int .i64 hv, .slice (some ⟨gr, 0, none⟩) ranks ranks, .pointer (some ⟨t, 0, none⟩)] 187, .row (.slice (some ⟨gr, 0, none⟩) ranks ranks) 86 2 ranks (List.flatMap bukL rs2), .blk t #[sv2, .int .i64 ((room : Nat) : Int), .func (.func 103) #[] #[]] 228, .row (sv2) 230 3 (List.length xs2) (List.flatMap pairLB xs2)]) (R := [.blk g1 #[.int .i64 ((l.getD k (0, 0, 0, 0)).1), .int .i64 ((l.getD k (0, 0, 0, 0)).2.1), .int .i64 ((l.getD k (0, 0, 0, 0)).2.2.1), .int .i64 ((l.getD k (0, 0, 0, 0)).2.2.2)] 88]) (fun svn => [.blk p #[.int .i64 rL, .int .i64 rE, .int .i64 pL, .int .i64 pE, .int .i64 ((room : Nat) : Int), .int .i64 hv, .slice (some ⟨gr, 0, none⟩) ranks ranks, .pointer (some ⟨t, 0, none⟩)] 187, .row (.slice (some ⟨gr, 0, none⟩) ranks ranks) 86 2 ranks (List.flatMap bukL (nRs ranks rs2 ((l.getD k (0, 0, 0, 0)).2.1) ((l.getD k (0, 0, 0, 0)).2.2.2))), .blk t #[svn, .int .i64 ((room : Nat) : Int), .func (.func 103) #[] #[]] 228, .row (svn) 230 3 (List.length (nXs ranks room xs2 ((l.getD k (0, 0, 0, 0)).2.1) ((l.getD k (0, 0, 0, 0)).2.2.1) ((l.getD k (0, 0, 0, 0)).2.2.2))) (List.flatMap pairLB (nXs ranks room xs2 ((l.getD k (0, 0, 0, 0)).2.1) ((l.getD k (0, 0, 0, 0)).2.2.1) ((l.getD k (0, 0, 0, 0)).2.2.2)))]) (fun _ => .tuple #[.agg #[.bool (nC1 rL ranks rs2 ((l.getD k (0, 0, 0, 0)).2.1) ((l.getD k (0, 0, 0, 0)).2.2.2)), .bool (nC2 pL ranks xs2 ((l.getD k (0, 0, 0, 0)).2.1) ((l.getD k (0, 0, 0, 0)).2.2.1) ((l.getD k (0, 0, 0, 0)).2.2.2))], .int .i64 (nE ranks ((l.getD k (0, 0, 0, 0)).2.1) ((l.getD k (0, 0, 0, 0)).2.2.2))]) (H.pick [1, 2, 3, 4, 0] _ (by decide) (by kernel_rfl)) (fun h => Note_any ((l.getD k (0, 0, 0, 0)).2.1) ((l.getD k (0, 0, 0, 0)).2.2.1) ((l.getD k (0, 0, 0, 0)).2.2.2) hk hP _ h)) ?_
      rintro _ v7 ⟨svn, rfl, H'⟩
      refine ⟨_, rfl, ?_⟩
      clear H
      have H : Hs M w0 _ [.blk p #[.int .i64 rL, .int .i64 rE, .int .i64 pL, .int .i64 pE, .int .i64 ((room : Nat) : Int), .int .i64 hv, .slice (some ⟨gr, 0, none⟩) ranks ranks, .pointer (some ⟨t, 0, none⟩)] 187, .row (.slice (some ⟨gr, 0, none⟩) ranks ranks) 86 2 ranks (List.flatMap bukL (nRs ranks rs2 ((l.getD k (0, 0, 0, 0)).2.1) ((l.getD k (0, 0, 0, 0)).2.2.2))), .blk t #[svn, .int .i64 ((room : Nat) : Int), .func (.func 103) #[] #[]] 228, .row (svn) 230 3 (List.length (nXs ranks room xs2 ((l.getD k (0, 0, 0, 0)).2.1) ((l.getD k (0, 0, 0, 0)).2.2.1) ((l.getD k (0, 0, 0, 0)).2.2.2))) (List.flatMap pairLB (nXs ranks room xs2 ((l.getD k (0, 0, 0, 0)).2.1) ((l.getD k (0, 0, 0, 0)).2.2.1) ((l.getD k (0, 0, 0, 0)).2.2.2))), .blk g1 #[.int .i64 ((l.getD k (0, 0, 0, 0)).1), .int .i64 ((l.getD k (0, 0, 0, 0)).2.1), .int .i64 ((l.getD k (0, 0, 0, 0)).2.2.1), .int .i64 ((l.getD k (0, 0, 0, 0)).2.2.2)] 88] := H'
      clear H'
      refine x_nil ?_
      refine x_blk ?_
      refine x_blk ?_
      refine x_then ?_
      refine x_region ?_
      refine x_ar (((k : Nat) : Int) + 1) ⟨by omega, by omega⟩ (by kernel_rfl) rfl (by kernel_rfl) ?_
      refine x_val (.int .i64 (((k : Nat) : Int) + 1)) (by kernel_rfl) rfl (by kernel_rfl) ?_
      refine x_nil ?_
      refine x_then ?_
      replace H := H.pick [0, 1, 2, 3] [.blk p #[.int .i64 rL, .int .i64 rE, .int .i64 pL, .int .i64 pE, .int .i64 ((room : Nat) : Int), .int .i64 hv, .slice (some ⟨gr, 0, none⟩) ranks ranks, .pointer (some ⟨t, 0, none⟩)] 187, .row (.slice (some ⟨gr, 0, none⟩) ranks ranks) 86 2 ranks (List.flatMap bukL (nRs ranks rs2 ((l.getD k (0, 0, 0, 0)).2.1) ((l.getD k (0, 0, 0, 0)).2.2.2))), .blk t #[svn, .int .i64 ((room : Nat) : Int), .func (.func 103) #[] #[]] 228, .row (svn) 230 3 (List.length (nXs ranks room xs2 ((l.getD k (0, 0, 0, 0)).2.1) ((l.getD k (0, 0, 0, 0)).2.2.1) ((l.getD k (0, 0, 0, 0)).2.2.2))) (List.flatMap pairLB (nXs ranks room xs2 ((l.getD k (0, 0, 0, 0)).2.1) ((l.getD k (0, 0, 0, 0)).2.2.1) ((l.getD k (0, 0, 0, 0)).2.2.2)))] (by decide) (by kernel_rfl)
      exact ⟨(k + 1, svn, (nRs ranks rs2 ((l.getD k (0, 0, 0, 0)).2.1) ((l.getD k (0, 0, 0, 0)).2.2.2)), (nXs ranks room xs2 ((l.getD k (0, 0, 0, 0)).2.1) ((l.getD k (0, 0, 0, 0)).2.2.1) ((l.getD k (0, 0, 0, 0)).2.2.2))), (by dsimp only; omega), (nthV [.pointer (some ⟨g1, 0, none⟩), .bool true, .pointer (some ⟨ga, oa + k * 4, none⟩), .agg #[.int .i64 ((l.getD k (0, 0, 0, 0)).1), .int .i64 ((l.getD k (0, 0, 0, 0)).2.1), .int .i64 ((l.getD k (0, 0, 0, 0)).2.2.1), .int .i64 ((l.getD k (0, 0, 0, 0)).2.2.2)], .pointer (some ⟨g1, 0, none⟩), .int .i64 ((l.getD k (0, 0, 0, 0)).1), .bool true, .bool true, .pointer (some ⟨p, 0, none⟩), .pointer (some ⟨g1, 1, none⟩), .int .i64 ((l.getD k (0, 0, 0, 0)).2.1), .pointer (some ⟨g1, 2, none⟩), .int .i64 ((l.getD k (0, 0, 0, 0)).2.2.1), .pointer (some ⟨g1, 3, none⟩), .int .i64 ((l.getD k (0, 0, 0, 0)).2.2.2), .tuple #[.agg #[.bool (nC1 rL ranks rs2 ((l.getD k (0, 0, 0, 0)).2.1) ((l.getD k (0, 0, 0, 0)).2.2.2)), .bool (nC2 pL ranks xs2 ((l.getD k (0, 0, 0, 0)).2.1) ((l.getD k (0, 0, 0, 0)).2.2.1) ((l.getD k (0, 0, 0, 0)).2.2.2))], .int .i64 (nE ranks ((l.getD k (0, 0, 0, 0)).2.1) ((l.getD k (0, 0, 0, 0)).2.2.2))], (uf1 16), (uf1 17), (uf1 18), (uf1 19), (uf1 20), (uf1 21), (uf1 22), (uf1 23), (uf1 24), (uf1 25), (uf1 26), (uf1 27), (uf1 28), (uf1 29), (uf1 30), (uf1 31), .int .i64 (((k : Nat) : Int) + 1)]), (by kernel_rfl), H, (by omega), (by show _ = stR ranks rE (playT ranks room rE pE l (rs, xs) k).1 (l.getD k (0, 0, 0, 0)); rw [← r2]; unfold stR; rw [if_pos (show (l.getD k (0, 0, 0, 0)).1 = 1 by omega)]), (by show _ = stX ranks room pE (playT ranks room rE pE l (rs, xs) k).2 (l.getD k (0, 0, 0, 0)); rw [← r3]; unfold stX; rw [if_pos (show (l.getD k (0, 0, 0, 0)).1 = 1 by omega)])⟩

set_option maxRecDepth 100000 in
set_option maxHeartbeats 4000000 in
theorem Alike_of {M : List Nat} {a0 a1 a2 b0 b1 b2 : Value} {rs bs : List Buk} {ps : List Int} {nR nP : Nat} (hr : rs.length = nR) (hb : bs.length = nP) (hp : ps.length = nP) (h8 : nR ≤ 8) (h256 : nP ≤ 256) (w0 : World) (H0 : Hs M w0 w0 [.row (a0) 86 2 nR (List.flatMap bukL rs), .row (a1) 3 1 nP (List.map (Value.int .i64) ps), .row (a2) 86 2 nP (List.flatMap bukL bs), .row (b0) 86 2 nR (List.flatMap bukL rs), .row (b1) 3 1 nP (List.map (Value.int .i64) ps), .row (b2) 86 2 nP (List.flatMap bukL bs)]) :
    Calls Try.prog 80 #[.agg #[a0, a1, a2], .agg #[b0, b1, b2]] w0 fun e w' => e = .returned (.bool true) ∧ Hs M w0 w' [] := by
  refine x_enter Try.func80 rfl #[.agg #[a0, a1, a2], .agg #[b0, b1, b2], undef, undef, undef, undef, undef, undef, undef, undef, undef, undef, undef, undef, undef, undef, undef, undef, undef, undef, undef, undef, undef, undef, undef, undef, undef, undef, undef, undef, undef, undef, undef, undef, undef, undef, undef, undef, undef, undef, undef, undef, undef, undef, undef, undef, undef, undef, undef, undef, undef, undef, undef, undef, undef, undef, undef, undef, undef, undef, undef, undef, undef, undef, undef, undef, undef, undef, undef, undef, undef, undef, undef, undef, undef, undef, undef, undef, undef, undef, undef, undef, undef, undef, undef, undef, undef, undef, undef, undef] (by kernel_rfl) ?_
  have H := H0
  refine x_seq ?_
  refine x_region ?_
  refine x_box H #[a0, a1, a2] 147 (by kernel_rfl) rfl (by kernel_rfl) ?_
  clear H
  intro v1 g1 H
  refine x_box H #[b0, b1, b2] 147 (by kernel_rfl) rfl (by kernel_rfl) ?_
  clear H
  intro v2 g2 H
  refine x_val (.bool false) (by kernel_rfl) rfl (by kernel_rfl) ?_
  refine x_nil ?_
  refine x_then ?_
  refine x_seq ?_
  refine x_seq ?_
  refine x_region ?_
  refine x_val (.pointer (some ⟨g1, 0, none⟩)) (by kernel_rfl) rfl (by kernel_rfl) ?_
  refine x_load1 H 1 g1 0 _ _ (a0) rfl (by kernel_rfl) (by kernel_rfl) rfl (by kernel_rfl) ?_
  refine x_lenR H 2 a0 145 86 2 nR (List.flatMap bukL rs) rfl (by kernel_rfl) (by kernel_rfl) rfl (by kernel_rfl) ?_
  refine x_val (.pointer (some ⟨g2, 0, none⟩)) (by kernel_rfl) rfl (by kernel_rfl) ?_
  refine x_load1 H 0 g2 0 _ _ (b0) rfl (by kernel_rfl) (by kernel_rfl) rfl (by kernel_rfl) ?_
  refine x_lenR H 5 b0 145 86 2 nR (List.flatMap bukL rs) rfl (by kernel_rfl) (by kernel_rfl) rfl (by kernel_rfl) ?_
  refine x_eq (.bool false) (show Value.bool (!decide (((nR : Nat) : Int) = ((nR : Nat) : Int))) = Value.bool false by simp) (by kernel_rfl) rfl (by kernel_rfl) ?_
  refine x_val (.bool false) (by kernel_rfl) rfl (by kernel_rfl) ?_
  refine x_val (.pointer (some ⟨g1, 1, none⟩)) (by kernel_rfl) rfl (by kernel_rfl) ?_
  refine x_load1 H 1 g1 1 _ _ (a1) rfl (by kernel_rfl) (by kernel_rfl) rfl (by kernel_rfl) ?_
  refine x_lenR H 3 a1 106 3 1 nP (List.map (Value.int .i64) ps) rfl (by kernel_rfl) (by kernel_rfl) rfl (by kernel_rfl) ?_
  refine x_val (.pointer (some ⟨g2, 1, none⟩)) (by kernel_rfl) rfl (by kernel_rfl) ?_
  refine x_load1 H 0 g2 1 _ _ (b1) rfl (by kernel_rfl) (by kernel_rfl) rfl (by kernel_rfl) ?_
  refine x_lenR H 6 b1 106 3 1 nP (List.map (Value.int .i64) ps) rfl (by kernel_rfl) (by kernel_rfl) rfl (by kernel_rfl) ?_
  refine x_eq (.bool false) (show Value.bool (!decide (((nP : Nat) : Int) = ((nP : Nat) : Int))) = Value.bool false by simp) (by kernel_rfl) rfl (by kernel_rfl) ?_
  refine x_val (.bool false) (by kernel_rfl) rfl (by kernel_rfl) ?_
  refine x_val (.bool false) (by kernel_rfl) rfl (by kernel_rfl) ?_
  refine x_val (.pointer (some ⟨g1, 2, none⟩)) (by kernel_rfl) rfl (by kernel_rfl) ?_
  refine x_load1 H 1 g1 2 _ _ (a2) rfl (by kernel_rfl) (by kernel_rfl) rfl (by kernel_rfl) ?_
  refine x_lenR H 4 a2 145 86 2 nP (List.flatMap bukL bs) rfl (by kernel_rfl) (by kernel_rfl) rfl (by kernel_rfl) ?_
  refine x_val (.pointer (some ⟨g2, 2, none⟩)) (by kernel_rfl) rfl (by kernel_rfl) ?_
  refine x_load1 H 0 g2 2 _ _ (b2) rfl (by kernel_rfl) (by kernel_rfl) rfl (by kernel_rfl) ?_
  refine x_lenR H 7 b2 145 86 2 nP (List.flatMap bukL bs) rfl (by kernel_rfl) (by kernel_rfl) rfl (by kernel_rfl) ?_
  refine x_eq (.bool false) (show Value.bool (!decide (((nP : Nat) : Int) = ((nP : Nat) : Int))) = Value.bool false by simp) (by kernel_rfl) rfl (by kernel_rfl) ?_
  refine x_val (.bool false) (by kernel_rfl) rfl (by kernel_rfl) ?_
  refine x_val (.bool false) (by kernel_rfl) rfl (by kernel_rfl) ?_
  refine x_val (.pointer (some ⟨g1, 1, none⟩)) (by kernel_rfl) rfl (by kernel_rfl) ?_
  refine x_load1 H 1 g1 1 _ _ (a1) rfl (by kernel_rfl) (by kernel_rfl) rfl (by kernel_rfl) ?_
  refine x_lenR H 3 a1 106 3 1 nP (List.map (Value.int .i64) ps) rfl (by kernel_rfl) (by kernel_rfl) rfl (by kernel_rfl) ?_
  refine x_val (.pointer (some ⟨g1, 2, none⟩)) (by kernel_rfl) rfl (by kernel_rfl) ?_
  refine x_load1 H 1 g1 2 _ _ (a2) rfl (by kernel_rfl) (by kernel_rfl) rfl (by kernel_rfl) ?_
  refine x_lenR H 4 a2 145 86 2 nP (List.flatMap bukL bs) rfl (by kernel_rfl) (by kernel_rfl) rfl (by kernel_rfl) ?_
  refine x_eq (.bool false) (show Value.bool (!decide (((nP : Nat) : Int) = ((nP : Nat) : Int))) = Value.bool false by simp) (by kernel_rfl) rfl (by kernel_rfl) ?_
  refine x_val (.bool false) (by kernel_rfl) rfl (by kernel_rfl) ?_
  refine x_nil ?_
  refine x_then ?_
  refine x_f (by kernel_rfl) ?_
  refine x_skipc ?_
  refine x_then ?_
  refine x_seq ?_
  refine x_seq ?_
  refine x_region ?_
  refine x_val (.pointer (some ⟨g1, 0, none⟩)) (by kernel_rfl) rfl (by kernel_rfl) ?_
  refine x_load1 H 1 g1 0 _ _ (a0) rfl (by kernel_rfl) (by kernel_rfl) rfl (by kernel_rfl) ?_
  refine x_lenR H 2 a0 145 86 2 nR (List.flatMap bukL rs) rfl (by kernel_rfl) (by kernel_rfl) rfl (by kernel_rfl) ?_
  refine x_val (.int .i64 0) (by kernel_rfl) rfl (by kernel_rfl) ?_
  refine x_nil ?_
  refine x_then ?_
  refine x_block ?_
  refine x_loop (G := Nat) (fun (k : Nat) a w' => ∃ uf1 : Nat → Value, a = { tmps := #[.agg #[a0, a1, a2], .agg #[b0, b1, b2], .pointer (some ⟨g1, 0, none⟩), .pointer (some ⟨g2, 0, none⟩), (uf1 0), (uf1 1), undef, .pointer (some ⟨g1, 0, none⟩), a0, .int .i64 ((nR : Nat) : Int), .pointer (some ⟨g2, 0, none⟩), b0, .int .i64 ((nR : Nat) : Int), .bool false, .bool false, .pointer (some ⟨g1, 1, none⟩), a1, .int .i64 ((nP : Nat) : Int), .pointer (some ⟨g2, 1, none⟩), b1, .int .i64 ((nP : Nat) : Int), .bool false, .bool false, .bool false, .pointer (some ⟨g1, 2, none⟩), a2, .int .i64 ((nP : Nat) : Int), .pointer (some ⟨g2, 2, none⟩), b2, .int .i64 ((nP : Nat) : Int), .bool false, .bool false, .bool false, .pointer (some ⟨g1, 1, none⟩), a1, .int .i64 ((nP : Nat) : Int), .pointer (some ⟨g1, 2, none⟩), a2, .int .i64 ((nP : Nat) : Int), .bool false, .bool false, .pointer (some ⟨g1, 0, none⟩), a0, .int .i64 ((nR : Nat) : Int), .int .i64 ((k : Nat) : Int), (uf1 2), (uf1 3), (uf1 4), (uf1 5), (uf1 6), (uf1 7), (uf1 8), (uf1 9), (uf1 10), (uf1 11), (uf1 12), (uf1 13), (uf1 14), (uf1 15), undef, undef, undef, undef, undef, undef, undef, undef, undef, undef, undef, undef, undef, undef, undef, undef, undef, undef, undef, undef, undef, undef, undef, undef, undef, undef, undef, undef, undef, undef, undef], defers := [] } ∧ Hs M w0 w' [.blk g2 #[b0, b1, b2] 147, .blk g1 #[a0, a1, a2] 147, .row (a0) 86 2 nR (List.flatMap bukL rs), .row (a1) 3 1 nP (List.map (Value.int .i64) ps), .row (a2) 86 2 nP (List.flatMap bukL bs), .row (b0) 86 2 nR (List.flatMap bukL rs), .row (b1) 3 1 nP (List.map (Value.int .i64) ps), .row (b2) 86 2 nP (List.flatMap bukL bs)] ∧ (k ≤ nR)) (fun (k : Nat) => nR - k) 0 ⟨(nthV [.bool false, undef, undef, undef, undef, undef, undef, undef, undef, undef, undef, undef, undef, undef, undef, undef]), (by kernel_rfl), H, (Nat.zero_le _)⟩ ?_
  clear H
  rintro k _ v3 ⟨uf1, rfl, H, r1⟩
  refine x_seq ?_
  refine x_region ?_
  refine x_val (.bool (decide (((k : Nat) : Int) < ((nR : Nat) : Int)))) (by kernel_rfl) rfl (by kernel_rfl) ?_
  refine x_nil ?_
  refine x_then ?_
  refine x_seq ?_
  cases h1 : decide (((k : Nat) : Int) < ((nR : Nat) : Int))
  · skip
    have h1p := of_decide_eq_false h1
    refine x_f (by kernel_rfl) ?_
    refine x_exit ?_
    refine x_then_exit ?_
    refine x_then_exit ?_
    refine x_blk_exit ?_
    refine x_then ?_
    refine x_seq ?_
    refine x_seq ?_
    refine x_region ?_
    refine x_val (.pointer (some ⟨g1, 1, none⟩)) (by kernel_rfl) rfl (by kernel_rfl) ?_
    refine x_load1 H 1 g1 1 _ _ (a1) rfl (by kernel_rfl) (by kernel_rfl) rfl (by kernel_rfl) ?_
    refine x_lenR H 3 a1 106 3 1 nP (List.map (Value.int .i64) ps) rfl (by kernel_rfl) (by kernel_rfl) rfl (by kernel_rfl) ?_
    refine x_val (.int .i64 0) (by kernel_rfl) rfl (by kernel_rfl) ?_
    refine x_nil ?_
    refine x_then ?_
    refine x_block ?_
    refine x_loop (G := Nat) (fun (k2 : Nat) a w' => ∃ uf2 : Nat → Value, a = { tmps := #[.agg #[a0, a1, a2], .agg #[b0, b1, b2], .pointer (some ⟨g1, 0, none⟩), .pointer (some ⟨g2, 0, none⟩), (uf2 0), (uf1 1), (uf2 1), .pointer (some ⟨g1, 0, none⟩), a0, .int .i64 ((nR : Nat) : Int), .pointer (some ⟨g2, 0, none⟩), b0, .int .i64 ((nR : Nat) : Int), .bool false, .bool false, .pointer (some ⟨g1, 1, none⟩), a1, .int .i64 ((nP : Nat) : Int), .pointer (some ⟨g2, 1, none⟩), b1, .int .i64 ((nP : Nat) : Int), .bool false, .bool false, .bool false, .pointer (some ⟨g1, 2, none⟩), a2, .int .i64 ((nP : Nat) : Int), .pointer (some ⟨g2, 2, none⟩), b2, .int .i64 ((nP : Nat) : Int), .bool false, .bool false, .bool false, .pointer (some ⟨g1, 1, none⟩), a1, .int .i64 ((nP : Nat) : Int), .pointer (some ⟨g1, 2, none⟩), a2, .int .i64 ((nP : Nat) : Int), .bool false, .bool false, .pointer (some ⟨g1, 0, none⟩), a0, .int .i64 ((nR : Nat) : Int), .int .i64 ((k : Nat) : Int), .bool false, (uf1 3), (uf1 4), (uf1 5), (uf1 6), (uf1 7), (uf1 8), (uf1 9), (uf1 10), (uf1 11), (uf1 12), (uf1 13), (uf1 14), (uf1 15), .pointer (some ⟨g1, 1, none⟩), a1, .int .i64 ((nP : Nat) : Int), .int .i64 ((k2 : Nat) : Int), (uf2 2), (uf2 3), (uf2 4), (uf2 5), (uf2 6), (uf2 7), (uf2 8), (uf2 9), (uf2 10), (uf2 11), (uf2 12), (uf2 13), (uf2 14), (uf2 15), (uf2 16), (uf2 17), (uf2 18), (uf2 19), (uf2 20), (uf2 21), (uf2 22), (uf2 23), (uf2 24), (uf2 25), (uf2 26), (uf2 27), (uf2 28)], defers := [] } ∧ Hs M w0 w' [.blk g2 #[b0, b1, b2] 147, .blk g1 #[a0, a1, a2] 147, .row (a0) 86 2 nR (List.flatMap bukL rs), .row (a1) 3 1 nP (List.map (Value.int .i64) ps), .row (a2) 86 2 nP (List.flatMap bukL bs), .row (b0) 86 2 nR (List.flatMap bukL rs), .row (b1) 3 1 nP (List.map (Value.int .i64) ps), .row (b2) 86 2 nP (List.flatMap bukL bs)] ∧ (k2 ≤ nP)) (fun (k2 : Nat) => nP - k2) 0 ⟨(nthV [(uf1 0), undef, undef, undef, undef, undef, undef, undef, undef, undef, undef, undef, undef, undef, undef, undef, undef, undef, undef, undef, undef, undef, undef, undef, undef, undef, undef, undef, undef]), (by kernel_rfl), H, (Nat.zero_le _)⟩ ?_
    clear H
    rintro k2 _ v4 ⟨uf2, rfl, H, r1⟩
    refine x_seq ?_
    refine x_region ?_
    refine x_val (.bool (decide (((k2 : Nat) : Int) < ((nP : Nat) : Int)))) (by kernel_rfl) rfl (by kernel_rfl) ?_
    refine x_nil ?_
    refine x_then ?_
    refine x_seq ?_
    cases h2 : decide (((k2 : Nat) : Int) < ((nP : Nat) : Int))
    · skip
      have h2p := of_decide_eq_false h2
      refine x_f (by kernel_rfl) ?_
      refine x_exit ?_
      refine x_then_exit ?_
      refine x_then_exit ?_
      refine x_blk_exit ?_
      refine x_then ?_
      refine x_seq ?_
      refine x_region ?_
      refine x_val (.bool true) (by kernel_rfl) rfl (by kernel_rfl) ?_
      refine x_nil ?_
      refine x_then ?_
      refine x_retc ?_
      refine x_ret (.bool true) (by kernel_rfl) (by kernel_rfl) ?_
      exact ⟨rfl, H.pick [] [] (by decide) rfl⟩
    · skip
      have h2p := of_decide_eq_true h2
      refine x_t (by kernel_rfl) ?_
      refine x_skipc ?_
      refine x_then ?_
      refine x_seq ?_
      refine x_block ?_
      refine x_seq ?_
      refine x_region ?_
      rcases H.rowForm 3 rfl with ⟨rfl, hf0⟩ | ⟨gf1, cf1, rfl, hcf1, -⟩
      · exfalso; omega
      rcases H.rowForm 6 rfl with ⟨rfl, hf0⟩ | ⟨gf2, cf2, rfl, hcf2, -⟩
      · exfalso; omega
      rcases H.rowForm 4 rfl with ⟨rfl, hf0⟩ | ⟨gf3, cf3, rfl, hcf3, -⟩
      · exfalso; omega
      rcases H.rowForm 7 rfl with ⟨rfl, hf0⟩ | ⟨gf4, cf4, rfl, hcf4, -⟩
      · exfalso; omega
      skip
      refine x_val (.int .i64 ((k2 : Nat) : Int)) (by kernel_rfl) rfl (by kernel_rfl) ?_
      refine x_val (.int .i64 ((k2 : Nat) : Int)) (by kernel_rfl) rfl (by kernel_rfl) ?_
      refine x_nil ?_
      refine x_then ?_
      refine x_seq ?_
      refine x_region_whole (fun w' => Hs M w0 w' [.blk g2 #[b0, .slice (some ⟨gf2, 0, none⟩) nP cf2, .slice (some ⟨gf4, 0, none⟩) nP cf4] 147, .blk g1 #[a0, .slice (some ⟨gf1, 0, none⟩) nP cf1, .slice (some ⟨gf3, 0, none⟩) nP cf3] 147, .row (a0) 86 2 nR (List.flatMap bukL rs), .row (.slice (some ⟨gf1, 0, none⟩) nP cf1) 3 1 nP (List.map (Value.int .i64) ps), .row (.slice (some ⟨gf3, 0, none⟩) nP cf3) 86 2 nP (List.flatMap bukL bs), .row (b0) 86 2 nR (List.flatMap bukL rs), .row (.slice (some ⟨gf2, 0, none⟩) nP cf2) 3 1 nP (List.map (Value.int .i64) ps), .row (.slice (some ⟨gf4, 0, none⟩) nP cf4) 86 2 nP (List.flatMap bukL bs)]) (by kernel_rfl) (by kernel_rfl) (by kernel_rfl) H.drew ?_
      refine q_val (.pointer (some ⟨g1, 1, none⟩)) (by kernel_rfl) (fun _ => by kernel_rfl) ?_
      refine q_load1 1 g1 1 #[a0, .slice (some ⟨gf1, 0, none⟩) nP cf1, .slice (some ⟨gf3, 0, none⟩) nP cf3] 147 (.slice (some ⟨gf1, 0, none⟩) nP cf1) (by kernel_rfl) (by kernel_rfl) (by kernel_rfl) (fun _ => by kernel_rfl) ?_
      refine q_val (.int .i64 ((k2 : Nat) : Int)) (by kernel_rfl) (fun _ => by kernel_rfl) ?_
      refine q_ix (t := 106) gf1 0 k2 nP cf1 3 1 k2 (by omega) (by omega) (by kernel_rfl) (by kernel_rfl) (by kernel_rfl) (fun _ => by kernel_rfl) ?_
      refine q_loadc gf1 k2 (.int .i64 (ps.getD k2 0)) (fun _ H => H.rowCell 3 rfl k2 (mapAt 0 (by omega))) (by kernel_rfl) (fun _ => by kernel_rfl) ?_
      refine q_val (.pointer (some ⟨g2, 1, none⟩)) (by kernel_rfl) (fun _ => by kernel_rfl) ?_
      refine q_load1 0 g2 1 #[b0, .slice (some ⟨gf2, 0, none⟩) nP cf2, .slice (some ⟨gf4, 0, none⟩) nP cf4] 147 (.slice (some ⟨gf2, 0, none⟩) nP cf2) (by kernel_rfl) (by kernel_rfl) (by kernel_rfl) (fun _ => by kernel_rfl) ?_
      refine q_val (.int .i64 ((k2 : Nat) : Int)) (by kernel_rfl) (fun _ => by kernel_rfl) ?_
      refine q_ix (t := 106) gf2 0 k2 nP cf2 3 1 k2 (by omega) (by omega) (by kernel_rfl) (by kernel_rfl) (by kernel_rfl) (fun _ => by kernel_rfl) ?_
      refine q_loadc gf2 k2 (.int .i64 (ps.getD k2 0)) (fun _ H => H.rowCell 6 rfl k2 (mapAt 0 (by omega))) (by kernel_rfl) (fun _ => by kernel_rfl) ?_
      refine q_eq (.bool false) (show Value.bool (!decide ((ps.getD k2 0) = (ps.getD k2 0))) = Value.bool false by simp) (by kernel_rfl) (fun _ => by kernel_rfl) ?_
      refine q_val (.bool false) (by kernel_rfl) (fun _ => by kernel_rfl) ?_
      refine q_val (.pointer (some ⟨g1, 2, none⟩)) (by kernel_rfl) (fun _ => by kernel_rfl) ?_
      refine q_load1 1 g1 2 #[a0, .slice (some ⟨gf1, 0, none⟩) nP cf1, .slice (some ⟨gf3, 0, none⟩) nP cf3] 147 (.slice (some ⟨gf3, 0, none⟩) nP cf3) (by kernel_rfl) (by kernel_rfl) (by kernel_rfl) (fun _ => by kernel_rfl) ?_
      refine q_val (.int .i64 ((k2 : Nat) : Int)) (by kernel_rfl) (fun _ => by kernel_rfl) ?_
      refine q_ix (t := 145) gf3 0 k2 nP cf3 86 2 (k2 * 2) (by omega) (by omega) (by kernel_rfl) (by kernel_rfl) (by kernel_rfl) (fun _ => by kernel_rfl) ?_
      refine q_loadcn (t := 86) gf3 (k2 * 2) [.int .i64 ((bs.getD k2 (0, 0)).1), .int .i64 ((bs.getD k2 (0, 0)).2)] (fun _ H => H.rowCells 4 rfl (k2 * 2) (flatAt bukLen (0, 0) _ (by omega))) (by kernel_rfl) (by kernel_rfl) (by kernel_rfl) ?_
      refine q_val (.pointer (some ⟨g2, 2, none⟩)) (by kernel_rfl) (fun _ => by kernel_rfl) ?_
      refine q_load1 0 g2 2 #[b0, .slice (some ⟨gf2, 0, none⟩) nP cf2, .slice (some ⟨gf4, 0, none⟩) nP cf4] 147 (.slice (some ⟨gf4, 0, none⟩) nP cf4) (by kernel_rfl) (by kernel_rfl) (by kernel_rfl) (fun _ => by kernel_rfl) ?_
      refine q_val (.int .i64 ((k2 : Nat) : Int)) (by kernel_rfl) (fun _ => by kernel_rfl) ?_
      refine q_ix (t := 145) gf4 0 k2 nP cf4 86 2 (k2 * 2) (by omega) (by omega) (by kernel_rfl) (by kernel_rfl) (by kernel_rfl) (fun _ => by kernel_rfl) ?_
      refine q_loadcn (t := 86) gf4 (k2 * 2) [.int .i64 ((bs.getD k2 (0, 0)).1), .int .i64 ((bs.getD k2 (0, 0)).2)] (fun _ H => H.rowCells 7 rfl (k2 * 2) (flatAt bukLen (0, 0) _ (by omega))) (by kernel_rfl) (by kernel_rfl) (by kernel_rfl) ?_
      have h3 : (decide ((((bs.getD k2 (0, 0)).1) : Int) = ((bs.getD k2 (0, 0)).1)) && (decide ((((bs.getD k2 (0, 0)).2) : Int) = ((bs.getD k2 (0, 0)).2)) && true)) = true := by simp
      refine q_val (.bool false) (by kernel_rfl) (fun _ => ((run_neS (t := 86) (x := .tmp 81) (y := .tmp 86) (xs := #[.int .i64 ((bs.getD k2 (0, 0)).1), .int .i64 ((bs.getD k2 (0, 0)).2)]) (ys := #[.int .i64 ((bs.getD k2 (0, 0)).1), .int .i64 ((bs.getD k2 (0, 0)).2)]) (B := decide ((((bs.getD k2 (0, 0)).1) : Int) = ((bs.getD k2 (0, 0)).1)) && (decide ((((bs.getD k2 (0, 0)).2) : Int) = ((bs.getD k2 (0, 0)).2)) && true)) (by kernel_rfl) (by kernel_rfl) (by kernel_rfl)).trans (by rw [h3]; try rfl))) ?_
      refine q_val (.bool false) (by kernel_rfl) (fun _ => by kernel_rfl) ?_
      refine q_nil ?_
      clear H
      intro v5 H
      refine x_then ?_
      refine x_f (by kernel_rfl) ?_
      refine x_skipc ?_
      refine x_blk ?_
      refine x_then ?_
      refine x_region ?_
      refine x_ar (((k2 : Nat) : Int) + 1) ⟨by omega, by omega⟩ (by kernel_rfl) rfl (by kernel_rfl) ?_
      refine x_val (.int .i64 (((k2 : Nat) : Int) + 1)) (by kernel_rfl) rfl (by kernel_rfl) ?_
      refine x_nil ?_
      refine x_then ?_
      replace H := H.pick [0, 1, 2, 3, 4, 5, 6, 7] [.blk g2 #[b0, .slice (some ⟨gf2, 0, none⟩) nP cf2, .slice (some ⟨gf4, 0, none⟩) nP cf4] 147, .blk g1 #[a0, .slice (some ⟨gf1, 0, none⟩) nP cf1, .slice (some ⟨gf3, 0, none⟩) nP cf3] 147, .row (a0) 86 2 nR (List.flatMap bukL rs), .row (.slice (some ⟨gf1, 0, none⟩) nP cf1) 3 1 nP (List.map (Value.int .i64) ps), .row (.slice (some ⟨gf3, 0, none⟩) nP cf3) 86 2 nP (List.flatMap bukL bs), .row (b0) 86 2 nR (List.flatMap bukL rs), .row (.slice (some ⟨gf2, 0, none⟩) nP cf2) 3 1 nP (List.map (Value.int .i64) ps), .row (.slice (some ⟨gf4, 0, none⟩) nP cf4) 86 2 nP (List.flatMap bukL bs)] (by decide) (by kernel_rfl)
      exact ⟨(k2 + 1), (by omega), (nthV [(uf2 0), .int .i64 ((k2 : Nat) : Int), .bool true, .int .i64 ((k2 : Nat) : Int), .pointer (some ⟨g1, 1, none⟩), .slice (some ⟨gf1, 0, none⟩) nP cf1, .int .i64 ((k2 : Nat) : Int), .pointer (some ⟨gf1, k2, none⟩), .int .i64 (ps.getD k2 0), .pointer (some ⟨g2, 1, none⟩), .slice (some ⟨gf2, 0, none⟩) nP cf2, .int .i64 ((k2 : Nat) : Int), .pointer (some ⟨gf2, k2, none⟩), .int .i64 (ps.getD k2 0), .bool false, .bool false, .pointer (some ⟨g1, 2, none⟩), .slice (some ⟨gf3, 0, none⟩) nP cf3, .int .i64 ((k2 : Nat) : Int), .pointer (some ⟨gf3, k2 * 2, none⟩), .agg #[.int .i64 ((bs.getD k2 (0, 0)).1), .int .i64 ((bs.getD k2 (0, 0)).2)], .pointer (some ⟨g2, 2, none⟩), .slice (some ⟨gf4, 0, none⟩) nP cf4, .int .i64 ((k2 : Nat) : Int), .pointer (some ⟨gf4, k2 * 2, none⟩), .agg #[.int .i64 ((bs.getD k2 (0, 0)).1), .int .i64 ((bs.getD k2 (0, 0)).2)], .bool false, .bool false, .int .i64 (((k2 : Nat) : Int) + 1)]), (by kernel_rfl), H, (by omega)⟩
  · skip
    have h1p := of_decide_eq_true h1
    refine x_t (by kernel_rfl) ?_
    refine x_skipc ?_
    refine x_then ?_
    refine x_seq ?_
    refine x_block ?_
    refine x_seq ?_
    refine x_region ?_
    rcases H.rowForm 2 rfl with ⟨rfl, hf0⟩ | ⟨gf5, cf5, rfl, hcf5, -⟩
    · exfalso; omega
    rcases H.rowForm 5 rfl with ⟨rfl, hf0⟩ | ⟨gf6, cf6, rfl, hcf6, -⟩
    · exfalso; omega
    skip
    refine x_val (.int .i64 ((k : Nat) : Int)) (by kernel_rfl) rfl (by kernel_rfl) ?_
    refine x_val (.int .i64 ((k : Nat) : Int)) (by kernel_rfl) rfl (by kernel_rfl) ?_
    refine x_nil ?_
    refine x_then ?_
    refine x_seq ?_
    refine x_region_whole (fun w' => Hs M w0 w' [.blk g2 #[.slice (some ⟨gf6, 0, none⟩) nR cf6, b1, b2] 147, .blk g1 #[.slice (some ⟨gf5, 0, none⟩) nR cf5, a1, a2] 147, .row (.slice (some ⟨gf5, 0, none⟩) nR cf5) 86 2 nR (List.flatMap bukL rs), .row (a1) 3 1 nP (List.map (Value.int .i64) ps), .row (a2) 86 2 nP (List.flatMap bukL bs), .row (.slice (some ⟨gf6, 0, none⟩) nR cf6) 86 2 nR (List.flatMap bukL rs), .row (b1) 3 1 nP (List.map (Value.int .i64) ps), .row (b2) 86 2 nP (List.flatMap bukL bs)]) (by kernel_rfl) (by kernel_rfl) (by kernel_rfl) H.drew ?_
    refine q_val (.pointer (some ⟨g1, 0, none⟩)) (by kernel_rfl) (fun _ => by kernel_rfl) ?_
    refine q_load1 1 g1 0 #[.slice (some ⟨gf5, 0, none⟩) nR cf5, a1, a2] 147 (.slice (some ⟨gf5, 0, none⟩) nR cf5) (by kernel_rfl) (by kernel_rfl) (by kernel_rfl) (fun _ => by kernel_rfl) ?_
    refine q_val (.int .i64 ((k : Nat) : Int)) (by kernel_rfl) (fun _ => by kernel_rfl) ?_
    refine q_ix (t := 145) gf5 0 k nR cf5 86 2 (k * 2) (by omega) (by omega) (by kernel_rfl) (by kernel_rfl) (by kernel_rfl) (fun _ => by kernel_rfl) ?_
    refine q_loadcn (t := 86) gf5 (k * 2) [.int .i64 ((rs.getD k (0, 0)).1), .int .i64 ((rs.getD k (0, 0)).2)] (fun _ H => H.rowCells 2 rfl (k * 2) (flatAt bukLen (0, 0) _ (by omega))) (by kernel_rfl) (by kernel_rfl) (by kernel_rfl) ?_
    refine q_val (.pointer (some ⟨g2, 0, none⟩)) (by kernel_rfl) (fun _ => by kernel_rfl) ?_
    refine q_load1 0 g2 0 #[.slice (some ⟨gf6, 0, none⟩) nR cf6, b1, b2] 147 (.slice (some ⟨gf6, 0, none⟩) nR cf6) (by kernel_rfl) (by kernel_rfl) (by kernel_rfl) (fun _ => by kernel_rfl) ?_
    refine q_val (.int .i64 ((k : Nat) : Int)) (by kernel_rfl) (fun _ => by kernel_rfl) ?_
    refine q_ix (t := 145) gf6 0 k nR cf6 86 2 (k * 2) (by omega) (by omega) (by kernel_rfl) (by kernel_rfl) (by kernel_rfl) (fun _ => by kernel_rfl) ?_
    refine q_loadcn (t := 86) gf6 (k * 2) [.int .i64 ((rs.getD k (0, 0)).1), .int .i64 ((rs.getD k (0, 0)).2)] (fun _ H => H.rowCells 5 rfl (k * 2) (flatAt bukLen (0, 0) _ (by omega))) (by kernel_rfl) (by kernel_rfl) (by kernel_rfl) ?_
    have h4 : (decide ((((rs.getD k (0, 0)).1) : Int) = ((rs.getD k (0, 0)).1)) && (decide ((((rs.getD k (0, 0)).2) : Int) = ((rs.getD k (0, 0)).2)) && true)) = true := by simp
    refine q_val (.bool false) (by kernel_rfl) (fun _ => ((run_neS (t := 86) (x := .tmp 51) (y := .tmp 56) (xs := #[.int .i64 ((rs.getD k (0, 0)).1), .int .i64 ((rs.getD k (0, 0)).2)]) (ys := #[.int .i64 ((rs.getD k (0, 0)).1), .int .i64 ((rs.getD k (0, 0)).2)]) (B := decide ((((rs.getD k (0, 0)).1) : Int) = ((rs.getD k (0, 0)).1)) && (decide ((((rs.getD k (0, 0)).2) : Int) = ((rs.getD k (0, 0)).2)) && true)) (by kernel_rfl) (by kernel_rfl) (by kernel_rfl)).trans (by rw [h4]; try rfl))) ?_
    refine q_nil ?_
    clear H
    intro v6 H
    refine x_then ?_
    refine x_f (by kernel_rfl) ?_
    refine x_skipc ?_
    refine x_blk ?_
    refine x_then ?_
    refine x_region ?_
    refine x_ar (((k : Nat) : Int) + 1) ⟨by omega, by omega⟩ (by kernel_rfl) rfl (by kernel_rfl) ?_
    refine x_val (.int .i64 (((k : Nat) : Int) + 1)) (by kernel_rfl) rfl (by kernel_rfl) ?_
    refine x_nil ?_
    refine x_then ?_
    replace H := H.pick [0, 1, 2, 3, 4, 5, 6, 7] [.blk g2 #[.slice (some ⟨gf6, 0, none⟩) nR cf6, b1, b2] 147, .blk g1 #[.slice (some ⟨gf5, 0, none⟩) nR cf5, a1, a2] 147, .row (.slice (some ⟨gf5, 0, none⟩) nR cf5) 86 2 nR (List.flatMap bukL rs), .row (a1) 3 1 nP (List.map (Value.int .i64) ps), .row (a2) 86 2 nP (List.flatMap bukL bs), .row (.slice (some ⟨gf6, 0, none⟩) nR cf6) 86 2 nR (List.flatMap bukL rs), .row (b1) 3 1 nP (List.map (Value.int .i64) ps), .row (b2) 86 2 nP (List.flatMap bukL bs)] (by decide) (by kernel_rfl)
    exact ⟨(k + 1), (by omega), (nthV [(uf1 0), .int .i64 ((k : Nat) : Int), .bool true, .int .i64 ((k : Nat) : Int), .pointer (some ⟨g1, 0, none⟩), .slice (some ⟨gf5, 0, none⟩) nR cf5, .int .i64 ((k : Nat) : Int), .pointer (some ⟨gf5, k * 2, none⟩), .agg #[.int .i64 ((rs.getD k (0, 0)).1), .int .i64 ((rs.getD k (0, 0)).2)], .pointer (some ⟨g2, 0, none⟩), .slice (some ⟨gf6, 0, none⟩) nR cf6, .int .i64 ((k : Nat) : Int), .pointer (some ⟨gf6, k * 2, none⟩), .agg #[.int .i64 ((rs.getD k (0, 0)).1), .int .i64 ((rs.getD k (0, 0)).2)], .bool false, .int .i64 (((k : Nat) : Int) + 1)]), (by kernel_rfl), H, (by omega)⟩

end Go.Proofs.Ytgpalgbdacoagaa
