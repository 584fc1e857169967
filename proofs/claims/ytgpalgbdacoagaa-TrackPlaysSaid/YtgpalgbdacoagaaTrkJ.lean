/- The document's tracker: Reset, Note, Tick, New. -/
import Derived.Test.YtgpalgbdacoagaaTrkI
namespace Go.Proofs.Ytgpalgbdacoagaa
open Go Go.RowKit
set_option linter.unusedVariables false
set_option linter.unusedSimpArgs false

set_option maxRecDepth 100000 in
set_option maxHeartbeats 4000000 in
theorem ofB (L E u v : Int) (w0 : World) :
    Calls Try.prog 60 #[.agg #[.int .i64 L, .int .i64 E], .agg #[.int .i64 u, .int .i64 v]] w0 fun e w' => e = .returned (.agg #[.int .i64 L, .int .i64 E, .int .i64 u, .int .i64 v]) ∧ Below w0.heap.size w0 w' := by
  refine x_enter Try.func60 rfl #[.agg #[.int .i64 L, .int .i64 E], .agg #[.int .i64 u, .int .i64 v], undef, undef, undef, undef, undef, undef, undef, undef, undef, undef, undef, undef] (by kernel_rfl) ?_
  have H := Hs.nil w0
  refine x_seq ?_
  refine x_region ?_
  refine x_box H #[.int .i64 L, .int .i64 E] 78 (by kernel_rfl) rfl (by kernel_rfl) ?_
  clear H
  intro v1 g1 H
  refine x_box H #[.int .i64 u, .int .i64 v] 86 (by kernel_rfl) rfl (by kernel_rfl) ?_
  clear H
  intro v2 g2 H
  refine x_box H #[.int .i64 0, .int .i64 0, .int .i64 0, .int .i64 0] 119 (by kernel_rfl) rfl (by kernel_rfl) ?_
  clear H
  intro v3 g3 H
  refine x_nil ?_
  refine x_then ?_
  refine x_seq ?_
  refine x_region ?_
  refine x_val (.pointer (some ⟨g1, 0, none⟩)) (by kernel_rfl) rfl (by kernel_rfl) ?_
  refine x_load1 H 2 g1 0 _ _ (.int .i64 L) rfl (by kernel_rfl) (by kernel_rfl) rfl (by kernel_rfl) ?_
  refine x_val (.pointer (some ⟨g1, 1, none⟩)) (by kernel_rfl) rfl (by kernel_rfl) ?_
  refine x_load1 H 2 g1 1 _ _ (.int .i64 E) rfl (by kernel_rfl) (by kernel_rfl) rfl (by kernel_rfl) ?_
  refine x_val (.pointer (some ⟨g2, 0, none⟩)) (by kernel_rfl) rfl (by kernel_rfl) ?_
  refine x_load1 H 1 g2 0 _ _ (.int .i64 u) rfl (by kernel_rfl) (by kernel_rfl) rfl (by kernel_rfl) ?_
  refine x_val (.pointer (some ⟨g2, 1, none⟩)) (by kernel_rfl) rfl (by kernel_rfl) ?_
  refine x_load1 H 1 g2 1 _ _ (.int .i64 v) rfl (by kernel_rfl) (by kernel_rfl) rfl (by kernel_rfl) ?_
  refine x_val (.agg #[.int .i64 L, .int .i64 E, .int .i64 u, .int .i64 v]) (by kernel_rfl) rfl (by kernel_rfl) ?_
  refine x_store (t := 119) (v := .agg #[.int .i64 L, .int .i64 E, .int .i64 u, .int .i64 v]) H 0 g3 0 _ #[.int .i64 L, .int .i64 E, .int .i64 u, .int .i64 v] 119 [.int .i64 L, .int .i64 E, .int .i64 u, .int .i64 v] _ rfl rfl (by kernel_rfl) (by kernel_rfl) (by kernel_rfl) rfl (by kernel_rfl) (by kernel_rfl) (by kernel_rfl) (by kernel_rfl) ?_
  clear H
  intro v4 H
  refine x_nil ?_
  refine x_then ?_
  refine x_retc ?_
  refine x_ret (.agg #[.int .i64 L, .int .i64 E, .int .i64 u, .int .i64 v]) (by kernel_rfl) (x_rescell H 0 g3 0 #[.int .i64 L, .int .i64 E, .int .i64 u, .int .i64 v] 119 [.int .i64 L, .int .i64 E, .int .i64 u, .int .i64 v] (fun x => x) (by kernel_rfl) (by kernel_rfl) (by kernel_rfl)) ?_
  exact ⟨rfl, H.below⟩

set_option maxRecDepth 100000 in
set_option maxHeartbeats 4000000 in
theorem DReset_s {rL rE pL pE : Int} {room : Nat} {rs : List Buk} {xs : List PairB} {pv : Value} {gd capd : Nat} (i : Nat) (b : Buk) (hi : i < rs.length) (hn : rs.length ≤ 8) (w0 : World) (hR : Ro w0 [.row (.slice (some ⟨gd, 0, none⟩) (List.length rs) capd) 119 4 (List.length rs) (List.flatMap (dbL rL rE) rs), .row (pv) 206 5 (List.length xs) (List.flatMap (dpL pL pE) xs)]) :
    Calls Try.prog 121 #[.agg #[.slice (some ⟨gd, 0, none⟩) (List.length rs) capd, pv, .int .i64 pL, .int .i64 pE, .int .i64 0, .int .i64 0, .int .i64 ((room : Nat) : Int)], .int .i64 ((i : Nat) : Int), .agg #[.int .i64 rL, .int .i64 rE, .int .i64 b.1, .int .i64 b.2]] w0 fun e w' => ∃ u, e = .returned (.agg #[u, pv, .int .i64 pL, .int .i64 pE, .int .i64 0, .int .i64 0, .int .i64 ((room : Nat) : Int)]) ∧ Hs [] w0 w' [.row (u) 119 4 (List.length (rs.set i b)) (List.flatMap (dbL rL rE) (rs.set i b))] := by
  refine x_enter Try.func121 rfl #[.agg #[.slice (some ⟨gd, 0, none⟩) (List.length rs) capd, pv, .int .i64 pL, .int .i64 pE, .int .i64 0, .int .i64 0, .int .i64 ((room : Nat) : Int)], .int .i64 ((i : Nat) : Int), .agg #[.int .i64 rL, .int .i64 rE, .int .i64 b.1, .int .i64 b.2], undef, undef, undef, undef, undef, undef, undef, undef, undef, undef, undef, undef, undef, undef, undef, undef] (by kernel_rfl) ?_
  have H := Hs.nil w0
  have R0 := hR
  refine x_seq ?_
  refine x_region ?_
  refine x_box H #[.slice (some ⟨gd, 0, none⟩) (List.length rs) capd, pv, .int .i64 pL, .int .i64 pE, .int .i64 0, .int .i64 0, .int .i64 ((room : Nat) : Int)] 124 (by kernel_rfl) rfl (by kernel_rfl) ?_
  clear H
  intro v1 g1 H
  refine x_box H #[.int .i64 rL, .int .i64 rE, .int .i64 b.1, .int .i64 b.2] 119 (by kernel_rfl) rfl (by kernel_rfl) ?_
  clear H
  intro v2 g2 H
  refine x_box H #[.slice none 0 0, .slice none 0 0, .int .i64 0, .int .i64 0, .int .i64 0, .int .i64 0, .int .i64 0] 124 (by kernel_rfl) rfl (by kernel_rfl) ?_
  clear H
  intro v3 g3 H
  refine x_nil ?_
  refine x_then ?_
  refine x_seq ?_
  refine x_region ?_
  refine x_val (.slice none 0 0) (by kernel_rfl) rfl (by kernel_rfl) ?_
  refine x_nil ?_
  refine x_then ?_
  refine x_seq ?_
  refine x_region ?_
  refine x_val (.slice none 0 0) (by kernel_rfl) rfl (by kernel_rfl) ?_
  refine x_val (.pointer (some ⟨g1, 0, none⟩)) (by kernel_rfl) rfl (by kernel_rfl) ?_
  refine x_load1 H 2 g1 0 _ _ (.slice (some ⟨gd, 0, none⟩) (List.length rs) capd) rfl (by kernel_rfl) (by kernel_rfl) rfl (by kernel_rfl) ?_
  replace H := H.nilRow 119 4
  replace H : Hs [] w0 _ [.row (.slice none 0 0) 119 4 0 (List.flatMap (dbL rL rE) ([] : List Buk)), .blk g3 #[.slice none 0 0, .slice none 0 0, .int .i64 0, .int .i64 0, .int .i64 0, .int .i64 0, .int .i64 0] 124, .blk g2 #[.int .i64 rL, .int .i64 rE, .int .i64 b.1, .int .i64 b.2] 119, .blk g1 #[.slice (some ⟨gd, 0, none⟩) (List.length rs) capd, pv, .int .i64 pL, .int .i64 pE, .int .i64 0, .int .i64 0, .int .i64 ((room : Nat) : Int)] 124] := H
  refine x_appendSrc H 0 (.slice none 0 0) 121 119 4 32 0 (.agg #[.int .i64 0, .int .i64 0, .int .i64 0, .int .i64 0]) (List.flatMap (dbL rL rE) ([] : List Buk)) (.slice (some ⟨gd, 0, none⟩) (List.length rs) capd) (List.length rs) (List.flatMap (dbL rL rE) rs) rfl (src_row ((H.ro R0) 0 _ rfl : Go.World.ownsRow _ 0 119 4 _ _ _)) (by kernel_rfl) (by kernel_rfl) (by kernel_rfl) (by decide) (oneCellFlat (dbOne rL rE) _) (by unfold maxLen; omega) (by omega) (by kernel_rfl) rfl (by kernel_rfl) ?_
  clear H
  intro v4 vr11 H
  rw [show (List.flatMap (dbL rL rE) ([] : List Buk)) ++ (List.flatMap (dbL rL rE) rs) = (List.flatMap (dbL rL rE) rs) from (by simp)] at H
  rw [show (0 + (List.length rs) : Nat) = (List.length rs) from (by simp)] at H
  replace H : Hs [] w0 v4 [.row (vr11) 119 4 (List.length rs) (List.flatMap (dbL rL rE) rs), .blk g3 #[.slice none 0 0, .slice none 0 0, .int .i64 0, .int .i64 0, .int .i64 0, .int .i64 0, .int .i64 0] 124, .blk g2 #[.int .i64 rL, .int .i64 rE, .int .i64 b.1, .int .i64 b.2] 119, .blk g1 #[.slice (some ⟨gd, 0, none⟩) (List.length rs) capd, pv, .int .i64 pL, .int .i64 pE, .int .i64 0, .int .i64 0, .int .i64 ((room : Nat) : Int)] 124] := H
  rcases H.rowForm 0 rfl with ⟨rfl, h0⟩ | ⟨gr, cr, rfl, hcr, -⟩
  · exfalso; omega
  refine x_val (.slice (some ⟨gr, 0, none⟩) (List.length rs) cr) (by kernel_rfl) rfl (by kernel_rfl) ?_
  refine x_nil ?_
  refine x_then ?_
  refine x_seq ?_
  refine x_region ?_
  refine x_val (.slice (some ⟨gr, 0, none⟩) (List.length rs) cr) (by kernel_rfl) rfl (by kernel_rfl) ?_
  refine x_val (.int .i64 ((i : Nat) : Int)) (by kernel_rfl) rfl (by kernel_rfl) ?_
  refine x_loadn (t := 119) H 2 g2 0 _ _ [.int .i64 rL, .int .i64 rE, .int .i64 b.1, .int .i64 b.2] rfl (by kernel_rfl) (by kernel_rfl) rfl (by kernel_rfl) (by kernel_rfl) ?_
  refine x_ix (t := 121) gr 0 i (List.length rs) cr 119 4 (i * 4) (by omega) (by omega) (by kernel_rfl) (by kernel_rfl) (by kernel_rfl) rfl (by kernel_rfl) ?_
  refine x_storeRow (t := 119) (v := .agg #[.int .i64 rL, .int .i64 rE, .int .i64 b.1, .int .i64 b.2]) H 0 gr (i * 4) (List.length rs) cr 119 4 (List.flatMap (dbL rL rE) rs) [.int .i64 rL, .int .i64 rE, .int .i64 b.1, .int .i64 b.2] (List.flatMap (dbL rL rE) (rs.set i b)) [.row (.slice (some ⟨gr, 0, none⟩) (List.length rs) cr) 119 4 (List.length rs) (List.flatMap (dbL rL rE) (rs.set i b)), .blk g3 #[.slice none 0 0, .slice none 0 0, .int .i64 0, .int .i64 0, .int .i64 0, .int .i64 0, .int .i64 0] 124, .blk g2 #[.int .i64 rL, .int .i64 rE, .int .i64 b.1, .int .i64 b.2] 119, .blk g1 #[.slice (some ⟨gd, 0, none⟩) (List.length rs) capd, pv, .int .i64 pL, .int .i64 pE, .int .i64 0, .int .i64 0, .int .i64 ((room : Nat) : Int)] 124] rfl (by simp only [List.length_cons, List.length_nil]; omega) (by kernel_rfl) (setFlat (dbLen rL rE) (by omega) b) rfl (by kernel_rfl) rfl (by kernel_rfl) (by kernel_rfl) (by kernel_rfl) ?_
  clear H
  intro v5 H
  refine x_nil ?_
  refine x_then ?_
  refine x_seq ?_
  refine x_region ?_
  refine x_val (.slice (some ⟨gr, 0, none⟩) (List.length rs) cr) (by kernel_rfl) rfl (by kernel_rfl) ?_
  refine x_val (.pointer (some ⟨g1, 0, none⟩)) (by kernel_rfl) rfl (by kernel_rfl) ?_
  refine x_store (t := 121) (v := .slice (some ⟨gr, 0, none⟩) (List.length rs) cr) H 3 g1 0 _ #[.slice (some ⟨gr, 0, none⟩) (List.length rs) cr, pv, .int .i64 pL, .int .i64 pE, .int .i64 0, .int .i64 0, .int .i64 ((room : Nat) : Int)] 124 [.slice (some ⟨gr, 0, none⟩) (List.length rs) cr] _ rfl rfl (by kernel_rfl) (by kernel_rfl) (by kernel_rfl) rfl (by kernel_rfl) (by kernel_rfl) (by kernel_rfl) (by kernel_rfl) ?_
  clear H
  intro v6 H
  refine x_nil ?_
  refine x_then ?_
  refine x_seq ?_
  refine x_region ?_
  refine x_loadn (t := 124) H 3 g1 0 _ _ [.slice (some ⟨gr, 0, none⟩) (List.length rs) cr, pv, .int .i64 pL, .int .i64 pE, .int .i64 0, .int .i64 0, .int .i64 ((room : Nat) : Int)] rfl (by kernel_rfl) (by kernel_rfl) rfl (by kernel_rfl) (by kernel_rfl) ?_
  have h1o := (H.ro R0).rowOne 1 rfl
  refine x_store (t := 124) (v := .agg #[.slice (some ⟨gr, 0, none⟩) (List.length rs) cr, pv, .int .i64 pL, .int .i64 pE, .int .i64 0, .int .i64 0, .int .i64 ((room : Nat) : Int)]) H 1 g3 0 _ #[.slice (some ⟨gr, 0, none⟩) (List.length rs) cr, pv, .int .i64 pL, .int .i64 pE, .int .i64 0, .int .i64 0, .int .i64 ((room : Nat) : Int)] 124 [.slice (some ⟨gr, 0, none⟩) (List.length rs) cr, pv, .int .i64 pL, .int .i64 pE, .int .i64 0, .int .i64 0, .int .i64 ((room : Nat) : Int)] _ rfl rfl (by kernel_rfl) (by simp only [List.all_cons, List.all_nil, h1o, Bool.and_true, Bool.true_and] <;> rfl) (by kernel_rfl) rfl (by kernel_rfl) (by kernel_rfl) (by kernel_rfl) (by kernel_rfl) ?_
  clear H
  intro v7 H
  refine x_nil ?_
  refine x_then ?_
  refine x_retc ?_
  refine x_ret (.agg #[.slice (some ⟨gr, 0, none⟩) (List.length rs) cr, pv, .int .i64 pL, .int .i64 pE, .int .i64 0, .int .i64 0, .int .i64 ((room : Nat) : Int)]) (by kernel_rfl) (x_rescell H 1 g3 0 #[.slice (some ⟨gr, 0, none⟩) (List.length rs) cr, pv, .int .i64 pL, .int .i64 pE, .int .i64 0, .int .i64 0, .int .i64 ((room : Nat) : Int)] 124 [.slice (some ⟨gr, 0, none⟩) (List.length rs) cr, pv, .int .i64 pL, .int .i64 pE, .int .i64 0, .int .i64 0, .int .i64 ((room : Nat) : Int)] (fun x => x) (by kernel_rfl) (by kernel_rfl) (by kernel_rfl)) ?_
  have hll : (rs.set i b).length = rs.length := List.length_set
  refine ⟨.slice (some ⟨gr, 0, none⟩) (List.length rs) cr, rfl, ?_⟩
  rw [hll]
  exact H.pick [0] _ (by decide) (by kernel_rfl)

theorem DReset {rL rE pL pE : Int} {room : Nat} {rs : List Buk} {xs : List PairB} {rv pv : Value} (i : Nat) (b : Buk) (hi : i < rs.length) (hn : rs.length ≤ 8) (w0 : World) (hR : Ro w0 [.row (rv) 119 4 (List.length rs) (List.flatMap (dbL rL rE) rs), .row (pv) 206 5 (List.length xs) (List.flatMap (dpL pL pE) xs)]) : Calls Try.prog 121 #[.agg #[rv, pv, .int .i64 pL, .int .i64 pE, .int .i64 0, .int .i64 0, .int .i64 ((room : Nat) : Int)], .int .i64 ((i : Nat) : Int), .agg #[.int .i64 rL, .int .i64 rE, .int .i64 b.1, .int .i64 b.2]] w0 fun e w' => ∃ u, e = .returned (.agg #[u, pv, .int .i64 pL, .int .i64 pE, .int .i64 0, .int .i64 0, .int .i64 ((room : Nat) : Int)]) ∧ Hs [] w0 w' [.row (u) 119 4 (List.length (rs.set i b)) (List.flatMap (dbL rL rE) (rs.set i b))] := by
  rcases rowForm (hR 0 _ rfl : w0.ownsRow 0 _ 4 rv _ _) with ⟨rfl, h0⟩ | ⟨g, cap, rfl, hc, _⟩
  · omega
  · exact DReset_s i b hi hn w0 hR

set_option maxRecDepth 100000 in
set_option maxHeartbeats 4000000 in
theorem DNote_n {rL rE pL pE : Int} {room : Nat} {rs : List Buk} {xs : List PairB} {gd capd : Nat} (i : Nat) (page n : Int) (hi : i < rs.length) (h8 : rs.length ≤ 8) (hrE : 1 ≤ rE) (hb : ∀ b ∈ rs, RB rE b) (hc : RB pE (0, 0)) (hn : 0 ≤ n) (hx : xs.length ≤ 4096) (hxr : xs.length ≤ room) (h1 : 1 ≤ room) (hq : ¬ fkB xs page < xs.length) (w0 : World) (hR : Ro w0 [.row (.slice (some ⟨gd, 0, none⟩) (List.length rs) capd) 119 4 (List.length rs) (List.flatMap (dbL rL rE) rs), .row (.slice none 0 0) 206 5 (List.length xs) (List.flatMap (dpL pL pE) xs)]) :
    Calls Try.prog 118 #[.agg #[.slice (some ⟨gd, 0, none⟩) (List.length rs) capd, .slice none 0 0, .int .i64 pL, .int .i64 pE, .int .i64 0, .int .i64 0, .int .i64 ((room : Nat) : Int)], .int .i64 ((i : Nat) : Int), .int .i64 page, .int .i64 n] w0 fun e w' => ∃ u1 u2, e = .returned (.tuple #[.agg #[u1, u2, .int .i64 pL, .int .i64 pE, .int .i64 0, .int .i64 0, .int .i64 ((room : Nat) : Int)], .bool (bcross rL (rs.getD i (0, 0)) n), .bool (bcross pL (0, 0) n)]) ∧ Hs [] w0 w' [.row (u1) 119 4 (List.length (rs.set i (bfill (rs.getD i (0, 0)) n))) (List.flatMap (dbL rL rE) (rs.set i (bfill (rs.getD i (0, 0)) n))), .row (u2) 206 5 (List.length ((putB room xs page (bfill (0, 0) n)).1)) (List.flatMap (dpL pL pE) ((putB room xs page (bfill (0, 0) n)).1))] := by
  refine x_enter Try.func118 rfl #[.agg #[.slice (some ⟨gd, 0, none⟩) (List.length rs) capd, .slice none 0 0, .int .i64 pL, .int .i64 pE, .int .i64 0, .int .i64 0, .int .i64 ((room : Nat) : Int)], .int .i64 ((i : Nat) : Int), .int .i64 page, .int .i64 n, undef, undef, undef, undef, undef, undef, undef, undef, undef, undef, undef, undef, undef, undef, undef, undef, undef, undef, undef, undef, undef, undef, undef, undef, undef, undef, undef, undef, undef, undef, undef, undef, undef, undef, undef, undef, undef, undef, undef, undef, undef, undef, undef, undef, undef, undef, undef, undef, undef, undef, undef] (by kernel_rfl) ?_
  have H := Hs.nil w0
  have R0 := hR
  refine x_seq ?_
  refine x_region ?_
  refine x_box H #[.slice (some ⟨gd, 0, none⟩) (List.length rs) capd, .slice none 0 0, .int .i64 pL, .int .i64 pE, .int .i64 0, .int .i64 0, .int .i64 ((room : Nat) : Int)] 124 (by kernel_rfl) rfl (by kernel_rfl) ?_
  clear H
  intro v1 g1 H
  refine x_box H #[.slice none 0 0, .slice none 0 0, .int .i64 0, .int .i64 0, .int .i64 0, .int .i64 0, .int .i64 0] 124 (by kernel_rfl) rfl (by kernel_rfl) ?_
  clear H
  intro v2 g2 H
  refine x_val (.bool false) (by kernel_rfl) rfl (by kernel_rfl) ?_
  refine x_val (.bool false) (by kernel_rfl) rfl (by kernel_rfl) ?_
  refine x_nil ?_
  refine x_then ?_
  refine x_seq ?_
  refine x_region ?_
  refine x_val (.pointer (some ⟨g1, 0, none⟩)) (by kernel_rfl) rfl (by kernel_rfl) ?_
  refine x_load1 H 1 g1 0 _ _ (.slice (some ⟨gd, 0, none⟩) (List.length rs) capd) rfl (by kernel_rfl) (by kernel_rfl) rfl (by kernel_rfl) ?_
  refine x_val (.int .i64 ((i : Nat) : Int)) (by kernel_rfl) rfl (by kernel_rfl) ?_
  refine x_ix (t := 121) gd 0 i (List.length rs) capd 119 4 (i * 4) (by omega) (by omega) (by kernel_rfl) (by kernel_rfl) (by kernel_rfl) rfl (by kernel_rfl) ?_
  refine x_loadcn (t := 119) gd (i * 4) [.int .i64 rL, .int .i64 rE, .int .i64 ((rs.getD i (0, 0)).1), .int .i64 ((rs.getD i (0, 0)).2)] ((H.ro R0).rowCells 0 rfl (i * 4) (flatAt (dbLen rL rE) (0, 0) _ (by omega))) (by kernel_rfl) rfl (by kernel_rfl) (by kernel_rfl) ?_
  refine x_val (.int .i64 n) (by kernel_rfl) rfl (by kernel_rfl) ?_
  refine x_callB (.tuple #[.agg #[.int .i64 rL, .int .i64 rE, .int .i64 ((bfill (rs.getD i (0, 0)) n).1), .int .i64 ((bfill (rs.getD i (0, 0)) n).2)], .bool (bcross rL (rs.getD i (0, 0)) n)]) H (by kernel_rfl) rfl (by kernel_rfl) (DFill rL rE ((rs.getD i (0, 0)).1) ((rs.getD i (0, 0)).2) n (getD_ok hrE hb i) hn _) ?_
  clear H
  intro v3 H
  refine x_val (.tuple #[.agg #[.int .i64 rL, .int .i64 rE, .int .i64 ((bfill (rs.getD i (0, 0)) n).1), .int .i64 ((bfill (rs.getD i (0, 0)) n).2)], .bool (bcross rL (rs.getD i (0, 0)) n)]) (by kernel_rfl) rfl (by kernel_rfl) ?_
  refine x_val (.agg #[.int .i64 rL, .int .i64 rE, .int .i64 ((bfill (rs.getD i (0, 0)) n).1), .int .i64 ((bfill (rs.getD i (0, 0)) n).2)]) (by kernel_rfl) rfl (by kernel_rfl) ?_
  refine x_val (.bool (bcross rL (rs.getD i (0, 0)) n)) (by kernel_rfl) rfl (by kernel_rfl) ?_
  refine x_box H #[.int .i64 0, .int .i64 0, .int .i64 0, .int .i64 0] 119 (by kernel_rfl) rfl (by kernel_rfl) ?_
  clear H
  intro v4 g3 H
  refine x_store (t := 119) (v := .agg #[.int .i64 rL, .int .i64 rE, .int .i64 ((bfill (rs.getD i (0, 0)) n).1), .int .i64 ((bfill (rs.getD i (0, 0)) n).2)]) H 0 g3 0 _ #[.int .i64 rL, .int .i64 rE, .int .i64 ((bfill (rs.getD i (0, 0)) n).1), .int .i64 ((bfill (rs.getD i (0, 0)) n).2)] 119 [.int .i64 rL, .int .i64 rE, .int .i64 ((bfill (rs.getD i (0, 0)) n).1), .int .i64 ((bfill (rs.getD i (0, 0)) n).2)] _ rfl rfl (by kernel_rfl) (by kernel_rfl) (by kernel_rfl) rfl (by kernel_rfl) (by kernel_rfl) (by kernel_rfl) (by kernel_rfl) ?_
  clear H
  intro v5 H
  refine x_val (.bool (bcross rL (rs.getD i (0, 0)) n)) (by kernel_rfl) rfl (by kernel_rfl) ?_
  refine x_nil ?_
  refine x_then ?_
  refine x_seq ?_
  refine x_region ?_
  refine x_loadn (t := 124) H 2 g1 0 _ _ [.slice (some ⟨gd, 0, none⟩) (List.length rs) capd, .slice none 0 0, .int .i64 pL, .int .i64 pE, .int .i64 0, .int .i64 0, .int .i64 ((room : Nat) : Int)] rfl (by kernel_rfl) (by kernel_rfl) rfl (by kernel_rfl) (by kernel_rfl) ?_
  refine x_val (.int .i64 ((i : Nat) : Int)) (by kernel_rfl) rfl (by kernel_rfl) ?_
  refine x_loadn (t := 119) H 0 g3 0 _ _ [.int .i64 rL, .int .i64 rE, .int .i64 ((bfill (rs.getD i (0, 0)) n).1), .int .i64 ((bfill (rs.getD i (0, 0)) n).2)] rfl (by kernel_rfl) (by kernel_rfl) rfl (by kernel_rfl) (by kernel_rfl) ?_
  refine x_call (by kernel_rfl) rfl (by kernel_rfl) (DReset (room := room) i (bfill (rs.getD i (0, 0)) n) hi h8 _ (H.ro R0)) ?_
  rintro _ v6 ⟨u1, rfl, hN'⟩
  refine ⟨_, rfl, ?_⟩
  replace H := H.more hN'
  clear hN'
  replace H : Hs [] w0 _ [.row (u1) 119 4 (List.length (rs.set i (bfill (rs.getD i (0, 0)) n))) (List.flatMap (dbL rL rE) (rs.set i (bfill (rs.getD i (0, 0)) n))), .blk g3 #[.int .i64 rL, .int .i64 rE, .int .i64 ((bfill (rs.getD i (0, 0)) n).1), .int .i64 ((bfill (rs.getD i (0, 0)) n).2)] 119, .blk g2 #[.slice none 0 0, .slice none 0 0, .int .i64 0, .int .i64 0, .int .i64 0, .int .i64 0, .int .i64 0] 124, .blk g1 #[.slice (some ⟨gd, 0, none⟩) (List.length rs) capd, .slice none 0 0, .int .i64 pL, .int .i64 pE, .int .i64 0, .int .i64 0, .int .i64 ((room : Nat) : Int)] 124] := H
  have h1o := H.rowOne 0 rfl
  refine x_store (t := 124) (v := .agg #[u1, .slice none 0 0, .int .i64 pL, .int .i64 pE, .int .i64 0, .int .i64 0, .int .i64 ((room : Nat) : Int)]) H 3 g1 0 _ #[u1, .slice none 0 0, .int .i64 pL, .int .i64 pE, .int .i64 0, .int .i64 0, .int .i64 ((room : Nat) : Int)] 124 [u1, .slice none 0 0, .int .i64 pL, .int .i64 pE, .int .i64 0, .int .i64 0, .int .i64 ((room : Nat) : Int)] _ rfl rfl (by kernel_rfl) (by simp only [List.all_cons, List.all_nil, h1o, Bool.and_true, Bool.true_and] <;> rfl) (by kernel_rfl) rfl (by kernel_rfl) (by kernel_rfl) (by kernel_rfl) (by kernel_rfl) ?_
  clear H
  intro v7 H
  refine x_nil ?_
  refine x_then ?_
  refine x_seq ?_
  refine x_region ?_
  refine x_val (.pointer (some ⟨g1, 2, none⟩)) (by kernel_rfl) rfl (by kernel_rfl) ?_
  refine x_loadn (t := 119) H 3 g1 2 _ _ [.int .i64 pL, .int .i64 pE, .int .i64 0, .int .i64 0] rfl (by kernel_rfl) (by kernel_rfl) rfl (by kernel_rfl) (by kernel_rfl) ?_
  refine x_box H #[.int .i64 0, .int .i64 0, .int .i64 0, .int .i64 0] 119 (by kernel_rfl) rfl (by kernel_rfl) ?_
  clear H
  intro v8 g4 H
  refine x_store (t := 119) (v := .agg #[.int .i64 pL, .int .i64 pE, .int .i64 0, .int .i64 0]) H 0 g4 0 _ #[.int .i64 pL, .int .i64 pE, .int .i64 0, .int .i64 0] 119 [.int .i64 pL, .int .i64 pE, .int .i64 0, .int .i64 0] _ rfl rfl (by kernel_rfl) (by kernel_rfl) (by kernel_rfl) rfl (by kernel_rfl) (by kernel_rfl) (by kernel_rfl) (by kernel_rfl) ?_
  clear H
  intro v9 H
  refine x_nil ?_
  refine x_then ?_
  refine x_seq ?_
  refine x_region ?_
  refine x_loadn (t := 124) H 4 g1 0 _ _ [u1, .slice none 0 0, .int .i64 pL, .int .i64 pE, .int .i64 0, .int .i64 0, .int .i64 ((room : Nat) : Int)] rfl (by kernel_rfl) (by kernel_rfl) rfl (by kernel_rfl) (by kernel_rfl) ?_
  refine x_val (.int .i64 page) (by kernel_rfl) rfl (by kernel_rfl) ?_
  refine x_callB (.int .i64 (-1)) H (by kernel_rfl) rfl (by kernel_rfl) (by have h := DFind (room := room) (rv := u1) xs page hx _ ((H.ro R0).pick [1] [.row (.slice none 0 0) 206 5 (List.length xs) (List.flatMap (dpL pL pE) xs)] (by kernel_rfl)); rw [show findB xs page = -1 by unfold findB; rw [if_neg hq]] at h; exact h) ?_
  clear H
  intro v10 H
  refine x_val (.int .i64 (-1)) (by kernel_rfl) rfl (by kernel_rfl) ?_
  refine x_nil ?_
  refine x_then ?_
  refine x_seq ?_
  refine x_seq ?_
  refine x_region ?_
  refine x_val (.int .i64 (-1)) (by kernel_rfl) rfl (by kernel_rfl) ?_
  refine x_val (.bool false) (by kernel_rfl) rfl (by kernel_rfl) ?_
  refine x_nil ?_
  refine x_then ?_
  refine x_f (by kernel_rfl) ?_
  refine x_skipc ?_
  refine x_then ?_
  refine x_seq ?_
  refine x_region ?_
  refine x_loadn (t := 119) H 0 g4 0 _ _ [.int .i64 pL, .int .i64 pE, .int .i64 0, .int .i64 0] rfl (by kernel_rfl) (by kernel_rfl) rfl (by kernel_rfl) (by kernel_rfl) ?_
  refine x_val (.int .i64 n) (by kernel_rfl) rfl (by kernel_rfl) ?_
  refine x_callB (.tuple #[.agg #[.int .i64 pL, .int .i64 pE, .int .i64 ((bfill (0, 0) n).1), .int .i64 ((bfill (0, 0) n).2)], .bool (bcross pL (0, 0) n)]) H (by kernel_rfl) rfl (by kernel_rfl) (DFill pL pE 0 0 n hc hn _) ?_
  clear H
  intro v11 H
  refine x_val (.tuple #[.agg #[.int .i64 pL, .int .i64 pE, .int .i64 ((bfill (0, 0) n).1), .int .i64 ((bfill (0, 0) n).2)], .bool (bcross pL (0, 0) n)]) (by kernel_rfl) rfl (by kernel_rfl) ?_
  refine x_val (.agg #[.int .i64 pL, .int .i64 pE, .int .i64 ((bfill (0, 0) n).1), .int .i64 ((bfill (0, 0) n).2)]) (by kernel_rfl) rfl (by kernel_rfl) ?_
  refine x_val (.bool (bcross pL (0, 0) n)) (by kernel_rfl) rfl (by kernel_rfl) ?_
  refine x_store (t := 119) (v := .agg #[.int .i64 pL, .int .i64 pE, .int .i64 ((bfill (0, 0) n).1), .int .i64 ((bfill (0, 0) n).2)]) H 0 g4 0 _ #[.int .i64 pL, .int .i64 pE, .int .i64 ((bfill (0, 0) n).1), .int .i64 ((bfill (0, 0) n).2)] 119 [.int .i64 pL, .int .i64 pE, .int .i64 ((bfill (0, 0) n).1), .int .i64 ((bfill (0, 0) n).2)] _ rfl rfl (by kernel_rfl) (by kernel_rfl) (by kernel_rfl) rfl (by kernel_rfl) (by kernel_rfl) (by kernel_rfl) (by kernel_rfl) ?_
  clear H
  intro v12 H
  refine x_val (.bool (bcross pL (0, 0) n)) (by kernel_rfl) rfl (by kernel_rfl) ?_
  refine x_nil ?_
  refine x_then ?_
  refine x_seq ?_
  refine x_region ?_
  refine x_loadn (t := 124) H 4 g1 0 _ _ [u1, .slice none 0 0, .int .i64 pL, .int .i64 pE, .int .i64 0, .int .i64 0, .int .i64 ((room : Nat) : Int)] rfl (by kernel_rfl) (by kernel_rfl) rfl (by kernel_rfl) (by kernel_rfl) ?_
  refine x_val (.int .i64 page) (by kernel_rfl) rfl (by kernel_rfl) ?_
  refine x_loadn (t := 119) H 0 g4 0 _ _ [.int .i64 pL, .int .i64 pE, .int .i64 ((bfill (0, 0) n).1), .int .i64 ((bfill (0, 0) n).2)] rfl (by kernel_rfl) (by kernel_rfl) rfl (by kernel_rfl) (by kernel_rfl) ?_
  refine x_call (by kernel_rfl) rfl (by kernel_rfl) (DPut xs page (bfill (0, 0) n) hx hxr h1 _ (Ro.two (H.roOf [1] [.row (u1) 119 4 (List.length (rs.set i (bfill (rs.getD i (0, 0)) n))) (List.flatMap (dbL rL rE) (rs.set i (bfill (rs.getD i (0, 0)) n)))] (by kernel_rfl)) ((H.ro R0).pick [1] [.row (.slice none 0 0) 206 5 (List.length xs) (List.flatMap (dpL pL pE) xs)] (by kernel_rfl)))) ?_
  rintro _ v13 ⟨u2, rfl, hN'⟩
  refine ⟨_, rfl, ?_⟩
  replace H := H.more hN'
  clear hN'
  replace H : Hs [] w0 _ [.row (u2) 206 5 (List.length ((putB room xs page (bfill (0, 0) n)).1)) (List.flatMap (dpL pL pE) ((putB room xs page (bfill (0, 0) n)).1)), .blk g4 #[.int .i64 pL, .int .i64 pE, .int .i64 ((bfill (0, 0) n).1), .int .i64 ((bfill (0, 0) n).2)] 119, .row (u1) 119 4 (List.length (rs.set i (bfill (rs.getD i (0, 0)) n))) (List.flatMap (dbL rL rE) (rs.set i (bfill (rs.getD i (0, 0)) n))), .blk g3 #[.int .i64 rL, .int .i64 rE, .int .i64 ((bfill (rs.getD i (0, 0)) n).1), .int .i64 ((bfill (rs.getD i (0, 0)) n).2)] 119, .blk g2 #[.slice none 0 0, .slice none 0 0, .int .i64 0, .int .i64 0, .int .i64 0, .int .i64 0, .int .i64 0] 124, .blk g1 #[u1, .slice none 0 0, .int .i64 pL, .int .i64 pE, .int .i64 0, .int .i64 0, .int .i64 ((room : Nat) : Int)] 124] := H
  refine x_val (.bool (bcross rL (rs.getD i (0, 0)) n)) (by kernel_rfl) rfl (by kernel_rfl) ?_
  refine x_val (.bool (bcross pL (0, 0) n)) (by kernel_rfl) rfl (by kernel_rfl) ?_
  have h2o := H.rowOne 2 rfl
  have h3o := H.rowOne 0 rfl
  refine x_store (t := 124) (v := .agg #[u1, u2, .int .i64 pL, .int .i64 pE, .int .i64 0, .int .i64 0, .int .i64 ((room : Nat) : Int)]) H 4 g2 0 _ #[u1, u2, .int .i64 pL, .int .i64 pE, .int .i64 0, .int .i64 0, .int .i64 ((room : Nat) : Int)] 124 [u1, u2, .int .i64 pL, .int .i64 pE, .int .i64 0, .int .i64 0, .int .i64 ((room : Nat) : Int)] [.row (u2) 206 5 (List.length ((putB room xs page (bfill (0, 0) n)).1)) (List.flatMap (dpL pL pE) ((putB room xs page (bfill (0, 0) n)).1)), .blk g4 #[.int .i64 pL, .int .i64 pE, .int .i64 ((bfill (0, 0) n).1), .int .i64 ((bfill (0, 0) n).2)] 119, .row (u1) 119 4 (List.length (rs.set i (bfill (rs.getD i (0, 0)) n))) (List.flatMap (dbL rL rE) (rs.set i (bfill (rs.getD i (0, 0)) n))), .blk g3 #[.int .i64 rL, .int .i64 rE, .int .i64 ((bfill (rs.getD i (0, 0)) n).1), .int .i64 ((bfill (rs.getD i (0, 0)) n).2)] 119, .blk g2 #[u1, u2, .int .i64 pL, .int .i64 pE, .int .i64 0, .int .i64 0, .int .i64 ((room : Nat) : Int)] 124, .blk g1 #[u1, .slice none 0 0, .int .i64 pL, .int .i64 pE, .int .i64 0, .int .i64 0, .int .i64 ((room : Nat) : Int)] 124] rfl rfl (by kernel_rfl) (by simp only [List.all_cons, List.all_nil, h2o, h3o, Bool.and_true, Bool.true_and] <;> rfl) (by kernel_rfl) (by kernel_rfl) (by kernel_rfl) (by kernel_rfl) (by kernel_rfl) (by kernel_rfl) ?_
  clear H
  intro v14 H
  refine x_val (.bool (bcross rL (rs.getD i (0, 0)) n)) (by kernel_rfl) rfl (by kernel_rfl) ?_
  refine x_val (.bool (bcross pL (0, 0) n)) (by kernel_rfl) rfl (by kernel_rfl) ?_
  refine x_nil ?_
  refine x_then ?_
  refine x_retc ?_
  refine x_ret (.tuple #[.agg #[u1, u2, .int .i64 pL, .int .i64 pE, .int .i64 0, .int .i64 0, .int .i64 ((room : Nat) : Int)], .bool (bcross rL (rs.getD i (0, 0)) n), .bool (bcross pL (0, 0) n)]) (by kernel_rfl) (x_rescell H 4 g2 0 #[u1, u2, .int .i64 pL, .int .i64 pE, .int .i64 0, .int .i64 0, .int .i64 ((room : Nat) : Int)] 124 [u1, u2, .int .i64 pL, .int .i64 pE, .int .i64 0, .int .i64 0, .int .i64 ((room : Nat) : Int)] (fun x => .tuple #[x, .bool (bcross rL (rs.getD i (0, 0)) n), .bool (bcross pL (0, 0) n)]) (by kernel_rfl) (by kernel_rfl) (by kernel_rfl)) ?_
  exact ⟨_, _, rfl, H.pick [2, 0] _ (by decide) (by kernel_rfl)⟩

set_option maxRecDepth 100000 in
set_option maxHeartbeats 4000000 in
theorem DNote_s {rL rE pL pE : Int} {room : Nat} {rs : List Buk} {xs : List PairB} {g cap : Nat} {gd capd : Nat} (i : Nat) (page n : Int) (hi : i < rs.length) (h8 : rs.length ≤ 8) (hrE : 1 ≤ rE) (hb : ∀ b ∈ rs, RB rE b) (hc : RB pE (0, 0)) (hn : 0 ≤ n) (hx : xs.length ≤ 4096) (hxr : xs.length ≤ room) (h1 : 1 ≤ room) (hq : ¬ fkB xs page < xs.length) (w0 : World) (hR : Ro w0 [.row (.slice (some ⟨gd, 0, none⟩) (List.length rs) capd) 119 4 (List.length rs) (List.flatMap (dbL rL rE) rs), .row (.slice (some ⟨g, 0, none⟩) (List.length xs) cap) 206 5 (List.length xs) (List.flatMap (dpL pL pE) xs)]) :
    Calls Try.prog 118 #[.agg #[.slice (some ⟨gd, 0, none⟩) (List.length rs) capd, .slice (some ⟨g, 0, none⟩) (List.length xs) cap, .int .i64 pL, .int .i64 pE, .int .i64 0, .int .i64 0, .int .i64 ((room : Nat) : Int)], .int .i64 ((i : Nat) : Int), .int .i64 page, .int .i64 n] w0 fun e w' => ∃ u1 u2, e = .returned (.tuple #[.agg #[u1, u2, .int .i64 pL, .int .i64 pE, .int .i64 0, .int .i64 0, .int .i64 ((room : Nat) : Int)], .bool (bcross rL (rs.getD i (0, 0)) n), .bool (bcross pL (0, 0) n)]) ∧ Hs [] w0 w' [.row (u1) 119 4 (List.length (rs.set i (bfill (rs.getD i (0, 0)) n))) (List.flatMap (dbL rL rE) (rs.set i (bfill (rs.getD i (0, 0)) n))), .row (u2) 206 5 (List.length ((putB room xs page (bfill (0, 0) n)).1)) (List.flatMap (dpL pL pE) ((putB room xs page (bfill (0, 0) n)).1))] := by
  refine x_enter Try.func118 rfl #[.agg #[.slice (some ⟨gd, 0, none⟩) (List.length rs) capd, .slice (some ⟨g, 0, none⟩) (List.length xs) cap, .int .i64 pL, .int .i64 pE, .int .i64 0, .int .i64 0, .int .i64 ((room : Nat) : Int)], .int .i64 ((i : Nat) : Int), .int .i64 page, .int .i64 n, undef, undef, undef, undef, undef, undef, undef, undef, undef, undef, undef, undef, undef, undef, undef, undef, undef, undef, undef, undef, undef, undef, undef, undef, undef, undef, undef, undef, undef, undef, undef, undef, undef, undef, undef, undef, undef, undef, undef, undef, undef, undef, undef, undef, undef, undef, undef, undef, undef, undef, undef] (by kernel_rfl) ?_
  have H := Hs.nil w0
  have R0 := hR
  refine x_seq ?_
  refine x_region ?_
  refine x_box H #[.slice (some ⟨gd, 0, none⟩) (List.length rs) capd, .slice (some ⟨g, 0, none⟩) (List.length xs) cap, .int .i64 pL, .int .i64 pE, .int .i64 0, .int .i64 0, .int .i64 ((room : Nat) : Int)] 124 (by kernel_rfl) rfl (by kernel_rfl) ?_
  clear H
  intro v1 g1 H
  refine x_box H #[.slice none 0 0, .slice none 0 0, .int .i64 0, .int .i64 0, .int .i64 0, .int .i64 0, .int .i64 0] 124 (by kernel_rfl) rfl (by kernel_rfl) ?_
  clear H
  intro v2 g2 H
  refine x_val (.bool false) (by kernel_rfl) rfl (by kernel_rfl) ?_
  refine x_val (.bool false) (by kernel_rfl) rfl (by kernel_rfl) ?_
  refine x_nil ?_
  refine x_then ?_
  refine x_seq ?_
  refine x_region ?_
  refine x_val (.pointer (some ⟨g1, 0, none⟩)) (by kernel_rfl) rfl (by kernel_rfl) ?_
  refine x_load1 H 1 g1 0 _ _ (.slice (some ⟨gd, 0, none⟩) (List.length rs) capd) rfl (by kernel_rfl) (by kernel_rfl) rfl (by kernel_rfl) ?_
  refine x_val (.int .i64 ((i : Nat) : Int)) (by kernel_rfl) rfl (by kernel_rfl) ?_
  refine x_ix (t := 121) gd 0 i (List.length rs) capd 119 4 (i * 4) (by omega) (by omega) (by kernel_rfl) (by kernel_rfl) (by kernel_rfl) rfl (by kernel_rfl) ?_
  refine x_loadcn (t := 119) gd (i * 4) [.int .i64 rL, .int .i64 rE, .int .i64 ((rs.getD i (0, 0)).1), .int .i64 ((rs.getD i (0, 0)).2)] ((H.ro R0).rowCells 0 rfl (i * 4) (flatAt (dbLen rL rE) (0, 0) _ (by omega))) (by kernel_rfl) rfl (by kernel_rfl) (by kernel_rfl) ?_
  refine x_val (.int .i64 n) (by kernel_rfl) rfl (by kernel_rfl) ?_
  refine x_callB (.tuple #[.agg #[.int .i64 rL, .int .i64 rE, .int .i64 ((bfill (rs.getD i (0, 0)) n).1), .int .i64 ((bfill (rs.getD i (0, 0)) n).2)], .bool (bcross rL (rs.getD i (0, 0)) n)]) H (by kernel_rfl) rfl (by kernel_rfl) (DFill rL rE ((rs.getD i (0, 0)).1) ((rs.getD i (0, 0)).2) n (getD_ok hrE hb i) hn _) ?_
  clear H
  intro v3 H
  refine x_val (.tuple #[.agg #[.int .i64 rL, .int .i64 rE, .int .i64 ((bfill (rs.getD i (0, 0)) n).1), .int .i64 ((bfill (rs.getD i (0, 0)) n).2)], .bool (bcross rL (rs.getD i (0, 0)) n)]) (by kernel_rfl) rfl (by kernel_rfl) ?_
  refine x_val (.agg #[.int .i64 rL, .int .i64 rE, .int .i64 ((bfill (rs.getD i (0, 0)) n).1), .int .i64 ((bfill (rs.getD i (0, 0)) n).2)]) (by kernel_rfl) rfl (by kernel_rfl) ?_
  refine x_val (.bool (bcross rL (rs.getD i (0, 0)) n)) (by kernel_rfl) rfl (by kernel_rfl) ?_
  refine x_box H #[.int .i64 0, .int .i64 0, .int .i64 0, .int .i64 0] 119 (by kernel_rfl) rfl (by kernel_rfl) ?_
  clear H
  intro v4 g3 H
  refine x_store (t := 119) (v := .agg #[.int .i64 rL, .int .i64 rE, .int .i64 ((bfill (rs.getD i (0, 0)) n).1), .int .i64 ((bfill (rs.getD i (0, 0)) n).2)]) H 0 g3 0 _ #[.int .i64 rL, .int .i64 rE, .int .i64 ((bfill (rs.getD i (0, 0)) n).1), .int .i64 ((bfill (rs.getD i (0, 0)) n).2)] 119 [.int .i64 rL, .int .i64 rE, .int .i64 ((bfill (rs.getD i (0, 0)) n).1), .int .i64 ((bfill (rs.getD i (0, 0)) n).2)] _ rfl rfl (by kernel_rfl) (by kernel_rfl) (by kernel_rfl) rfl (by kernel_rfl) (by kernel_rfl) (by kernel_rfl) (by kernel_rfl) ?_
  clear H
  intro v5 H
  refine x_val (.bool (bcross rL (rs.getD i (0, 0)) n)) (by kernel_rfl) rfl (by kernel_rfl) ?_
  refine x_nil ?_
  refine x_then ?_
  refine x_seq ?_
  refine x_region ?_
  refine x_loadn (t := 124) H 2 g1 0 _ _ [.slice (some ⟨gd, 0, none⟩) (List.length rs) capd, .slice (some ⟨g, 0, none⟩) (List.length xs) cap, .int .i64 pL, .int .i64 pE, .int .i64 0, .int .i64 0, .int .i64 ((room : Nat) : Int)] rfl (by kernel_rfl) (by kernel_rfl) rfl (by kernel_rfl) (by kernel_rfl) ?_
  refine x_val (.int .i64 ((i : Nat) : Int)) (by kernel_rfl) rfl (by kernel_rfl) ?_
  refine x_loadn (t := 119) H 0 g3 0 _ _ [.int .i64 rL, .int .i64 rE, .int .i64 ((bfill (rs.getD i (0, 0)) n).1), .int .i64 ((bfill (rs.getD i (0, 0)) n).2)] rfl (by kernel_rfl) (by kernel_rfl) rfl (by kernel_rfl) (by kernel_rfl) ?_
  refine x_call (by kernel_rfl) rfl (by kernel_rfl) (DReset (room := room) i (bfill (rs.getD i (0, 0)) n) hi h8 _ (H.ro R0)) ?_
  rintro _ v6 ⟨u1, rfl, hN'⟩
  refine ⟨_, rfl, ?_⟩
  replace H := H.more hN'
  clear hN'
  replace H : Hs [] w0 _ [.row (u1) 119 4 (List.length (rs.set i (bfill (rs.getD i (0, 0)) n))) (List.flatMap (dbL rL rE) (rs.set i (bfill (rs.getD i (0, 0)) n))), .blk g3 #[.int .i64 rL, .int .i64 rE, .int .i64 ((bfill (rs.getD i (0, 0)) n).1), .int .i64 ((bfill (rs.getD i (0, 0)) n).2)] 119, .blk g2 #[.slice none 0 0, .slice none 0 0, .int .i64 0, .int .i64 0, .int .i64 0, .int .i64 0, .int .i64 0] 124, .blk g1 #[.slice (some ⟨gd, 0, none⟩) (List.length rs) capd, .slice (some ⟨g, 0, none⟩) (List.length xs) cap, .int .i64 pL, .int .i64 pE, .int .i64 0, .int .i64 0, .int .i64 ((room : Nat) : Int)] 124] := H
  have h1o := H.rowOne 0 rfl
  refine x_store (t := 124) (v := .agg #[u1, .slice (some ⟨g, 0, none⟩) (List.length xs) cap, .int .i64 pL, .int .i64 pE, .int .i64 0, .int .i64 0, .int .i64 ((room : Nat) : Int)]) H 3 g1 0 _ #[u1, .slice (some ⟨g, 0, none⟩) (List.length xs) cap, .int .i64 pL, .int .i64 pE, .int .i64 0, .int .i64 0, .int .i64 ((room : Nat) : Int)] 124 [u1, .slice (some ⟨g, 0, none⟩) (List.length xs) cap, .int .i64 pL, .int .i64 pE, .int .i64 0, .int .i64 0, .int .i64 ((room : Nat) : Int)] _ rfl rfl (by kernel_rfl) (by simp only [List.all_cons, List.all_nil, h1o, Bool.and_true, Bool.true_and] <;> rfl) (by kernel_rfl) rfl (by kernel_rfl) (by kernel_rfl) (by kernel_rfl) (by kernel_rfl) ?_
  clear H
  intro v7 H
  refine x_nil ?_
  refine x_then ?_
  refine x_seq ?_
  refine x_region ?_
  refine x_val (.pointer (some ⟨g1, 2, none⟩)) (by kernel_rfl) rfl (by kernel_rfl) ?_
  refine x_loadn (t := 119) H 3 g1 2 _ _ [.int .i64 pL, .int .i64 pE, .int .i64 0, .int .i64 0] rfl (by kernel_rfl) (by kernel_rfl) rfl (by kernel_rfl) (by kernel_rfl) ?_
  refine x_box H #[.int .i64 0, .int .i64 0, .int .i64 0, .int .i64 0] 119 (by kernel_rfl) rfl (by kernel_rfl) ?_
  clear H
  intro v8 g4 H
  refine x_store (t := 119) (v := .agg #[.int .i64 pL, .int .i64 pE, .int .i64 0, .int .i64 0]) H 0 g4 0 _ #[.int .i64 pL, .int .i64 pE, .int .i64 0, .int .i64 0] 119 [.int .i64 pL, .int .i64 pE, .int .i64 0, .int .i64 0] _ rfl rfl (by kernel_rfl) (by kernel_rfl) (by kernel_rfl) rfl (by kernel_rfl) (by kernel_rfl) (by kernel_rfl) (by kernel_rfl) ?_
  clear H
  intro v9 H
  refine x_nil ?_
  refine x_then ?_
  refine x_seq ?_
  refine x_region ?_
  refine x_loadn (t := 124) H 4 g1 0 _ _ [u1, .slice (some ⟨g, 0, none⟩) (List.length xs) cap, .int .i64 pL, .int .i64 pE, .int .i64 0, .int .i64 0, .int .i64 ((room : Nat) : Int)] rfl (by kernel_rfl) (by kernel_rfl) rfl (by kernel_rfl) (by kernel_rfl) ?_
  refine x_val (.int .i64 page) (by kernel_rfl) rfl (by kernel_rfl) ?_
  refine x_callB (.int .i64 (-1)) H (by kernel_rfl) rfl (by kernel_rfl) (by have h := DFind (room := room) (rv := u1) xs page hx _ ((H.ro R0).pick [1] [.row (.slice (some ⟨g, 0, none⟩) (List.length xs) cap) 206 5 (List.length xs) (List.flatMap (dpL pL pE) xs)] (by kernel_rfl)); rw [show findB xs page = -1 by unfold findB; rw [if_neg hq]] at h; exact h) ?_
  clear H
  intro v10 H
  refine x_val (.int .i64 (-1)) (by kernel_rfl) rfl (by kernel_rfl) ?_
  refine x_nil ?_
  refine x_then ?_
  refine x_seq ?_
  refine x_seq ?_
  refine x_region ?_
  refine x_val (.int .i64 (-1)) (by kernel_rfl) rfl (by kernel_rfl) ?_
  refine x_val (.bool false) (by kernel_rfl) rfl (by kernel_rfl) ?_
  refine x_nil ?_
  refine x_then ?_
  refine x_f (by kernel_rfl) ?_
  refine x_skipc ?_
  refine x_then ?_
  refine x_seq ?_
  refine x_region ?_
  refine x_loadn (t := 119) H 0 g4 0 _ _ [.int .i64 pL, .int .i64 pE, .int .i64 0, .int .i64 0] rfl (by kernel_rfl) (by kernel_rfl) rfl (by kernel_rfl) (by kernel_rfl) ?_
  refine x_val (.int .i64 n) (by kernel_rfl) rfl (by kernel_rfl) ?_
  refine x_callB (.tuple #[.agg #[.int .i64 pL, .int .i64 pE, .int .i64 ((bfill (0, 0) n).1), .int .i64 ((bfill (0, 0) n).2)], .bool (bcross pL (0, 0) n)]) H (by kernel_rfl) rfl (by kernel_rfl) (DFill pL pE 0 0 n hc hn _) ?_
  clear H
  intro v11 H
  refine x_val (.tuple #[.agg #[.int .i64 pL, .int .i64 pE, .int .i64 ((bfill (0, 0) n).1), .int .i64 ((bfill (0, 0) n).2)], .bool (bcross pL (0, 0) n)]) (by kernel_rfl) rfl (by kernel_rfl) ?_
  refine x_val (.agg #[.int .i64 pL, .int .i64 pE, .int .i64 ((bfill (0, 0) n).1), .int .i64 ((bfill (0, 0) n).2)]) (by kernel_rfl) rfl (by kernel_rfl) ?_
  refine x_val (.bool (bcross pL (0, 0) n)) (by kernel_rfl) rfl (by kernel_rfl) ?_
  refine x_store (t := 119) (v := .agg #[.int .i64 pL, .int .i64 pE, .int .i64 ((bfill (0, 0) n).1), .int .i64 ((bfill (0, 0) n).2)]) H 0 g4 0 _ #[.int .i64 pL, .int .i64 pE, .int .i64 ((bfill (0, 0) n).1), .int .i64 ((bfill (0, 0) n).2)] 119 [.int .i64 pL, .int .i64 pE, .int .i64 ((bfill (0, 0) n).1), .int .i64 ((bfill (0, 0) n).2)] _ rfl rfl (by kernel_rfl) (by kernel_rfl) (by kernel_rfl) rfl (by kernel_rfl) (by kernel_rfl) (by kernel_rfl) (by kernel_rfl) ?_
  clear H
  intro v12 H
  refine x_val (.bool (bcross pL (0, 0) n)) (by kernel_rfl) rfl (by kernel_rfl) ?_
  refine x_nil ?_
  refine x_then ?_
  refine x_seq ?_
  refine x_region ?_
  refine x_loadn (t := 124) H 4 g1 0 _ _ [u1, .slice (some ⟨g, 0, none⟩) (List.length xs) cap, .int .i64 pL, .int .i64 pE, .int .i64 0, .int .i64 0, .int .i64 ((room : Nat) : Int)] rfl (by kernel_rfl) (by kernel_rfl) rfl (by kernel_rfl) (by kernel_rfl) ?_
  refine x_val (.int .i64 page) (by kernel_rfl) rfl (by kernel_rfl) ?_
  refine x_loadn (t := 119) H 0 g4 0 _ _ [.int .i64 pL, .int .i64 pE, .int .i64 ((bfill (0, 0) n).1), .int .i64 ((bfill (0, 0) n).2)] rfl (by kernel_rfl) (by kernel_rfl) rfl (by kernel_rfl) (by kernel_rfl) ?_
  refine x_call (by kernel_rfl) rfl (by kernel_rfl) (DPut xs page (bfill (0, 0) n) hx hxr h1 _ (Ro.two (H.roOf [1] [.row (u1) 119 4 (List.length (rs.set i (bfill (rs.getD i (0, 0)) n))) (List.flatMap (dbL rL rE) (rs.set i (bfill (rs.getD i (0, 0)) n)))] (by kernel_rfl)) ((H.ro R0).pick [1] [.row (.slice (some ⟨g, 0, none⟩) (List.length xs) cap) 206 5 (List.length xs) (List.flatMap (dpL pL pE) xs)] (by kernel_rfl)))) ?_
  rintro _ v13 ⟨u2, rfl, hN'⟩
  refine ⟨_, rfl, ?_⟩
  replace H := H.more hN'
  clear hN'
  replace H : Hs [] w0 _ [.row (u2) 206 5 (List.length ((putB room xs page (bfill (0, 0) n)).1)) (List.flatMap (dpL pL pE) ((putB room xs page (bfill (0, 0) n)).1)), .blk g4 #[.int .i64 pL, .int .i64 pE, .int .i64 ((bfill (0, 0) n).1), .int .i64 ((bfill (0, 0) n).2)] 119, .row (u1) 119 4 (List.length (rs.set i (bfill (rs.getD i (0, 0)) n))) (List.flatMap (dbL rL rE) (rs.set i (bfill (rs.getD i (0, 0)) n))), .blk g3 #[.int .i64 rL, .int .i64 rE, .int .i64 ((bfill (rs.getD i (0, 0)) n).1), .int .i64 ((bfill (rs.getD i (0, 0)) n).2)] 119, .blk g2 #[.slice none 0 0, .slice none 0 0, .int .i64 0, .int .i64 0, .int .i64 0, .int .i64 0, .int .i64 0] 124, .blk g1 #[u1, .slice (some ⟨g, 0, none⟩) (List.length xs) cap, .int .i64 pL, .int .i64 pE, .int .i64 0, .int .i64 0, .int .i64 ((room : Nat) : Int)] 124] := H
  refine x_val (.bool (bcross rL (rs.getD i (0, 0)) n)) (by kernel_rfl) rfl (by kernel_rfl) ?_
  refine x_val (.bool (bcross pL (0, 0) n)) (by kernel_rfl) rfl (by kernel_rfl) ?_
  have h2o := H.rowOne 2 rfl
  have h3o := H.rowOne 0 rfl
  refine x_store (t := 124) (v := .agg #[u1, u2, .int .i64 pL, .int .i64 pE, .int .i64 0, .int .i64 0, .int .i64 ((room : Nat) : Int)]) H 4 g2 0 _ #[u1, u2, .int .i64 pL, .int .i64 pE, .int .i64 0, .int .i64 0, .int .i64 ((room : Nat) : Int)] 124 [u1, u2, .int .i64 pL, .int .i64 pE, .int .i64 0, .int .i64 0, .int .i64 ((room : Nat) : Int)] [.row (u2) 206 5 (List.length ((putB room xs page (bfill (0, 0) n)).1)) (List.flatMap (dpL pL pE) ((putB room xs page (bfill (0, 0) n)).1)), .blk g4 #[.int .i64 pL, .int .i64 pE, .int .i64 ((bfill (0, 0) n).1), .int .i64 ((bfill (0, 0) n).2)] 119, .row (u1) 119 4 (List.length (rs.set i (bfill (rs.getD i (0, 0)) n))) (List.flatMap (dbL rL rE) (rs.set i (bfill (rs.getD i (0, 0)) n))), .blk g3 #[.int .i64 rL, .int .i64 rE, .int .i64 ((bfill (rs.getD i (0, 0)) n).1), .int .i64 ((bfill (rs.getD i (0, 0)) n).2)] 119, .blk g2 #[u1, u2, .int .i64 pL, .int .i64 pE, .int .i64 0, .int .i64 0, .int .i64 ((room : Nat) : Int)] 124, .blk g1 #[u1, .slice (some ⟨g, 0, none⟩) (List.length xs) cap, .int .i64 pL, .int .i64 pE, .int .i64 0, .int .i64 0, .int .i64 ((room : Nat) : Int)] 124] rfl rfl (by kernel_rfl) (by simp only [List.all_cons, List.all_nil, h2o, h3o, Bool.and_true, Bool.true_and] <;> rfl) (by kernel_rfl) (by kernel_rfl) (by kernel_rfl) (by kernel_rfl) (by kernel_rfl) (by kernel_rfl) ?_
  clear H
  intro v14 H
  refine x_val (.bool (bcross rL (rs.getD i (0, 0)) n)) (by kernel_rfl) rfl (by kernel_rfl) ?_
  refine x_val (.bool (bcross pL (0, 0) n)) (by kernel_rfl) rfl (by kernel_rfl) ?_
  refine x_nil ?_
  refine x_then ?_
  refine x_retc ?_
  refine x_ret (.tuple #[.agg #[u1, u2, .int .i64 pL, .int .i64 pE, .int .i64 0, .int .i64 0, .int .i64 ((room : Nat) : Int)], .bool (bcross rL (rs.getD i (0, 0)) n), .bool (bcross pL (0, 0) n)]) (by kernel_rfl) (x_rescell H 4 g2 0 #[u1, u2, .int .i64 pL, .int .i64 pE, .int .i64 0, .int .i64 0, .int .i64 ((room : Nat) : Int)] 124 [u1, u2, .int .i64 pL, .int .i64 pE, .int .i64 0, .int .i64 0, .int .i64 ((room : Nat) : Int)] (fun x => .tuple #[x, .bool (bcross rL (rs.getD i (0, 0)) n), .bool (bcross pL (0, 0) n)]) (by kernel_rfl) (by kernel_rfl) (by kernel_rfl)) ?_
  exact ⟨_, _, rfl, H.pick [2, 0] _ (by decide) (by kernel_rfl)⟩

set_option maxRecDepth 100000 in
set_option maxHeartbeats 4000000 in
theorem DNote_h {rL rE pL pE : Int} {room : Nat} {rs : List Buk} {xs : List PairB} {g cap : Nat} {gd capd : Nat} (i : Nat) (page n : Int) (hi : i < rs.length) (h8 : rs.length ≤ 8) (hrE : 1 ≤ rE) (hb : ∀ b ∈ rs, RB rE b) (hc : RB pE ((xs.getD (fkB xs page) (0, 0, 0)).2)) (hn : 0 ≤ n) (hx : xs.length ≤ 4096) (hxr : xs.length ≤ room) (h1 : 1 ≤ room) (hq : fkB xs page < xs.length) (w0 : World) (hR : Ro w0 [.row (.slice (some ⟨gd, 0, none⟩) (List.length rs) capd) 119 4 (List.length rs) (List.flatMap (dbL rL rE) rs), .row (.slice (some ⟨g, 0, none⟩) (List.length xs) cap) 206 5 (List.length xs) (List.flatMap (dpL pL pE) xs)]) :
    Calls Try.prog 118 #[.agg #[.slice (some ⟨gd, 0, none⟩) (List.length rs) capd, .slice (some ⟨g, 0, none⟩) (List.length xs) cap, .int .i64 pL, .int .i64 pE, .int .i64 0, .int .i64 0, .int .i64 ((room : Nat) : Int)], .int .i64 ((i : Nat) : Int), .int .i64 page, .int .i64 n] w0 fun e w' => ∃ u1 u2, e = .returned (.tuple #[.agg #[u1, u2, .int .i64 pL, .int .i64 pE, .int .i64 0, .int .i64 0, .int .i64 ((room : Nat) : Int)], .bool (bcross rL (rs.getD i (0, 0)) n), .bool (bcross pL ((xs.getD (fkB xs page) (0, 0, 0)).2) n)]) ∧ Hs [] w0 w' [.row (u1) 119 4 (List.length (rs.set i (bfill (rs.getD i (0, 0)) n))) (List.flatMap (dbL rL rE) (rs.set i (bfill (rs.getD i (0, 0)) n))), .row (u2) 206 5 (List.length ((putB room xs page (bfill ((xs.getD (fkB xs page) (0, 0, 0)).2) n)).1)) (List.flatMap (dpL pL pE) ((putB room xs page (bfill ((xs.getD (fkB xs page) (0, 0, 0)).2) n)).1))] := by
  refine x_enter Try.func118 rfl #[.agg #[.slice (some ⟨gd, 0, none⟩) (List.length rs) capd, .slice (some ⟨g, 0, none⟩) (List.length xs) cap, .int .i64 pL, .int .i64 pE, .int .i64 0, .int .i64 0, .int .i64 ((room : Nat) : Int)], .int .i64 ((i : Nat) : Int), .int .i64 page, .int .i64 n, undef, undef, undef, undef, undef, undef, undef, undef, undef, undef, undef, undef, undef, undef, undef, undef, undef, undef, undef, undef, undef, undef, undef, undef, undef, undef, undef, undef, undef, undef, undef, undef, undef, undef, undef, undef, undef, undef, undef, undef, undef, undef, undef, undef, undef, undef, undef, undef, undef, undef, undef] (by kernel_rfl) ?_
  have H := Hs.nil w0
  have R0 := hR
  refine x_seq ?_
  refine x_region ?_
  refine x_box H #[.slice (some ⟨gd, 0, none⟩) (List.length rs) capd, .slice (some ⟨g, 0, none⟩) (List.length xs) cap, .int .i64 pL, .int .i64 pE, .int .i64 0, .int .i64 0, .int .i64 ((room : Nat) : Int)] 124 (by kernel_rfl) rfl (by kernel_rfl) ?_
  clear H
  intro v1 g1 H
  refine x_box H #[.slice none 0 0, .slice none 0 0, .int .i64 0, .int .i64 0, .int .i64 0, .int .i64 0, .int .i64 0] 124 (by kernel_rfl) rfl (by kernel_rfl) ?_
  clear H
  intro v2 g2 H
  refine x_val (.bool false) (by kernel_rfl) rfl (by kernel_rfl) ?_
  refine x_val (.bool false) (by kernel_rfl) rfl (by kernel_rfl) ?_
  refine x_nil ?_
  refine x_then ?_
  refine x_seq ?_
  refine x_region ?_
  refine x_val (.pointer (some ⟨g1, 0, none⟩)) (by kernel_rfl) rfl (by kernel_rfl) ?_
  refine x_load1 H 1 g1 0 _ _ (.slice (some ⟨gd, 0, none⟩) (List.length rs) capd) rfl (by kernel_rfl) (by kernel_rfl) rfl (by kernel_rfl) ?_
  refine x_val (.int .i64 ((i : Nat) : Int)) (by kernel_rfl) rfl (by kernel_rfl) ?_
  refine x_ix (t := 121) gd 0 i (List.length rs) capd 119 4 (i * 4) (by omega) (by omega) (by kernel_rfl) (by kernel_rfl) (by kernel_rfl) rfl (by kernel_rfl) ?_
  refine x_loadcn (t := 119) gd (i * 4) [.int .i64 rL, .int .i64 rE, .int .i64 ((rs.getD i (0, 0)).1), .int .i64 ((rs.getD i (0, 0)).2)] ((H.ro R0).rowCells 0 rfl (i * 4) (flatAt (dbLen rL rE) (0, 0) _ (by omega))) (by kernel_rfl) rfl (by kernel_rfl) (by kernel_rfl) ?_
  refine x_val (.int .i64 n) (by kernel_rfl) rfl (by kernel_rfl) ?_
  refine x_callB (.tuple #[.agg #[.int .i64 rL, .int .i64 rE, .int .i64 ((bfill (rs.getD i (0, 0)) n).1), .int .i64 ((bfill (rs.getD i (0, 0)) n).2)], .bool (bcross rL (rs.getD i (0, 0)) n)]) H (by kernel_rfl) rfl (by kernel_rfl) (DFill rL rE ((rs.getD i (0, 0)).1) ((rs.getD i (0, 0)).2) n (getD_ok hrE hb i) hn _) ?_
  clear H
  intro v3 H
  refine x_val (.tuple #[.agg #[.int .i64 rL, .int .i64 rE, .int .i64 ((bfill (rs.getD i (0, 0)) n).1), .int .i64 ((bfill (rs.getD i (0, 0)) n).2)], .bool (bcross rL (rs.getD i (0, 0)) n)]) (by kernel_rfl) rfl (by kernel_rfl) ?_
  refine x_val (.agg #[.int .i64 rL, .int .i64 rE, .int .i64 ((bfill (rs.getD i (0, 0)) n).1), .int .i64 ((bfill (rs.getD i (0, 0)) n).2)]) (by kernel_rfl) rfl (by kernel_rfl) ?_
  refine x_val (.bool (bcross rL (rs.getD i (0, 0)) n)) (by kernel_rfl) rfl (by kernel_rfl) ?_
  refine x_box H #[.int .i64 0, .int .i64 0, .int .i64 0, .int .i64 0] 119 (by kernel_rfl) rfl (by kernel_rfl) ?_
  clear H
  intro v4 g3 H
  refine x_store (t := 119) (v := .agg #[.int .i64 rL, .int .i64 rE, .int .i64 ((bfill (rs.getD i (0, 0)) n).1), .int .i64 ((bfill (rs.getD i (0, 0)) n).2)]) H 0 g3 0 _ #[.int .i64 rL, .int .i64 rE, .int .i64 ((bfill (rs.getD i (0, 0)) n).1), .int .i64 ((bfill (rs.getD i (0, 0)) n).2)] 119 [.int .i64 rL, .int .i64 rE, .int .i64 ((bfill (rs.getD i (0, 0)) n).1), .int .i64 ((bfill (rs.getD i (0, 0)) n).2)] _ rfl rfl (by kernel_rfl) (by kernel_rfl) (by kernel_rfl) rfl (by kernel_rfl) (by kernel_rfl) (by kernel_rfl) (by kernel_rfl) ?_
  clear H
  intro v5 H
  refine x_val (.bool (bcross rL (rs.getD i (0, 0)) n)) (by kernel_rfl) rfl (by kernel_rfl) ?_
  refine x_nil ?_
  refine x_then ?_
  refine x_seq ?_
  refine x_region ?_
  refine x_loadn (t := 124) H 2 g1 0 _ _ [.slice (some ⟨gd, 0, none⟩) (List.length rs) capd, .slice (some ⟨g, 0, none⟩) (List.length xs) cap, .int .i64 pL, .int .i64 pE, .int .i64 0, .int .i64 0, .int .i64 ((room : Nat) : Int)] rfl (by kernel_rfl) (by kernel_rfl) rfl (by kernel_rfl) (by kernel_rfl) ?_
  refine x_val (.int .i64 ((i : Nat) : Int)) (by kernel_rfl) rfl (by kernel_rfl) ?_
  refine x_loadn (t := 119) H 0 g3 0 _ _ [.int .i64 rL, .int .i64 rE, .int .i64 ((bfill (rs.getD i (0, 0)) n).1), .int .i64 ((bfill (rs.getD i (0, 0)) n).2)] rfl (by kernel_rfl) (by kernel_rfl) rfl (by kernel_rfl) (by kernel_rfl) ?_
  refine x_call (by kernel_rfl) rfl (by kernel_rfl) (DReset (room := room) i (bfill (rs.getD i (0, 0)) n) hi h8 _ (H.ro R0)) ?_
  rintro _ v6 ⟨u1, rfl, hN'⟩
  refine ⟨_, rfl, ?_⟩
  replace H := H.more hN'
  clear hN'
  replace H : Hs [] w0 _ [.row (u1) 119 4 (List.length (rs.set i (bfill (rs.getD i (0, 0)) n))) (List.flatMap (dbL rL rE) (rs.set i (bfill (rs.getD i (0, 0)) n))), .blk g3 #[.int .i64 rL, .int .i64 rE, .int .i64 ((bfill (rs.getD i (0, 0)) n).1), .int .i64 ((bfill (rs.getD i (0, 0)) n).2)] 119, .blk g2 #[.slice none 0 0, .slice none 0 0, .int .i64 0, .int .i64 0, .int .i64 0, .int .i64 0, .int .i64 0] 124, .blk g1 #[.slice (some ⟨gd, 0, none⟩) (List.length rs) capd, .slice (some ⟨g, 0, none⟩) (List.length xs) cap, .int .i64 pL, .int .i64 pE, .int .i64 0, .int .i64 0, .int .i64 ((room : Nat) : Int)] 124] := H
  have h1o := H.rowOne 0 rfl
  refine x_store (t := 124) (v := .agg #[u1, .slice (some ⟨g, 0, none⟩) (List.length xs) cap, .int .i64 pL, .int .i64 pE, .int .i64 0, .int .i64 0, .int .i64 ((room : Nat) : Int)]) H 3 g1 0 _ #[u1, .slice (some ⟨g, 0, none⟩) (List.length xs) cap, .int .i64 pL, .int .i64 pE, .int .i64 0, .int .i64 0, .int .i64 ((room : Nat) : Int)] 124 [u1, .slice (some ⟨g, 0, none⟩) (List.length xs) cap, .int .i64 pL, .int .i64 pE, .int .i64 0, .int .i64 0, .int .i64 ((room : Nat) : Int)] _ rfl rfl (by kernel_rfl) (by simp only [List.all_cons, List.all_nil, h1o, Bool.and_true, Bool.true_and] <;> rfl) (by kernel_rfl) rfl (by kernel_rfl) (by kernel_rfl) (by kernel_rfl) (by kernel_rfl) ?_
  clear H
  intro v7 H
  refine x_nil ?_
  refine x_then ?_
  refine x_seq ?_
  refine x_region ?_
  refine x_val (.pointer (some ⟨g1, 2, none⟩)) (by kernel_rfl) rfl (by kernel_rfl) ?_
  refine x_loadn (t := 119) H 3 g1 2 _ _ [.int .i64 pL, .int .i64 pE, .int .i64 0, .int .i64 0] rfl (by kernel_rfl) (by kernel_rfl) rfl (by kernel_rfl) (by kernel_rfl) ?_
  refine x_box H #[.int .i64 0, .int .i64 0, .int .i64 0, .int .i64 0] 119 (by kernel_rfl) rfl (by kernel_rfl) ?_
  clear H
  intro v8 g4 H
  refine x_store (t := 119) (v := .agg #[.int .i64 pL, .int .i64 pE, .int .i64 0, .int .i64 0]) H 0 g4 0 _ #[.int .i64 pL, .int .i64 pE, .int .i64 0, .int .i64 0] 119 [.int .i64 pL, .int .i64 pE, .int .i64 0, .int .i64 0] _ rfl rfl (by kernel_rfl) (by kernel_rfl) (by kernel_rfl) rfl (by kernel_rfl) (by kernel_rfl) (by kernel_rfl) (by kernel_rfl) ?_
  clear H
  intro v9 H
  refine x_nil ?_
  refine x_then ?_
  refine x_seq ?_
  refine x_region ?_
  refine x_loadn (t := 124) H 4 g1 0 _ _ [u1, .slice (some ⟨g, 0, none⟩) (List.length xs) cap, .int .i64 pL, .int .i64 pE, .int .i64 0, .int .i64 0, .int .i64 ((room : Nat) : Int)] rfl (by kernel_rfl) (by kernel_rfl) rfl (by kernel_rfl) (by kernel_rfl) ?_
  refine x_val (.int .i64 page) (by kernel_rfl) rfl (by kernel_rfl) ?_
  refine x_callB (.int .i64 (((fkB xs page) : Nat) : Int)) H (by kernel_rfl) rfl (by kernel_rfl) (by have h := DFind (room := room) (rv := u1) xs page hx _ ((H.ro R0).pick [1] [.row (.slice (some ⟨g, 0, none⟩) (List.length xs) cap) 206 5 (List.length xs) (List.flatMap (dpL pL pE) xs)] (by kernel_rfl)); rw [show findB xs page = (((fkB xs page) : Nat) : Int) by unfold findB; rw [if_pos hq]] at h; exact h) ?_
  clear H
  intro v10 H
  refine x_val (.int .i64 (((fkB xs page) : Nat) : Int)) (by kernel_rfl) rfl (by kernel_rfl) ?_
  refine x_nil ?_
  refine x_then ?_
  refine x_seq ?_
  refine x_seq ?_
  refine x_region ?_
  refine x_val (.int .i64 (((fkB xs page) : Nat) : Int)) (by kernel_rfl) rfl (by kernel_rfl) ?_
  refine x_val (.bool (decide (0 ≤ (((fkB xs page) : Nat) : Int)))) (by kernel_rfl) rfl (by kernel_rfl) ?_
  refine x_nil ?_
  refine x_then ?_
  cases h2 : decide (0 ≤ (((fkB xs page) : Nat) : Int))
  · skip
    have h2p := of_decide_eq_false h2
    exact absurd h2p (by omega)
  · skip
    have h2p := of_decide_eq_true h2
    refine x_t (by kernel_rfl) ?_
    refine x_region ?_
    refine x_val (.pointer (some ⟨g1, 1, none⟩)) (by kernel_rfl) rfl (by kernel_rfl) ?_
    refine x_load1 H 4 g1 1 _ _ (.slice (some ⟨g, 0, none⟩) (List.length xs) cap) rfl (by kernel_rfl) (by kernel_rfl) rfl (by kernel_rfl) ?_
    refine x_val (.int .i64 (((fkB xs page) : Nat) : Int)) (by kernel_rfl) rfl (by kernel_rfl) ?_
    refine x_ix (t := 122) g 0 (fkB xs page) (List.length xs) cap 206 5 ((fkB xs page) * 5) hq (by omega) (by kernel_rfl) (by kernel_rfl) (by kernel_rfl) rfl (by kernel_rfl) ?_
    refine x_val (.pointer (some ⟨g, (fkB xs page) * 5 + 1, none⟩)) (by kernel_rfl) rfl (by kernel_rfl) ?_
    refine x_loadcn (t := 119) g ((fkB xs page) * 5 + 1) [.int .i64 pL, .int .i64 pE, .int .i64 ((xs.getD (fkB xs page) (0, 0, 0)).2.1), .int .i64 ((xs.getD (fkB xs page) (0, 0, 0)).2.2)] (subCells (vs := [.int .i64 ((xs.getD (fkB xs page) (0, 0, 0)).1), .int .i64 pL, .int .i64 pE, .int .i64 ((xs.getD (fkB xs page) (0, 0, 0)).2.1), .int .i64 ((xs.getD (fkB xs page) (0, 0, 0)).2.2)]) ((H.ro R0).rowCells 1 rfl ((fkB xs page) * 5) (flatAt (dpLen pL pE) (0, 0, 0) _ (by omega))) 1 _ rfl) (by kernel_rfl) rfl (by kernel_rfl) (by kernel_rfl) ?_
    refine x_store (t := 119) (v := .agg #[.int .i64 pL, .int .i64 pE, .int .i64 ((xs.getD (fkB xs page) (0, 0, 0)).2.1), .int .i64 ((xs.getD (fkB xs page) (0, 0, 0)).2.2)]) H 0 g4 0 _ #[.int .i64 pL, .int .i64 pE, .int .i64 ((xs.getD (fkB xs page) (0, 0, 0)).2.1), .int .i64 ((xs.getD (fkB xs page) (0, 0, 0)).2.2)] 119 [.int .i64 pL, .int .i64 pE, .int .i64 ((xs.getD (fkB xs page) (0, 0, 0)).2.1), .int .i64 ((xs.getD (fkB xs page) (0, 0, 0)).2.2)] _ rfl rfl (by kernel_rfl) (by kernel_rfl) (by kernel_rfl) rfl (by kernel_rfl) (by kernel_rfl) (by kernel_rfl) (by kernel_rfl) ?_
    clear H
    intro v11 H
    refine x_nil ?_
    refine x_then ?_
    refine x_seq ?_
    refine x_region ?_
    refine x_loadn (t := 119) H 0 g4 0 _ _ [.int .i64 pL, .int .i64 pE, .int .i64 ((xs.getD (fkB xs page) (0, 0, 0)).2.1), .int .i64 ((xs.getD (fkB xs page) (0, 0, 0)).2.2)] rfl (by kernel_rfl) (by kernel_rfl) rfl (by kernel_rfl) (by kernel_rfl) ?_
    refine x_val (.int .i64 n) (by kernel_rfl) rfl (by kernel_rfl) ?_
    refine x_callB (.tuple #[.agg #[.int .i64 pL, .int .i64 pE, .int .i64 ((bfill (xs.getD (fkB xs page) (0, 0, 0)).2 n).1), .int .i64 ((bfill (xs.getD (fkB xs page) (0, 0, 0)).2 n).2)], .bool (bcross pL (xs.getD (fkB xs page) (0, 0, 0)).2 n)]) H (by kernel_rfl) rfl (by kernel_rfl) (DFill pL pE ((xs.getD (fkB xs page) (0, 0, 0)).2.1) ((xs.getD (fkB xs page) (0, 0, 0)).2.2) n hc hn _) ?_
    clear H
    intro v12 H
    refine x_val (.tuple #[.agg #[.int .i64 pL, .int .i64 pE, .int .i64 ((bfill (xs.getD (fkB xs page) (0, 0, 0)).2 n).1), .int .i64 ((bfill (xs.getD (fkB xs page) (0, 0, 0)).2 n).2)], .bool (bcross pL (xs.getD (fkB xs page) (0, 0, 0)).2 n)]) (by kernel_rfl) rfl (by kernel_rfl) ?_
    refine x_val (.agg #[.int .i64 pL, .int .i64 pE, .int .i64 ((bfill (xs.getD (fkB xs page) (0, 0, 0)).2 n).1), .int .i64 ((bfill (xs.getD (fkB xs page) (0, 0, 0)).2 n).2)]) (by kernel_rfl) rfl (by kernel_rfl) ?_
    refine x_val (.bool (bcross pL (xs.getD (fkB xs page) (0, 0, 0)).2 n)) (by kernel_rfl) rfl (by kernel_rfl) ?_
    refine x_store (t := 119) (v := .agg #[.int .i64 pL, .int .i64 pE, .int .i64 ((bfill (xs.getD (fkB xs page) (0, 0, 0)).2 n).1), .int .i64 ((bfill (xs.getD (fkB xs page) (0, 0, 0)).2 n).2)]) H 0 g4 0 _ #[.int .i64 pL, .int .i64 pE, .int .i64 ((bfill (xs.getD (fkB xs page) (0, 0, 0)).2 n).1), .int .i64 ((bfill (xs.getD (fkB xs page) (0, 0, 0)).2 n).2)] 119 [.int .i64 pL, .int .i64 pE, .int .i64 ((bfill (xs.getD (fkB xs page) (0, 0, 0)).2 n).1), .int .i64 ((bfill (xs.getD (fkB xs page) (0, 0, 0)).2 n).2)] [.blk g4 #[.int .i64 pL, .int .i64 pE, .int .i64 ((bfill (xs.getD (fkB xs page) (0, 0, 0)).2 n).1), .int .i64 ((bfill (xs.getD (fkB xs page) (0, 0, 0)).2 n).2)] 119, .row (u1) 119 4 (List.length (rs.set i (bfill (rs.getD i (0, 0)) n))) (List.flatMap (dbL rL rE) (rs.set i (bfill (rs.getD i (0, 0)) n))), .blk g3 #[.int .i64 rL, .int .i64 rE, .int .i64 ((bfill (rs.getD i (0, 0)) n).1), .int .i64 ((bfill (rs.getD i (0, 0)) n).2)] 119, .blk g2 #[.slice none 0 0, .slice none 0 0, .int .i64 0, .int .i64 0, .int .i64 0, .int .i64 0, .int .i64 0] 124, .blk g1 #[u1, .slice (some ⟨g, 0, none⟩) (List.length xs) cap, .int .i64 pL, .int .i64 pE, .int .i64 0, .int .i64 0, .int .i64 ((room : Nat) : Int)] 124] rfl rfl (by kernel_rfl) (by kernel_rfl) (by kernel_rfl) (by kernel_rfl) (by kernel_rfl) (by kernel_rfl) (by kernel_rfl) (by kernel_rfl) ?_
    clear H
    intro v13 H
    refine x_val (.bool (bcross pL (xs.getD (fkB xs page) (0, 0, 0)).2 n)) (by kernel_rfl) rfl (by kernel_rfl) ?_
    refine x_nil ?_
    refine x_then ?_
    refine x_seq ?_
    refine x_region ?_
    refine x_loadn (t := 124) H 4 g1 0 _ _ [u1, .slice (some ⟨g, 0, none⟩) (List.length xs) cap, .int .i64 pL, .int .i64 pE, .int .i64 0, .int .i64 0, .int .i64 ((room : Nat) : Int)] rfl (by kernel_rfl) (by kernel_rfl) rfl (by kernel_rfl) (by kernel_rfl) ?_
    refine x_val (.int .i64 page) (by kernel_rfl) rfl (by kernel_rfl) ?_
    refine x_loadn (t := 119) H 0 g4 0 _ _ [.int .i64 pL, .int .i64 pE, .int .i64 ((bfill (xs.getD (fkB xs page) (0, 0, 0)).2 n).1), .int .i64 ((bfill (xs.getD (fkB xs page) (0, 0, 0)).2 n).2)] rfl (by kernel_rfl) (by kernel_rfl) rfl (by kernel_rfl) (by kernel_rfl) ?_
    refine x_call (by kernel_rfl) rfl (by kernel_rfl) (DPut xs page (bfill ((xs.getD (fkB xs page) (0, 0, 0)).2) n) hx hxr h1 _ (Ro.two (H.roOf [1] [.row (u1) 119 4 (List.length (rs.set i (bfill (rs.getD i (0, 0)) n))) (List.flatMap (dbL rL rE) (rs.set i (bfill (rs.getD i (0, 0)) n)))] (by kernel_rfl)) ((H.ro R0).pick [1] [.row (.slice (some ⟨g, 0, none⟩) (List.length xs) cap) 206 5 (List.length xs) (List.flatMap (dpL pL pE) xs)] (by kernel_rfl)))) ?_
    rintro _ v14 ⟨u2, rfl, hN'⟩
    refine ⟨_, rfl, ?_⟩
    replace H := H.more hN'
    clear hN'
    replace H : Hs [] w0 _ [.row (u2) 206 5 (List.length ((putB room xs page (bfill ((xs.getD (fkB xs page) (0, 0, 0)).2) n)).1)) (List.flatMap (dpL pL pE) ((putB room xs page (bfill ((xs.getD (fkB xs page) (0, 0, 0)).2) n)).1)), .blk g4 #[.int .i64 pL, .int .i64 pE, .int .i64 ((bfill (xs.getD (fkB xs page) (0, 0, 0)).2 n).1), .int .i64 ((bfill (xs.getD (fkB xs page) (0, 0, 0)).2 n).2)] 119, .row (u1) 119 4 (List.length (rs.set i (bfill (rs.getD i (0, 0)) n))) (List.flatMap (dbL rL rE) (rs.set i (bfill (rs.getD i (0, 0)) n))), .blk g3 #[.int .i64 rL, .int .i64 rE, .int .i64 ((bfill (rs.getD i (0, 0)) n).1), .int .i64 ((bfill (rs.getD i (0, 0)) n).2)] 119, .blk g2 #[.slice none 0 0, .slice none 0 0, .int .i64 0, .int .i64 0, .int .i64 0, .int .i64 0, .int .i64 0] 124, .blk g1 #[u1, .slice (some ⟨g, 0, none⟩) (List.length xs) cap, .int .i64 pL, .int .i64 pE, .int .i64 0, .int .i64 0, .int .i64 ((room : Nat) : Int)] 124] := H
    refine x_val (.bool (bcross rL (rs.getD i (0, 0)) n)) (by kernel_rfl) rfl (by kernel_rfl) ?_
    refine x_val (.bool (bcross pL (xs.getD (fkB xs page) (0, 0, 0)).2 n)) (by kernel_rfl) rfl (by kernel_rfl) ?_
    have h3o := H.rowOne 2 rfl
    have h4o := H.rowOne 0 rfl
    refine x_store (t := 124) (v := .agg #[u1, u2, .int .i64 pL, .int .i64 pE, .int .i64 0, .int .i64 0, .int .i64 ((room : Nat) : Int)]) H 4 g2 0 _ #[u1, u2, .int .i64 pL, .int .i64 pE, .int .i64 0, .int .i64 0, .int .i64 ((room : Nat) : Int)] 124 [u1, u2, .int .i64 pL, .int .i64 pE, .int .i64 0, .int .i64 0, .int .i64 ((room : Nat) : Int)] _ rfl rfl (by kernel_rfl) (by simp only [List.all_cons, List.all_nil, h3o, h4o, Bool.and_true, Bool.true_and] <;> rfl) (by kernel_rfl) rfl (by kernel_rfl) (by kernel_rfl) (by kernel_rfl) (by kernel_rfl) ?_
    clear H
    intro v15 H
    refine x_val (.bool (bcross rL (rs.getD i (0, 0)) n)) (by kernel_rfl) rfl (by kernel_rfl) ?_
    refine x_val (.bool (bcross pL (xs.getD (fkB xs page) (0, 0, 0)).2 n)) (by kernel_rfl) rfl (by kernel_rfl) ?_
    refine x_nil ?_
    refine x_then ?_
    refine x_retc ?_
    refine x_ret (.tuple #[.agg #[u1, u2, .int .i64 pL, .int .i64 pE, .int .i64 0, .int .i64 0, .int .i64 ((room : Nat) : Int)], .bool (bcross rL (rs.getD i (0, 0)) n), .bool (bcross pL (xs.getD (fkB xs page) (0, 0, 0)).2 n)]) (by kernel_rfl) (x_rescell H 4 g2 0 #[u1, u2, .int .i64 pL, .int .i64 pE, .int .i64 0, .int .i64 0, .int .i64 ((room : Nat) : Int)] 124 [u1, u2, .int .i64 pL, .int .i64 pE, .int .i64 0, .int .i64 0, .int .i64 ((room : Nat) : Int)] (fun x => .tuple #[x, .bool (bcross rL (rs.getD i (0, 0)) n), .bool (bcross pL (xs.getD (fkB xs page) (0, 0, 0)).2 n)]) (by kernel_rfl) (by kernel_rfl) (by kernel_rfl)) ?_
    exact ⟨_, _, rfl, H.pick [2, 0] _ (by decide) (by kernel_rfl)⟩

theorem DNote {rL rE pL pE : Int} {room : Nat} {rs : List Buk} {xs : List PairB} {rv pv : Value} (i : Nat) (page n : Int) (hi : i < rs.length) (h8 : rs.length ≤ 8) (hrE : 1 ≤ rE) (hpE : 1 ≤ pE) (hb : ∀ b ∈ rs, RB rE b) (hc : ∀ x ∈ xs, RB pE x.2) (hn : 0 ≤ n) (hx : xs.length ≤ 4096) (hxr : xs.length ≤ room) (h1 : 1 ≤ room) (w0 : World) (hR : Ro w0 [.row (rv) 119 4 (List.length rs) (List.flatMap (dbL rL rE) rs), .row (pv) 206 5 (List.length xs) (List.flatMap (dpL pL pE) xs)]) : Calls Try.prog 118 #[.agg #[rv, pv, .int .i64 pL, .int .i64 pE, .int .i64 0, .int .i64 0, .int .i64 ((room : Nat) : Int)], .int .i64 ((i : Nat) : Int), .int .i64 page, .int .i64 n] w0 fun e w' => ∃ u1 u2, e = .returned (.tuple #[.agg #[u1, u2, .int .i64 pL, .int .i64 pE, .int .i64 0, .int .i64 0, .int .i64 ((room : Nat) : Int)], .bool (bcross rL (rs.getD i (0, 0)) n), .bool (bcross pL (getB xs page) n)]) ∧ Hs [] w0 w' [.row (u1) 119 4 (List.length (rs.set i (bfill (rs.getD i (0, 0)) n))) (List.flatMap (dbL rL rE) (rs.set i (bfill (rs.getD i (0, 0)) n))), .row (u2) 206 5 (List.length ((putB room xs page (bfill (getB xs page) n)).1)) (List.flatMap (dpL pL pE) ((putB room xs page (bfill (getB xs page) n)).1))] := by
  have hg := getB_ok hpE hc page
  rcases rowForm (hR 0 _ rfl : w0.ownsRow 0 _ 4 rv _ _) with ⟨rfl, h0⟩ | ⟨gd, capd, rfl, hcd, _⟩
  · omega
  by_cases hq : fkB xs page < xs.length
  · have e : getB xs page = (xs.getD (fkB xs page) (0, 0, 0)).2 := by unfold getB; rw [if_pos hq]
    rw [e] at hg ⊢
    rcases rowForm (hR 1 _ rfl : w0.ownsRow 0 _ 5 pv _ _) with ⟨rfl, h0⟩ | ⟨g, cap, rfl, hcp, _⟩
    · omega
    · exact DNote_h i page n hi h8 hrE hb hg hn hx hxr h1 hq w0 hR
  · have e : getB xs page = (0, 0) := by unfold getB; rw [if_neg hq]
    rw [e] at hg ⊢
    rcases rowForm (hR 1 _ rfl : w0.ownsRow 0 _ 5 pv _ _) with ⟨rfl, h0⟩ | ⟨g, cap, rfl, hcp, _⟩
    · exact DNote_n i page n hi h8 hrE hb hg hn hx hxr h1 hq w0 hR
    · exact DNote_s i page n hi h8 hrE hb hg hn hx hxr h1 hq w0 hR

theorem map_next {α β : Type} (f : α → β) (d : α) (xs : List α) (k : Nat) (h : k < xs.length) : (xs.take (k + 1)).map f = (xs.take k).map f ++ [f (xs.getD k d)] := by
  rw [takeNext d xs k h, List.map_append]; rfl
theorem rep_next (k : Nat) : List.replicate (k + 1) ((0, 0) : Buk) = List.replicate k (0, 0) ++ [(0, 0)] := List.replicate_succ'

set_option maxRecDepth 100000 in
set_option maxHeartbeats 4000000 in
theorem DTk_n {rL rE pL pE : Int} {room : Nat} {rs : List Buk} {xs : List PairB} {gd capd : Nat} (hr : 1 ≤ rE ∧ rE ≤ 65536) (hp : 1 ≤ pE ∧ pE ≤ 65536) (hb : ∀ b ∈ rs, RB rE b) (hc : ∀ x ∈ xs, RB pE x.2) (h8 : rs.length ≤ 8) (hx : xs.length ≤ 4096) (h0 : xs = []) (w0 : World) (hR : Ro w0 [.row (.slice (some ⟨gd, 0, none⟩) (List.length rs) capd) 119 4 (List.length rs) (List.flatMap (dbL rL rE) rs), .row (.slice none 0 0) 206 5 (List.length xs) (List.flatMap (dpL pL pE) xs)]) :
    Calls Try.prog 119 #[.agg #[.slice (some ⟨gd, 0, none⟩) (List.length rs) capd, .slice none 0 0, .int .i64 pL, .int .i64 pE, .int .i64 0, .int .i64 0, .int .i64 ((room : Nat) : Int)]] w0 fun e w' => ∃ u1 u2, e = .returned (.agg #[u1, u2, .int .i64 pL, .int .i64 pE, .int .i64 0, .int .i64 0, .int .i64 ((room : Nat) : Int)]) ∧ Hs [] w0 w' [.row (u1) 119 4 (List.length (List.map (btick rE) rs)) (List.flatMap (dbL rL rE) (List.map (btick rE) rs)), .row (u2) 206 5 (List.length (List.map (tickX pE) xs)) (List.flatMap (dpL pL pE) (List.map (tickX pE) xs))] := by
  refine x_enter Try.func119 rfl #[.agg #[.slice (some ⟨gd, 0, none⟩) (List.length rs) capd, .slice none 0 0, .int .i64 pL, .int .i64 pE, .int .i64 0, .int .i64 0, .int .i64 ((room : Nat) : Int)], undef, undef, undef, undef, undef, undef, undef, undef, undef, undef, undef, undef, undef, undef, undef, undef, undef, undef, undef, undef, undef, undef, undef, undef, undef, undef, undef, undef, undef, undef, undef, undef, undef, undef, undef, undef, undef, undef, undef, undef, undef, undef, undef, undef, undef, undef, undef, undef, undef, undef, undef] (by kernel_rfl) ?_
  have H := Hs.nil w0
  have R0 := hR
  refine x_seq ?_
  refine x_region ?_
  refine x_box H #[.slice (some ⟨gd, 0, none⟩) (List.length rs) capd, .slice none 0 0, .int .i64 pL, .int .i64 pE, .int .i64 0, .int .i64 0, .int .i64 ((room : Nat) : Int)] 124 (by kernel_rfl) rfl (by kernel_rfl) ?_
  clear H
  intro v1 g1 H
  refine x_box H #[.slice none 0 0, .slice none 0 0, .int .i64 0, .int .i64 0, .int .i64 0, .int .i64 0, .int .i64 0] 124 (by kernel_rfl) rfl (by kernel_rfl) ?_
  clear H
  intro v2 g2 H
  refine x_nil ?_
  refine x_then ?_
  refine x_seq ?_
  refine x_region ?_
  refine x_val (.slice none 0 0) (by kernel_rfl) rfl (by kernel_rfl) ?_
  refine x_nil ?_
  refine x_then ?_
  refine x_seq ?_
  refine x_seq ?_
  refine x_region ?_
  refine x_val (.int .i64 0) (by kernel_rfl) rfl (by kernel_rfl) ?_
  refine x_nil ?_
  refine x_then ?_
  refine x_block ?_
  replace H := H.nilRow 119 4
  refine x_loop (G := Nat × Value) (fun gh a w' => match gh with | (k, ov) => ∃ uf1 : Nat → Value, a = { tmps := #[.agg #[.slice (some ⟨gd, 0, none⟩) (List.length rs) capd, .slice none 0 0, .int .i64 pL, .int .i64 pE, .int .i64 0, .int .i64 0, .int .i64 ((room : Nat) : Int)], .pointer (some ⟨g1, 0, none⟩), .pointer (some ⟨g2, 0, none⟩), ov, .int .i64 ((k : Nat) : Int), undef, undef, (uf1 0), (uf1 1), (uf1 2), (uf1 3), (uf1 4), (uf1 5), (uf1 6), (uf1 7), (uf1 8), (uf1 9), (uf1 10), (uf1 11), (uf1 12), (uf1 13), (uf1 14), (uf1 15), undef, undef, undef, undef, undef, undef, undef, undef, undef, undef, undef, undef, undef, undef, undef, undef, undef, undef, undef, undef, undef, undef, undef, undef, undef, undef, undef, undef, undef], defers := [] } ∧ Hs [] w0 w' [.row (ov) 119 4 (List.length (List.map (btick rE) (List.take k rs))) (List.flatMap (dbL rL rE) (List.map (btick rE) (List.take k rs))), .blk g2 #[.slice none 0 0, .slice none 0 0, .int .i64 0, .int .i64 0, .int .i64 0, .int .i64 0, .int .i64 0] 124, .blk g1 #[.slice (some ⟨gd, 0, none⟩) (List.length rs) capd, .slice none 0 0, .int .i64 pL, .int .i64 pE, .int .i64 0, .int .i64 0, .int .i64 ((room : Nat) : Int)] 124] ∧ (k ≤ rs.length)) (fun gh => match gh with | (k, ov) => rs.length - k) (0, .slice none 0 0) ⟨(nthV [undef, undef, undef, undef, undef, undef, undef, undef, undef, undef, undef, undef, undef, undef, undef, undef]), (by kernel_rfl), H, (Nat.zero_le _)⟩ ?_
  clear H
  rintro ⟨k, ov⟩ _ v3 ⟨uf1, rfl, H, r1⟩
  refine x_seq ?_
  refine x_seq ?_
  refine x_region ?_
  refine x_val (.int .i64 ((k : Nat) : Int)) (by kernel_rfl) rfl (by kernel_rfl) ?_
  refine x_val (.pointer (some ⟨g1, 0, none⟩)) (by kernel_rfl) rfl (by kernel_rfl) ?_
  refine x_load1 H 2 g1 0 _ _ (.slice (some ⟨gd, 0, none⟩) (List.length rs) capd) rfl (by kernel_rfl) (by kernel_rfl) rfl (by kernel_rfl) ?_
  refine x_val (.int .i64 (((List.length rs) : Nat) : Int)) (by kernel_rfl) rfl (by kernel_rfl) ?_
  refine x_val (.bool (decide (((k : Nat) : Int) < (((List.length rs) : Nat) : Int)))) (by kernel_rfl) rfl (by kernel_rfl) ?_
  refine x_nil ?_
  refine x_then ?_
  cases h1 : decide (((k : Nat) : Int) < (((List.length rs) : Nat) : Int))
  · skip
    have h1p := of_decide_eq_false h1
    refine x_f (by kernel_rfl) ?_
    refine x_exit ?_
    refine x_then_exit ?_
    refine x_then_exit ?_
    refine x_blk_exit ?_
    refine x_then ?_
    refine x_seq ?_
    refine x_region ?_
    refine x_val (.slice none 0 0) (by kernel_rfl) rfl (by kernel_rfl) ?_
    refine x_nil ?_
    refine x_then ?_
    refine x_seq ?_
    refine x_seq ?_
    refine x_region ?_
    refine x_val (.int .i64 0) (by kernel_rfl) rfl (by kernel_rfl) ?_
    refine x_nil ?_
    refine x_then ?_
    refine x_block ?_
    have hk : k = rs.length := by omega
    rw [hk, List.take_length] at H
    replace H := H.nilRow 206 5
    refine x_loop (G := Unit) (fun (_ : Unit) a w' => ∃ uf2 : Nat → Value, a = { tmps := #[.agg #[.slice (some ⟨gd, 0, none⟩) (List.length rs) capd, .slice none 0 0, .int .i64 pL, .int .i64 pE, .int .i64 0, .int .i64 0, .int .i64 ((room : Nat) : Int)], .pointer (some ⟨g1, 0, none⟩), .pointer (some ⟨g2, 0, none⟩), ov, .int .i64 ((k : Nat) : Int), .slice none 0 0, .int .i64 0, .int .i64 ((k : Nat) : Int), .pointer (some ⟨g1, 0, none⟩), .slice (some ⟨gd, 0, none⟩) (List.length rs) capd, .int .i64 (((List.length rs) : Nat) : Int), .bool false, (uf1 5), (uf1 6), (uf1 7), (uf1 8), (uf1 9), (uf1 10), (uf1 11), (uf1 12), (uf1 13), (uf1 14), (uf1 15), (uf2 0), (uf2 1), (uf2 2), (uf2 3), (uf2 4), (uf2 5), (uf2 6), (uf2 7), (uf2 8), (uf2 9), (uf2 10), (uf2 11), (uf2 12), (uf2 13), (uf2 14), (uf2 15), (uf2 16), (uf2 17), (uf2 18), (uf2 19), (uf2 20), (uf2 21), (uf2 22), (uf2 23), undef, undef, undef, undef, undef], defers := [] } ∧ Hs [] w0 w' [.row (.slice none 0 0) 206 5 (List.length ([] : List PairB)) (List.flatMap (dpL pL pE) ([] : List PairB)), .row (ov) 119 4 (List.length (List.map (btick rE) rs)) (List.flatMap (dbL rL rE) (List.map (btick rE) rs)), .blk g2 #[.slice none 0 0, .slice none 0 0, .int .i64 0, .int .i64 0, .int .i64 0, .int .i64 0, .int .i64 0] 124, .blk g1 #[.slice (some ⟨gd, 0, none⟩) (List.length rs) capd, .slice none 0 0, .int .i64 pL, .int .i64 pE, .int .i64 0, .int .i64 0, .int .i64 ((room : Nat) : Int)] 124]) (fun _ => 0) () ⟨(nthV [undef, undef, undef, undef, undef, undef, undef, undef, undef, undef, undef, undef, undef, undef, undef, undef, undef, undef, undef, undef, undef, undef, undef, undef]), (by kernel_rfl), H⟩ ?_
    clear H
    rintro _ _ v4 ⟨uf2, rfl, H⟩
    refine x_seq ?_
    refine x_seq ?_
    refine x_region ?_
    refine x_val (.int .i64 0) (by kernel_rfl) rfl (by kernel_rfl) ?_
    refine x_val (.pointer (some ⟨g1, 1, none⟩)) (by kernel_rfl) rfl (by kernel_rfl) ?_
    refine x_load1 H 3 g1 1 _ _ (.slice none 0 0) rfl (by kernel_rfl) (by kernel_rfl) rfl (by kernel_rfl) ?_
    refine x_val (.int .i64 0) (by kernel_rfl) rfl (by kernel_rfl) ?_
    refine x_val (.bool false) (by kernel_rfl) rfl (by kernel_rfl) ?_
    refine x_nil ?_
    refine x_then ?_
    refine x_f (by kernel_rfl) ?_
    refine x_exit ?_
    refine x_then_exit ?_
    refine x_then_exit ?_
    refine x_blk_exit ?_
    refine x_then ?_
    refine x_seq ?_
    refine x_region ?_
    refine x_val (ov) (by kernel_rfl) rfl (by kernel_rfl) ?_
    refine x_val (.pointer (some ⟨g1, 0, none⟩)) (by kernel_rfl) rfl (by kernel_rfl) ?_
    have h2o := H.rowOne 1 rfl
    have h2c := H.rowCel 1 rfl
    refine x_store (t := 121) (v := ov) H 3 g1 0 _ #[ov, .slice none 0 0, .int .i64 pL, .int .i64 pE, .int .i64 0, .int .i64 0, .int .i64 ((room : Nat) : Int)] 124 [ov] _ rfl rfl (by kernel_rfl) (by simp only [List.all_cons, List.all_nil, h2o, Bool.and_true, Bool.true_and] <;> rfl) (by kernel_rfl) rfl (by kernel_rfl) (by kernel_rfl) (by kernel_rfl) (by rw [h2c]) ?_
    clear H
    intro v5 H
    refine x_nil ?_
    refine x_then ?_
    refine x_seq ?_
    refine x_region ?_
    refine x_val (.slice none 0 0) (by kernel_rfl) rfl (by kernel_rfl) ?_
    refine x_val (.pointer (some ⟨g1, 1, none⟩)) (by kernel_rfl) rfl (by kernel_rfl) ?_
    refine x_store (t := 122) (v := .slice none 0 0) H 3 g1 1 _ #[ov, .slice none 0 0, .int .i64 pL, .int .i64 pE, .int .i64 0, .int .i64 0, .int .i64 ((room : Nat) : Int)] 124 [.slice none 0 0] _ rfl rfl (by kernel_rfl) (by kernel_rfl) (by kernel_rfl) rfl (by kernel_rfl) (by kernel_rfl) (by kernel_rfl) (by kernel_rfl) ?_
    clear H
    intro v6 H
    refine x_nil ?_
    refine x_then ?_
    refine x_seq ?_
    refine x_region ?_
    refine x_loadn (t := 124) H 3 g1 0 _ _ [ov, .slice none 0 0, .int .i64 pL, .int .i64 pE, .int .i64 0, .int .i64 0, .int .i64 ((room : Nat) : Int)] rfl (by kernel_rfl) (by kernel_rfl) rfl (by kernel_rfl) (by kernel_rfl) ?_
    have h3o := H.rowOne 1 rfl
    refine x_store (t := 124) (v := .agg #[ov, .slice none 0 0, .int .i64 pL, .int .i64 pE, .int .i64 0, .int .i64 0, .int .i64 ((room : Nat) : Int)]) H 2 g2 0 _ #[ov, .slice none 0 0, .int .i64 pL, .int .i64 pE, .int .i64 0, .int .i64 0, .int .i64 ((room : Nat) : Int)] 124 [ov, .slice none 0 0, .int .i64 pL, .int .i64 pE, .int .i64 0, .int .i64 0, .int .i64 ((room : Nat) : Int)] _ rfl rfl (by kernel_rfl) (by simp only [List.all_cons, List.all_nil, h3o, Bool.and_true, Bool.true_and] <;> rfl) (by kernel_rfl) rfl (by kernel_rfl) (by kernel_rfl) (by kernel_rfl) (by kernel_rfl) ?_
    clear H
    intro v7 H
    refine x_nil ?_
    refine x_then ?_
    refine x_retc ?_
    refine x_ret (.agg #[ov, .slice none 0 0, .int .i64 pL, .int .i64 pE, .int .i64 0, .int .i64 0, .int .i64 ((room : Nat) : Int)]) (by kernel_rfl) (x_rescell H 2 g2 0 #[ov, .slice none 0 0, .int .i64 pL, .int .i64 pE, .int .i64 0, .int .i64 0, .int .i64 ((room : Nat) : Int)] 124 [ov, .slice none 0 0, .int .i64 pL, .int .i64 pE, .int .i64 0, .int .i64 0, .int .i64 ((room : Nat) : Int)] (fun x => x) (by kernel_rfl) (by kernel_rfl) (by kernel_rfl)) ?_
    subst h0
    exact ⟨_, _, rfl, H.pick [1, 0] _ (by decide) (by kernel_rfl)⟩
  · skip
    have h1p := of_decide_eq_true h1
    refine x_t (by kernel_rfl) ?_
    refine x_skipc ?_
    refine x_then ?_
    refine x_seq ?_
    refine x_block ?_
    refine x_region ?_
    refine x_val (ov) (by kernel_rfl) rfl (by kernel_rfl) ?_
    refine x_val (.pointer (some ⟨g1, 0, none⟩)) (by kernel_rfl) rfl (by kernel_rfl) ?_
    refine x_load1 H 2 g1 0 _ _ (.slice (some ⟨gd, 0, none⟩) (List.length rs) capd) rfl (by kernel_rfl) (by kernel_rfl) rfl (by kernel_rfl) ?_
    refine x_val (.int .i64 ((k : Nat) : Int)) (by kernel_rfl) rfl (by kernel_rfl) ?_
    refine x_ix (t := 121) gd 0 k (List.length rs) capd 119 4 (k * 4) (by omega) (by omega) (by kernel_rfl) (by kernel_rfl) (by kernel_rfl) rfl (by kernel_rfl) ?_
    refine x_loadcn (t := 119) gd (k * 4) [.int .i64 rL, .int .i64 rE, .int .i64 ((rs.getD k (0, 0)).1), .int .i64 ((rs.getD k (0, 0)).2)] ((H.ro R0).rowCells 0 rfl (k * 4) (flatAt (dbLen rL rE) (0, 0) _ (by omega))) (by kernel_rfl) rfl (by kernel_rfl) (by kernel_rfl) ?_
    refine x_callB (.agg #[.int .i64 rL, .int .i64 rE, .int .i64 ((btick rE (rs.getD k (0, 0))).1), .int .i64 ((btick rE (rs.getD k (0, 0))).2)]) H (by kernel_rfl) rfl (by kernel_rfl) (DTick rL rE ((rs.getD k (0, 0)).1) ((rs.getD k (0, 0)).2) hr (getD_all hb (show k < rs.length by omega) _) _) ?_
    clear H
    intro v8 H
    refine x_box' H #[.int .i64 rL, .int .i64 rE, .int .i64 ((btick rE (rs.getD k (0, 0))).1), .int .i64 ((btick rE (rs.getD k (0, 0))).2)] 119 1 (by kernel_rfl) rfl (by kernel_rfl) ?_
    clear H
    intro v9 g3 H
    refine x_append H 1 (ov) 121 119 4 32 (List.length (List.map (btick rE) (List.take k rs))) (.agg #[.int .i64 0, .int .i64 0, .int .i64 0, .int .i64 0]) (List.flatMap (dbL rL rE) (List.map (btick rE) (List.take k rs))) ⟨g3, 0, none⟩ 1 1 [.int .i64 rL, .int .i64 rE, .int .i64 ((btick rE (rs.getD k (0, 0))).1), .int .i64 ((btick rE (rs.getD k (0, 0))).2)] rfl (by kernel_rfl) (by kernel_rfl) rfl (by decide) (by decide) rfl (fun j u hj => by rw [add_none]; exact cellOf (H.blk 0 rfl) (by simpa using hj)) (List.all_eq_true.1 (by kernel_rfl)) (by have := List.length_take_le k rs; rw [List.length_map]; unfold maxLen; omega) (by have := List.length_take_le k rs; rw [List.length_map]; omega) (by kernel_rfl) rfl (by kernel_rfl) ?_
    clear H
    intro v10 g4 c4 hc4 H
    rw [show (((List.length (List.map (btick rE) (List.take k rs))) + 1) : Nat) = (List.length (List.map (btick rE) (List.take (k + 1) rs))) from (by rw [map_next (btick rE) (0, 0) rs k (by omega), List.length_append]; rfl)] at H ⊢
    rw [show (List.flatMap (dbL rL rE) (List.map (btick rE) (List.take k rs))) ++ [.int .i64 rL, .int .i64 rE, .int .i64 ((btick rE (rs.getD k (0, 0))).1), .int .i64 ((btick rE (rs.getD k (0, 0))).2)] = (List.flatMap (dbL rL rE) (List.map (btick rE) (List.take (k + 1) rs))) from (by rw [map_next (btick rE) (0, 0) rs k (by omega), List.flatMap_append]; rfl)] at H
    replace H : Hs [] w0 v10 [.blk g3 #[.int .i64 rL, .int .i64 rE, .int .i64 ((btick rE (rs.getD k (0, 0))).1), .int .i64 ((btick rE (rs.getD k (0, 0))).2)] 119, .row (.slice (some ⟨g4, 0, none⟩) (List.length (List.map (btick rE) (List.take (k + 1) rs))) c4) 119 4 (List.length (List.map (btick rE) (List.take (k + 1) rs))) (List.flatMap (dbL rL rE) (List.map (btick rE) (List.take (k + 1) rs))), .blk g2 #[.slice none 0 0, .slice none 0 0, .int .i64 0, .int .i64 0, .int .i64 0, .int .i64 0, .int .i64 0] 124, .blk g1 #[.slice (some ⟨gd, 0, none⟩) (List.length rs) capd, .slice none 0 0, .int .i64 pL, .int .i64 pE, .int .i64 0, .int .i64 0, .int .i64 ((room : Nat) : Int)] 124] := H
    replace H := H.pick [1, 2, 3] [.row (.slice (some ⟨g4, 0, none⟩) (List.length (List.map (btick rE) (List.take (k + 1) rs))) c4) 119 4 (List.length (List.map (btick rE) (List.take (k + 1) rs))) (List.flatMap (dbL rL rE) (List.map (btick rE) (List.take (k + 1) rs))), .blk g2 #[.slice none 0 0, .slice none 0 0, .int .i64 0, .int .i64 0, .int .i64 0, .int .i64 0, .int .i64 0] 124, .blk g1 #[.slice (some ⟨gd, 0, none⟩) (List.length rs) capd, .slice none 0 0, .int .i64 pL, .int .i64 pE, .int .i64 0, .int .i64 0, .int .i64 ((room : Nat) : Int)] 124] (by decide) (by kernel_rfl)
    refine x_val (.slice (some ⟨g4, 0, none⟩) (List.length (List.map (btick rE) (List.take (k + 1) rs))) c4) (by kernel_rfl) rfl (by kernel_rfl) ?_
    refine x_nil ?_
    refine x_blk ?_
    refine x_then ?_
    refine x_region ?_
    refine x_val (.int .i64 ((k : Nat) : Int)) (by kernel_rfl) rfl (by kernel_rfl) ?_
    refine x_ar (((k : Nat) : Int) + 1) ⟨by omega, by omega⟩ (by kernel_rfl) rfl (by kernel_rfl) ?_
    refine x_val (.int .i64 (((k : Nat) : Int) + 1)) (by kernel_rfl) rfl (by kernel_rfl) ?_
    refine x_nil ?_
    refine x_then ?_
    replace H := H.pick [0, 1, 2] [.row (.slice (some ⟨g4, 0, none⟩) (List.length (List.map (btick rE) (List.take (k + 1) rs))) c4) 119 4 (List.length (List.map (btick rE) (List.take (k + 1) rs))) (List.flatMap (dbL rL rE) (List.map (btick rE) (List.take (k + 1) rs))), .blk g2 #[.slice none 0 0, .slice none 0 0, .int .i64 0, .int .i64 0, .int .i64 0, .int .i64 0, .int .i64 0] 124, .blk g1 #[.slice (some ⟨gd, 0, none⟩) (List.length rs) capd, .slice none 0 0, .int .i64 pL, .int .i64 pE, .int .i64 0, .int .i64 0, .int .i64 ((room : Nat) : Int)] 124] (by decide) (by kernel_rfl)
    exact ⟨(k + 1, .slice (some ⟨g4, 0, none⟩) (List.length (List.map (btick rE) (List.take (k + 1) rs))) c4), (by dsimp only; omega), (nthV [.int .i64 ((k : Nat) : Int), .pointer (some ⟨g1, 0, none⟩), .slice (some ⟨gd, 0, none⟩) (List.length rs) capd, .int .i64 (((List.length rs) : Nat) : Int), .bool true, .int .i64 ((k : Nat) : Int), .int .i64 (((k : Nat) : Int) + 1), ov, .pointer (some ⟨g1, 0, none⟩), .slice (some ⟨gd, 0, none⟩) (List.length rs) capd, .int .i64 ((k : Nat) : Int), .pointer (some ⟨gd, k * 4, none⟩), .agg #[.int .i64 rL, .int .i64 rE, .int .i64 ((rs.getD k (0, 0)).1), .int .i64 ((rs.getD k (0, 0)).2)], .agg #[.int .i64 rL, .int .i64 rE, .int .i64 ((btick rE (rs.getD k (0, 0))).1), .int .i64 ((btick rE (rs.getD k (0, 0))).2)], .slice (some ⟨g3, 0, none⟩) 1 1, .slice (some ⟨g4, 0, none⟩) (List.length (List.map (btick rE) (List.take (k + 1) rs))) c4]), (by kernel_rfl), H, (by omega)⟩

set_option maxRecDepth 100000 in
set_option maxHeartbeats 4000000 in
theorem DTk_s {rL rE pL pE : Int} {room : Nat} {rs : List Buk} {xs : List PairB} {g cap : Nat} {gd capd : Nat} (hr : 1 ≤ rE ∧ rE ≤ 65536) (hp : 1 ≤ pE ∧ pE ≤ 65536) (hb : ∀ b ∈ rs, RB rE b) (hc : ∀ x ∈ xs, RB pE x.2) (h8 : rs.length ≤ 8) (hx : xs.length ≤ 4096) (w0 : World) (hR : Ro w0 [.row (.slice (some ⟨gd, 0, none⟩) (List.length rs) capd) 119 4 (List.length rs) (List.flatMap (dbL rL rE) rs), .row (.slice (some ⟨g, 0, none⟩) (List.length xs) cap) 206 5 (List.length xs) (List.flatMap (dpL pL pE) xs)]) :
    Calls Try.prog 119 #[.agg #[.slice (some ⟨gd, 0, none⟩) (List.length rs) capd, .slice (some ⟨g, 0, none⟩) (List.length xs) cap, .int .i64 pL, .int .i64 pE, .int .i64 0, .int .i64 0, .int .i64 ((room : Nat) : Int)]] w0 fun e w' => ∃ u1 u2, e = .returned (.agg #[u1, u2, .int .i64 pL, .int .i64 pE, .int .i64 0, .int .i64 0, .int .i64 ((room : Nat) : Int)]) ∧ Hs [] w0 w' [.row (u1) 119 4 (List.length (List.map (btick rE) rs)) (List.flatMap (dbL rL rE) (List.map (btick rE) rs)), .row (u2) 206 5 (List.length (List.map (tickX pE) xs)) (List.flatMap (dpL pL pE) (List.map (tickX pE) xs))] := by
  refine x_enter Try.func119 rfl #[.agg #[.slice (some ⟨gd, 0, none⟩) (List.length rs) capd, .slice (some ⟨g, 0, none⟩) (List.length xs) cap, .int .i64 pL, .int .i64 pE, .int .i64 0, .int .i64 0, .int .i64 ((room : Nat) : Int)], undef, undef, undef, undef, undef, undef, undef, undef, undef, undef, undef, undef, undef, undef, undef, undef, undef, undef, undef, undef, undef, undef, undef, undef, undef, undef, undef, undef, undef, undef, undef, undef, undef, undef, undef, undef, undef, undef, undef, undef, undef, undef, undef, undef, undef, undef, undef, undef, undef, undef, undef] (by kernel_rfl) ?_
  have H := Hs.nil w0
  have R0 := hR
  refine x_seq ?_
  refine x_region ?_
  refine x_box H #[.slice (some ⟨gd, 0, none⟩) (List.length rs) capd, .slice (some ⟨g, 0, none⟩) (List.length xs) cap, .int .i64 pL, .int .i64 pE, .int .i64 0, .int .i64 0, .int .i64 ((room : Nat) : Int)] 124 (by kernel_rfl) rfl (by kernel_rfl) ?_
  clear H
  intro v1 g1 H
  refine x_box H #[.slice none 0 0, .slice none 0 0, .int .i64 0, .int .i64 0, .int .i64 0, .int .i64 0, .int .i64 0] 124 (by kernel_rfl) rfl (by kernel_rfl) ?_
  clear H
  intro v2 g2 H
  refine x_nil ?_
  refine x_then ?_
  refine x_seq ?_
  refine x_region ?_
  refine x_val (.slice none 0 0) (by kernel_rfl) rfl (by kernel_rfl) ?_
  refine x_nil ?_
  refine x_then ?_
  refine x_seq ?_
  refine x_seq ?_
  refine x_region ?_
  refine x_val (.int .i64 0) (by kernel_rfl) rfl (by kernel_rfl) ?_
  refine x_nil ?_
  refine x_then ?_
  refine x_block ?_
  replace H := H.nilRow 119 4
  refine x_loop (G := Nat × Value) (fun gh a w' => match gh with | (k, ov) => ∃ uf1 : Nat → Value, a = { tmps := #[.agg #[.slice (some ⟨gd, 0, none⟩) (List.length rs) capd, .slice (some ⟨g, 0, none⟩) (List.length xs) cap, .int .i64 pL, .int .i64 pE, .int .i64 0, .int .i64 0, .int .i64 ((room : Nat) : Int)], .pointer (some ⟨g1, 0, none⟩), .pointer (some ⟨g2, 0, none⟩), ov, .int .i64 ((k : Nat) : Int), undef, undef, (uf1 0), (uf1 1), (uf1 2), (uf1 3), (uf1 4), (uf1 5), (uf1 6), (uf1 7), (uf1 8), (uf1 9), (uf1 10), (uf1 11), (uf1 12), (uf1 13), (uf1 14), (uf1 15), undef, undef, undef, undef, undef, undef, undef, undef, undef, undef, undef, undef, undef, undef, undef, undef, undef, undef, undef, undef, undef, undef, undef, undef, undef, undef, undef, undef, undef], defers := [] } ∧ Hs [] w0 w' [.row (ov) 119 4 (List.length (List.map (btick rE) (List.take k rs))) (List.flatMap (dbL rL rE) (List.map (btick rE) (List.take k rs))), .blk g2 #[.slice none 0 0, .slice none 0 0, .int .i64 0, .int .i64 0, .int .i64 0, .int .i64 0, .int .i64 0] 124, .blk g1 #[.slice (some ⟨gd, 0, none⟩) (List.length rs) capd, .slice (some ⟨g, 0, none⟩) (List.length xs) cap, .int .i64 pL, .int .i64 pE, .int .i64 0, .int .i64 0, .int .i64 ((room : Nat) : Int)] 124] ∧ (k ≤ rs.length)) (fun gh => match gh with | (k, ov) => rs.length - k) (0, .slice none 0 0) ⟨(nthV [undef, undef, undef, undef, undef, undef, undef, undef, undef, undef, undef, undef, undef, undef, undef, undef]), (by kernel_rfl), H, (Nat.zero_le _)⟩ ?_
  clear H
  rintro ⟨k, ov⟩ _ v3 ⟨uf1, rfl, H, r1⟩
  refine x_seq ?_
  refine x_seq ?_
  refine x_region ?_
  refine x_val (.int .i64 ((k : Nat) : Int)) (by kernel_rfl) rfl (by kernel_rfl) ?_
  refine x_val (.pointer (some ⟨g1, 0, none⟩)) (by kernel_rfl) rfl (by kernel_rfl) ?_
  refine x_load1 H 2 g1 0 _ _ (.slice (some ⟨gd, 0, none⟩) (List.length rs) capd) rfl (by kernel_rfl) (by kernel_rfl) rfl (by kernel_rfl) ?_
  refine x_val (.int .i64 (((List.length rs) : Nat) : Int)) (by kernel_rfl) rfl (by kernel_rfl) ?_
  refine x_val (.bool (decide (((k : Nat) : Int) < (((List.length rs) : Nat) : Int)))) (by kernel_rfl) rfl (by kernel_rfl) ?_
  refine x_nil ?_
  refine x_then ?_
  cases h1 : decide (((k : Nat) : Int) < (((List.length rs) : Nat) : Int))
  · skip
    have h1p := of_decide_eq_false h1
    refine x_f (by kernel_rfl) ?_
    refine x_exit ?_
    refine x_then_exit ?_
    refine x_then_exit ?_
    refine x_blk_exit ?_
    refine x_then ?_
    refine x_seq ?_
    refine x_region ?_
    refine x_val (.slice none 0 0) (by kernel_rfl) rfl (by kernel_rfl) ?_
    refine x_nil ?_
    refine x_then ?_
    refine x_seq ?_
    refine x_seq ?_
    refine x_region ?_
    refine x_val (.int .i64 0) (by kernel_rfl) rfl (by kernel_rfl) ?_
    refine x_nil ?_
    refine x_then ?_
    refine x_block ?_
    have hk : k = rs.length := by omega
    rw [hk, List.take_length] at H
    replace H := H.nilRow 206 5
    refine x_loop (G := Nat × Value) (fun gh a w' => match gh with | (j, op) => ∃ uf2 : Nat → Value, a = { tmps := #[.agg #[.slice (some ⟨gd, 0, none⟩) (List.length rs) capd, .slice (some ⟨g, 0, none⟩) (List.length xs) cap, .int .i64 pL, .int .i64 pE, .int .i64 0, .int .i64 0, .int .i64 ((room : Nat) : Int)], .pointer (some ⟨g1, 0, none⟩), .pointer (some ⟨g2, 0, none⟩), ov, .int .i64 ((k : Nat) : Int), op, .int .i64 ((j : Nat) : Int), .int .i64 ((k : Nat) : Int), .pointer (some ⟨g1, 0, none⟩), .slice (some ⟨gd, 0, none⟩) (List.length rs) capd, .int .i64 (((List.length rs) : Nat) : Int), .bool false, (uf1 5), (uf1 6), (uf1 7), (uf1 8), (uf1 9), (uf1 10), (uf1 11), (uf1 12), (uf1 13), (uf1 14), (uf1 15), (uf2 0), (uf2 1), (uf2 2), (uf2 3), (uf2 4), (uf2 5), (uf2 6), (uf2 7), (uf2 8), (uf2 9), (uf2 10), (uf2 11), (uf2 12), (uf2 13), (uf2 14), (uf2 15), (uf2 16), (uf2 17), (uf2 18), (uf2 19), (uf2 20), (uf2 21), (uf2 22), (uf2 23), undef, undef, undef, undef, undef], defers := [] } ∧ Hs [] w0 w' [.row (op) 206 5 (List.length (List.map (tickX pE) (List.take j xs))) (List.flatMap (dpL pL pE) (List.map (tickX pE) (List.take j xs))), .row (ov) 119 4 (List.length (List.map (btick rE) rs)) (List.flatMap (dbL rL rE) (List.map (btick rE) rs)), .blk g2 #[.slice none 0 0, .slice none 0 0, .int .i64 0, .int .i64 0, .int .i64 0, .int .i64 0, .int .i64 0] 124, .blk g1 #[.slice (some ⟨gd, 0, none⟩) (List.length rs) capd, .slice (some ⟨g, 0, none⟩) (List.length xs) cap, .int .i64 pL, .int .i64 pE, .int .i64 0, .int .i64 0, .int .i64 ((room : Nat) : Int)] 124] ∧ (j ≤ xs.length)) (fun gh => match gh with | (j, op) => xs.length - j) (0, .slice none 0 0) ⟨(nthV [undef, undef, undef, undef, undef, undef, undef, undef, undef, undef, undef, undef, undef, undef, undef, undef, undef, undef, undef, undef, undef, undef, undef, undef]), (by kernel_rfl), H, (Nat.zero_le _)⟩ ?_
    clear H
    rintro ⟨j, op⟩ _ v4 ⟨uf2, rfl, H, r1⟩
    refine x_seq ?_
    refine x_seq ?_
    refine x_region ?_
    refine x_val (.int .i64 ((j : Nat) : Int)) (by kernel_rfl) rfl (by kernel_rfl) ?_
    refine x_val (.pointer (some ⟨g1, 1, none⟩)) (by kernel_rfl) rfl (by kernel_rfl) ?_
    refine x_load1 H 3 g1 1 _ _ (.slice (some ⟨g, 0, none⟩) (List.length xs) cap) rfl (by kernel_rfl) (by kernel_rfl) rfl (by kernel_rfl) ?_
    refine x_val (.int .i64 (((List.length xs) : Nat) : Int)) (by kernel_rfl) rfl (by kernel_rfl) ?_
    refine x_val (.bool (decide (((j : Nat) : Int) < (((List.length xs) : Nat) : Int)))) (by kernel_rfl) rfl (by kernel_rfl) ?_
    refine x_nil ?_
    refine x_then ?_
    cases h2 : decide (((j : Nat) : Int) < (((List.length xs) : Nat) : Int))
    · skip
      have h2p := of_decide_eq_false h2
      refine x_f (by kernel_rfl) ?_
      refine x_exit ?_
      refine x_then_exit ?_
      refine x_then_exit ?_
      refine x_blk_exit ?_
      refine x_then ?_
      refine x_seq ?_
      refine x_region ?_
      refine x_val (ov) (by kernel_rfl) rfl (by kernel_rfl) ?_
      refine x_val (.pointer (some ⟨g1, 0, none⟩)) (by kernel_rfl) rfl (by kernel_rfl) ?_
      have h3o := H.rowOne 1 rfl
      have h3c := H.rowCel 1 rfl
      refine x_store (t := 121) (v := ov) H 3 g1 0 _ #[ov, .slice (some ⟨g, 0, none⟩) (List.length xs) cap, .int .i64 pL, .int .i64 pE, .int .i64 0, .int .i64 0, .int .i64 ((room : Nat) : Int)] 124 [ov] _ rfl rfl (by kernel_rfl) (by simp only [List.all_cons, List.all_nil, h3o, Bool.and_true, Bool.true_and] <;> rfl) (by kernel_rfl) rfl (by kernel_rfl) (by kernel_rfl) (by kernel_rfl) (by rw [h3c]) ?_
      clear H
      intro v5 H
      refine x_nil ?_
      refine x_then ?_
      refine x_seq ?_
      refine x_region ?_
      refine x_val (op) (by kernel_rfl) rfl (by kernel_rfl) ?_
      refine x_val (.pointer (some ⟨g1, 1, none⟩)) (by kernel_rfl) rfl (by kernel_rfl) ?_
      have h4o := H.rowOne 0 rfl
      have h4c := H.rowCel 0 rfl
      refine x_store (t := 122) (v := op) H 3 g1 1 _ #[ov, op, .int .i64 pL, .int .i64 pE, .int .i64 0, .int .i64 0, .int .i64 ((room : Nat) : Int)] 124 [op] _ rfl rfl (by kernel_rfl) (by simp only [List.all_cons, List.all_nil, h4o, Bool.and_true, Bool.true_and] <;> rfl) (by kernel_rfl) rfl (by kernel_rfl) (by kernel_rfl) (by kernel_rfl) (by rw [h4c]) ?_
      clear H
      intro v6 H
      refine x_nil ?_
      refine x_then ?_
      refine x_seq ?_
      refine x_region ?_
      refine x_loadn (t := 124) H 3 g1 0 _ _ [ov, op, .int .i64 pL, .int .i64 pE, .int .i64 0, .int .i64 0, .int .i64 ((room : Nat) : Int)] rfl (by kernel_rfl) (by kernel_rfl) rfl (by kernel_rfl) (by kernel_rfl) ?_
      have h5o := H.rowOne 1 rfl
      have h6o := H.rowOne 0 rfl
      refine x_store (t := 124) (v := .agg #[ov, op, .int .i64 pL, .int .i64 pE, .int .i64 0, .int .i64 0, .int .i64 ((room : Nat) : Int)]) H 2 g2 0 _ #[ov, op, .int .i64 pL, .int .i64 pE, .int .i64 0, .int .i64 0, .int .i64 ((room : Nat) : Int)] 124 [ov, op, .int .i64 pL, .int .i64 pE, .int .i64 0, .int .i64 0, .int .i64 ((room : Nat) : Int)] _ rfl rfl (by kernel_rfl) (by simp only [List.all_cons, List.all_nil, h5o, h6o, Bool.and_true, Bool.true_and] <;> rfl) (by kernel_rfl) rfl (by kernel_rfl) (by kernel_rfl) (by kernel_rfl) (by kernel_rfl) ?_
      clear H
      intro v7 H
      refine x_nil ?_
      refine x_then ?_
      refine x_retc ?_
      refine x_ret (.agg #[ov, op, .int .i64 pL, .int .i64 pE, .int .i64 0, .int .i64 0, .int .i64 ((room : Nat) : Int)]) (by kernel_rfl) (x_rescell H 2 g2 0 #[ov, op, .int .i64 pL, .int .i64 pE, .int .i64 0, .int .i64 0, .int .i64 ((room : Nat) : Int)] 124 [ov, op, .int .i64 pL, .int .i64 pE, .int .i64 0, .int .i64 0, .int .i64 ((room : Nat) : Int)] (fun x => x) (by kernel_rfl) (by kernel_rfl) (by kernel_rfl)) ?_
      have hj : j = xs.length := by omega
      rw [hj, List.take_length] at H
      exact ⟨_, _, rfl, H.pick [1, 0] _ (by decide) (by kernel_rfl)⟩
    · skip
      have h2p := of_decide_eq_true h2
      refine x_t (by kernel_rfl) ?_
      refine x_skipc ?_
      refine x_then ?_
      refine x_seq ?_
      refine x_block ?_
      refine x_region_s 18 (fun w' => Hs [] w0 w' [.row (ov) 119 4 (List.length (List.map (btick rE) rs)) (List.flatMap (dbL rL rE) (List.map (btick rE) rs)), .blk g2 #[.slice none 0 0, .slice none 0 0, .int .i64 0, .int .i64 0, .int .i64 0, .int .i64 0, .int .i64 0] 124, .blk g1 #[.slice (some ⟨gd, 0, none⟩) (List.length rs) capd, .slice (some ⟨g, 0, none⟩) (List.length xs) cap, .int .i64 pL, .int .i64 pE, .int .i64 0, .int .i64 0, .int .i64 ((room : Nat) : Int)] 124]) (fun w' => Hs [] w0 w' [.row (op) 206 5 (List.length (List.map (tickX pE) (List.take j xs))) (List.flatMap (dpL pL pE) (List.map (tickX pE) (List.take j xs))), .row (ov) 119 4 (List.length (List.map (btick rE) rs)) (List.flatMap (dbL rL rE) (List.map (btick rE) rs)), .blk g2 #[.slice none 0 0, .slice none 0 0, .int .i64 0, .int .i64 0, .int .i64 0, .int .i64 0, .int .i64 0] 124, .blk g1 #[.slice (some ⟨gd, 0, none⟩) (List.length rs) capd, .slice (some ⟨g, 0, none⟩) (List.length xs) cap, .int .i64 pL, .int .i64 pE, .int .i64 0, .int .i64 0, .int .i64 ((room : Nat) : Int)] 124]) (by kernel_rfl) (by kernel_rfl) (by kernel_rfl) hsShut (fun _ h => h.pick [1, 2, 3] _ (by decide) (by kernel_rfl)) H.drew ?_
      refine s_quiet 0 rfl (by kernel_rfl) (y_val (op) (by kernel_rfl) (fun _ => by kernel_rfl)) ?_
      refine s_quiet 1 rfl (by kernel_rfl) (y_val (.pointer (some ⟨g1, 1, none⟩)) (by kernel_rfl) (fun _ => by kernel_rfl)) ?_
      refine s_quiet 2 rfl (by kernel_rfl) (y_load1 2 g1 1 #[.slice (some ⟨gd, 0, none⟩) (List.length rs) capd, .slice (some ⟨g, 0, none⟩) (List.length xs) cap, .int .i64 pL, .int .i64 pE, .int .i64 0, .int .i64 0, .int .i64 ((room : Nat) : Int)] 124 (.slice (some ⟨g, 0, none⟩) (List.length xs) cap) (by kernel_rfl) (by kernel_rfl) (by kernel_rfl) (fun _ => by kernel_rfl)) ?_
      refine s_quiet 3 rfl (by kernel_rfl) (y_val (.int .i64 ((j : Nat) : Int)) (by kernel_rfl) (fun _ => by kernel_rfl)) ?_
      refine s_quiet 4 rfl (by kernel_rfl) (y_ix (t := 122) g 0 j (List.length xs) cap 206 5 (j * 5) (by omega) (by omega) (by kernel_rfl) (by kernel_rfl) (by kernel_rfl) (fun _ => by kernel_rfl)) ?_
      refine s_quiet 5 rfl (by kernel_rfl) (y_val (.pointer (some ⟨g, j * 5, none⟩)) (by kernel_rfl) (fun _ => by kernel_rfl)) ?_
      refine s_quiet 6 rfl (by kernel_rfl) (y_loadc g (j * 5) (.int .i64 ((xs.getD j (0, 0, 0)).1)) (fun _ H => ((H.ro R0).rowCells 1 rfl (j * 5) (flatAt (dpLen pL pE) (0, 0, 0) _ (by omega))) 0 _ rfl) (by kernel_rfl) (fun _ => by kernel_rfl)) ?_
      refine s_quiet 7 rfl (by kernel_rfl) (y_val (.pointer (some ⟨g1, 1, none⟩)) (by kernel_rfl) (fun _ => by kernel_rfl)) ?_
      refine s_quiet 8 rfl (by kernel_rfl) (y_load1 2 g1 1 #[.slice (some ⟨gd, 0, none⟩) (List.length rs) capd, .slice (some ⟨g, 0, none⟩) (List.length xs) cap, .int .i64 pL, .int .i64 pE, .int .i64 0, .int .i64 0, .int .i64 ((room : Nat) : Int)] 124 (.slice (some ⟨g, 0, none⟩) (List.length xs) cap) (by kernel_rfl) (by kernel_rfl) (by kernel_rfl) (fun _ => by kernel_rfl)) ?_
      refine s_quiet 9 rfl (by kernel_rfl) (y_val (.int .i64 ((j : Nat) : Int)) (by kernel_rfl) (fun _ => by kernel_rfl)) ?_
      refine s_quiet 10 rfl (by kernel_rfl) (y_ix (t := 122) g 0 j (List.length xs) cap 206 5 (j * 5) (by omega) (by omega) (by kernel_rfl) (by kernel_rfl) (by kernel_rfl) (fun _ => by kernel_rfl)) ?_
      refine s_quiet 11 rfl (by kernel_rfl) (y_val (.pointer (some ⟨g, j * 5 + 1, none⟩)) (by kernel_rfl) (fun _ => by kernel_rfl)) ?_
      refine s_quiet 12 rfl (by kernel_rfl) (y_loadcn (t := 119) g (j * 5 + 1) [.int .i64 pL, .int .i64 pE, .int .i64 ((xs.getD j (0, 0, 0)).2.1), .int .i64 ((xs.getD j (0, 0, 0)).2.2)] (fun _ H => subCells (vs := [.int .i64 ((xs.getD j (0, 0, 0)).1), .int .i64 pL, .int .i64 pE, .int .i64 ((xs.getD j (0, 0, 0)).2.1), .int .i64 ((xs.getD j (0, 0, 0)).2.2)]) ((H.ro R0).rowCells 1 rfl (j * 5) (flatAt (dpLen pL pE) (0, 0, 0) _ (by omega))) 1 _ rfl) (by kernel_rfl) (by kernel_rfl) (by kernel_rfl)) ?_
      refine s_quiet 13 rfl (by kernel_rfl) (y_callB (.agg #[.int .i64 pL, .int .i64 pE, .int .i64 ((btick pE (xs.getD j (0, 0, 0)).2).1), .int .i64 ((btick pE (xs.getD j (0, 0, 0)).2).2)]) (by kernel_rfl) (fun _ => by kernel_rfl) (fun _ => (DTick pL pE ((xs.getD j (0, 0, 0)).2.1) ((xs.getD j (0, 0, 0)).2.2) hp (getD_all (P := fun x : PairB => RB pE x.2) hc (show j < xs.length by omega) _) _))) ?_
      refine s_quiet 14 rfl (by kernel_rfl) (y_val (.agg #[.int .i64 ((xs.getD j (0, 0, 0)).1), .int .i64 pL, .int .i64 pE, .int .i64 ((btick pE (xs.getD j (0, 0, 0)).2).1), .int .i64 ((btick pE (xs.getD j (0, 0, 0)).2).2)]) (by kernel_rfl) (fun _ => by kernel_rfl)) ?_
      refine s_one 15 rfl (by kernel_rfl) rfl ?_
      clear H
      intro v8 H
      refine x_box' H #[.int .i64 ((xs.getD j (0, 0, 0)).1), .int .i64 pL, .int .i64 pE, .int .i64 ((btick pE (xs.getD j (0, 0, 0)).2).1), .int .i64 ((btick pE (xs.getD j (0, 0, 0)).2).2)] 206 1 (by kernel_rfl) rfl (by kernel_rfl) ?_
      clear H
      intro v9 g3 H
      refine x_nil ?_
      refine x_then ?_
      refine ⟨fun w' => Hs [] w0 w' [.row (ov) 119 4 (List.length (List.map (btick rE) rs)) (List.flatMap (dbL rL rE) (List.map (btick rE) rs)), .blk g2 #[.slice none 0 0, .slice none 0 0, .int .i64 0, .int .i64 0, .int .i64 0, .int .i64 0, .int .i64 0] 124, .blk g1 #[.slice (some ⟨gd, 0, none⟩) (List.length rs) capd, .slice (some ⟨g, 0, none⟩) (List.length xs) cap, .int .i64 pL, .int .i64 pE, .int .i64 0, .int .i64 0, .int .i64 ((room : Nat) : Int)] 124], fun w' => Hs [] w0 w' [.blk g3 #[.int .i64 ((xs.getD j (0, 0, 0)).1), .int .i64 pL, .int .i64 pE, .int .i64 ((btick pE (xs.getD j (0, 0, 0)).2).1), .int .i64 ((btick pE (xs.getD j (0, 0, 0)).2).2)] 206, .row (op) 206 5 (List.length (List.map (tickX pE) (List.take j xs))) (List.flatMap (dpL pL pE) (List.map (tickX pE) (List.take j xs))), .row (ov) 119 4 (List.length (List.map (btick rE) rs)) (List.flatMap (dbL rL rE) (List.map (btick rE) rs)), .blk g2 #[.slice none 0 0, .slice none 0 0, .int .i64 0, .int .i64 0, .int .i64 0, .int .i64 0, .int .i64 0] 124, .blk g1 #[.slice (some ⟨gd, 0, none⟩) (List.length rs) capd, .slice (some ⟨g, 0, none⟩) (List.length xs) cap, .int .i64 pL, .int .i64 pE, .int .i64 0, .int .i64 0, .int .i64 ((room : Nat) : Int)] 124], H, hsShut, fun _ h => h.pick [2, 3, 4] _ (by decide) (by kernel_rfl), fun _ h => h.pick [0, 1, 2] _ (by decide) (by kernel_rfl), ?_⟩
      refine s_one 16 rfl (by kernel_rfl) rfl ?_
      clear H
      intro v10 H
      refine x_append H 1 (op) 122 206 5 40 (List.length (List.map (tickX pE) (List.take j xs))) (.agg #[.int .i64 0, .int .i64 0, .int .i64 0, .int .i64 0, .int .i64 0]) (List.flatMap (dpL pL pE) (List.map (tickX pE) (List.take j xs))) ⟨g3, 0, none⟩ 1 1 [.int .i64 ((xs.getD j (0, 0, 0)).1), .int .i64 pL, .int .i64 pE, .int .i64 ((btick pE (xs.getD j (0, 0, 0)).2).1), .int .i64 ((btick pE (xs.getD j (0, 0, 0)).2).2)] rfl (by kernel_rfl) (by kernel_rfl) rfl (by decide) (by decide) rfl (fun j u hj => by rw [add_none]; exact cellOf (H.blk 0 rfl) (by simpa using hj)) (List.all_eq_true.1 (by kernel_rfl)) (by have := List.length_take_le j xs; rw [List.length_map]; unfold maxLen; omega) (by have := List.length_take_le j xs; rw [List.length_map]; omega) (by kernel_rfl) rfl (by kernel_rfl) ?_
      clear H
      intro v11 g4 c4 hc4 H
      rw [show (((List.length (List.map (tickX pE) (List.take j xs))) + 1) : Nat) = (List.length (List.map (tickX pE) (List.take (j + 1) xs))) from (by rw [map_next (tickX pE) (0, 0, 0) xs j (by omega), List.length_append]; rfl)] at H ⊢
      rw [show (List.flatMap (dpL pL pE) (List.map (tickX pE) (List.take j xs))) ++ [.int .i64 ((xs.getD j (0, 0, 0)).1), .int .i64 pL, .int .i64 pE, .int .i64 ((btick pE (xs.getD j (0, 0, 0)).2).1), .int .i64 ((btick pE (xs.getD j (0, 0, 0)).2).2)] = (List.flatMap (dpL pL pE) (List.map (tickX pE) (List.take (j + 1) xs))) from (by rw [map_next (tickX pE) (0, 0, 0) xs j (by omega), List.flatMap_append]; rfl)] at H
      replace H : Hs [] w0 v11 [.blk g3 #[.int .i64 ((xs.getD j (0, 0, 0)).1), .int .i64 pL, .int .i64 pE, .int .i64 ((btick pE (xs.getD j (0, 0, 0)).2).1), .int .i64 ((btick pE (xs.getD j (0, 0, 0)).2).2)] 206, .row (.slice (some ⟨g4, 0, none⟩) (List.length (List.map (tickX pE) (List.take (j + 1) xs))) c4) 206 5 (List.length (List.map (tickX pE) (List.take (j + 1) xs))) (List.flatMap (dpL pL pE) (List.map (tickX pE) (List.take (j + 1) xs))), .row (ov) 119 4 (List.length (List.map (btick rE) rs)) (List.flatMap (dbL rL rE) (List.map (btick rE) rs)), .blk g2 #[.slice none 0 0, .slice none 0 0, .int .i64 0, .int .i64 0, .int .i64 0, .int .i64 0, .int .i64 0] 124, .blk g1 #[.slice (some ⟨gd, 0, none⟩) (List.length rs) capd, .slice (some ⟨g, 0, none⟩) (List.length xs) cap, .int .i64 pL, .int .i64 pE, .int .i64 0, .int .i64 0, .int .i64 ((room : Nat) : Int)] 124] := H
      replace H := H.pick [1, 2, 3, 4] [.row (.slice (some ⟨g4, 0, none⟩) (List.length (List.map (tickX pE) (List.take (j + 1) xs))) c4) 206 5 (List.length (List.map (tickX pE) (List.take (j + 1) xs))) (List.flatMap (dpL pL pE) (List.map (tickX pE) (List.take (j + 1) xs))), .row (ov) 119 4 (List.length (List.map (btick rE) rs)) (List.flatMap (dbL rL rE) (List.map (btick rE) rs)), .blk g2 #[.slice none 0 0, .slice none 0 0, .int .i64 0, .int .i64 0, .int .i64 0, .int .i64 0, .int .i64 0] 124, .blk g1 #[.slice (some ⟨gd, 0, none⟩) (List.length rs) capd, .slice (some ⟨g, 0, none⟩) (List.length xs) cap, .int .i64 pL, .int .i64 pE, .int .i64 0, .int .i64 0, .int .i64 ((room : Nat) : Int)] 124] (by decide) (by kernel_rfl)
      refine x_nil ?_
      refine x_then ?_
      refine ⟨fun w' => Hs [] w0 w' [.row (.slice (some ⟨g4, 0, none⟩) (List.length (List.map (tickX pE) (List.take (j + 1) xs))) c4) 206 5 (List.length (List.map (tickX pE) (List.take (j + 1) xs))) (List.flatMap (dpL pL pE) (List.map (tickX pE) (List.take (j + 1) xs))), .row (ov) 119 4 (List.length (List.map (btick rE) rs)) (List.flatMap (dbL rL rE) (List.map (btick rE) rs)), .blk g2 #[.slice none 0 0, .slice none 0 0, .int .i64 0, .int .i64 0, .int .i64 0, .int .i64 0, .int .i64 0] 124, .blk g1 #[.slice (some ⟨gd, 0, none⟩) (List.length rs) capd, .slice (some ⟨g, 0, none⟩) (List.length xs) cap, .int .i64 pL, .int .i64 pE, .int .i64 0, .int .i64 0, .int .i64 ((room : Nat) : Int)] 124], fun w' => Hs [] w0 w' [.row (.slice (some ⟨g4, 0, none⟩) (List.length (List.map (tickX pE) (List.take (j + 1) xs))) c4) 206 5 (List.length (List.map (tickX pE) (List.take (j + 1) xs))) (List.flatMap (dpL pL pE) (List.map (tickX pE) (List.take (j + 1) xs))), .row (ov) 119 4 (List.length (List.map (btick rE) rs)) (List.flatMap (dbL rL rE) (List.map (btick rE) rs)), .blk g2 #[.slice none 0 0, .slice none 0 0, .int .i64 0, .int .i64 0, .int .i64 0, .int .i64 0, .int .i64 0] 124, .blk g1 #[.slice (some ⟨gd, 0, none⟩) (List.length rs) capd, .slice (some ⟨g, 0, none⟩) (List.length xs) cap, .int .i64 pL, .int .i64 pE, .int .i64 0, .int .i64 0, .int .i64 ((room : Nat) : Int)] 124], H, hsShut, fun _ h => h.pick [0, 1, 2, 3] _ (by decide) (by kernel_rfl), fun _ h => h.pick [1, 2, 3] _ (by decide) (by kernel_rfl), ?_⟩
      refine s_quiet 17 rfl (by kernel_rfl) (y_val (.slice (some ⟨g4, 0, none⟩) (List.length (List.map (tickX pE) (List.take (j + 1) xs))) c4) (by kernel_rfl) (fun _ => by kernel_rfl)) ?_
      refine s_done (by kernel_rfl) ?_
      clear H
      intro v12 H
      refine x_blk ?_
      refine x_then ?_
      refine x_region ?_
      refine x_val (.int .i64 ((j : Nat) : Int)) (by kernel_rfl) rfl (by kernel_rfl) ?_
      refine x_ar (((j : Nat) : Int) + 1) ⟨by omega, by omega⟩ (by kernel_rfl) rfl (by kernel_rfl) ?_
      refine x_val (.int .i64 (((j : Nat) : Int) + 1)) (by kernel_rfl) rfl (by kernel_rfl) ?_
      refine x_nil ?_
      refine x_then ?_
      replace H := H.pick [0, 1, 2, 3] [.row (.slice (some ⟨g4, 0, none⟩) (List.length (List.map (tickX pE) (List.take (j + 1) xs))) c4) 206 5 (List.length (List.map (tickX pE) (List.take (j + 1) xs))) (List.flatMap (dpL pL pE) (List.map (tickX pE) (List.take (j + 1) xs))), .row (ov) 119 4 (List.length (List.map (btick rE) rs)) (List.flatMap (dbL rL rE) (List.map (btick rE) rs)), .blk g2 #[.slice none 0 0, .slice none 0 0, .int .i64 0, .int .i64 0, .int .i64 0, .int .i64 0, .int .i64 0] 124, .blk g1 #[.slice (some ⟨gd, 0, none⟩) (List.length rs) capd, .slice (some ⟨g, 0, none⟩) (List.length xs) cap, .int .i64 pL, .int .i64 pE, .int .i64 0, .int .i64 0, .int .i64 ((room : Nat) : Int)] 124] (by decide) (by kernel_rfl)
      exact ⟨(j + 1, .slice (some ⟨g4, 0, none⟩) (List.length (List.map (tickX pE) (List.take (j + 1) xs))) c4), (by dsimp only; omega), (nthV [.int .i64 ((j : Nat) : Int), .pointer (some ⟨g1, 1, none⟩), .slice (some ⟨g, 0, none⟩) (List.length xs) cap, .int .i64 (((List.length xs) : Nat) : Int), .bool true, .int .i64 ((j : Nat) : Int), .int .i64 (((j : Nat) : Int) + 1), op, .pointer (some ⟨g1, 1, none⟩), .slice (some ⟨g, 0, none⟩) (List.length xs) cap, .int .i64 ((j : Nat) : Int), .pointer (some ⟨g, j * 5, none⟩), .pointer (some ⟨g, j * 5, none⟩), .int .i64 ((xs.getD j (0, 0, 0)).1), .pointer (some ⟨g1, 1, none⟩), .slice (some ⟨g, 0, none⟩) (List.length xs) cap, .int .i64 ((j : Nat) : Int), .pointer (some ⟨g, j * 5, none⟩), .pointer (some ⟨g, j * 5 + 1, none⟩), .agg #[.int .i64 pL, .int .i64 pE, .int .i64 ((xs.getD j (0, 0, 0)).2.1), .int .i64 ((xs.getD j (0, 0, 0)).2.2)], .agg #[.int .i64 pL, .int .i64 pE, .int .i64 ((btick pE (xs.getD j (0, 0, 0)).2).1), .int .i64 ((btick pE (xs.getD j (0, 0, 0)).2).2)], .agg #[.int .i64 ((xs.getD j (0, 0, 0)).1), .int .i64 pL, .int .i64 pE, .int .i64 ((btick pE (xs.getD j (0, 0, 0)).2).1), .int .i64 ((btick pE (xs.getD j (0, 0, 0)).2).2)], .slice (some ⟨g3, 0, none⟩) 1 1, .slice (some ⟨g4, 0, none⟩) (List.length (List.map (tickX pE) (List.take (j + 1) xs))) c4]), (by kernel_rfl), H, (by omega)⟩
  · skip
    have h1p := of_decide_eq_true h1
    refine x_t (by kernel_rfl) ?_
    refine x_skipc ?_
    refine x_then ?_
    refine x_seq ?_
    refine x_block ?_
    refine x_region ?_
    refine x_val (ov) (by kernel_rfl) rfl (by kernel_rfl) ?_
    refine x_val (.pointer (some ⟨g1, 0, none⟩)) (by kernel_rfl) rfl (by kernel_rfl) ?_
    refine x_load1 H 2 g1 0 _ _ (.slice (some ⟨gd, 0, none⟩) (List.length rs) capd) rfl (by kernel_rfl) (by kernel_rfl) rfl (by kernel_rfl) ?_
    refine x_val (.int .i64 ((k : Nat) : Int)) (by kernel_rfl) rfl (by kernel_rfl) ?_
    refine x_ix (t := 121) gd 0 k (List.length rs) capd 119 4 (k * 4) (by omega) (by omega) (by kernel_rfl) (by kernel_rfl) (by kernel_rfl) rfl (by kernel_rfl) ?_
    refine x_loadcn (t := 119) gd (k * 4) [.int .i64 rL, .int .i64 rE, .int .i64 ((rs.getD k (0, 0)).1), .int .i64 ((rs.getD k (0, 0)).2)] ((H.ro R0).rowCells 0 rfl (k * 4) (flatAt (dbLen rL rE) (0, 0) _ (by omega))) (by kernel_rfl) rfl (by kernel_rfl) (by kernel_rfl) ?_
    refine x_callB (.agg #[.int .i64 rL, .int .i64 rE, .int .i64 ((btick rE (rs.getD k (0, 0))).1), .int .i64 ((btick rE (rs.getD k (0, 0))).2)]) H (by kernel_rfl) rfl (by kernel_rfl) (DTick rL rE ((rs.getD k (0, 0)).1) ((rs.getD k (0, 0)).2) hr (getD_all hb (show k < rs.length by omega) _) _) ?_
    clear H
    intro v13 H
    refine x_box' H #[.int .i64 rL, .int .i64 rE, .int .i64 ((btick rE (rs.getD k (0, 0))).1), .int .i64 ((btick rE (rs.getD k (0, 0))).2)] 119 1 (by kernel_rfl) rfl (by kernel_rfl) ?_
    clear H
    intro v14 g5 H
    refine x_append H 1 (ov) 121 119 4 32 (List.length (List.map (btick rE) (List.take k rs))) (.agg #[.int .i64 0, .int .i64 0, .int .i64 0, .int .i64 0]) (List.flatMap (dbL rL rE) (List.map (btick rE) (List.take k rs))) ⟨g5, 0, none⟩ 1 1 [.int .i64 rL, .int .i64 rE, .int .i64 ((btick rE (rs.getD k (0, 0))).1), .int .i64 ((btick rE (rs.getD k (0, 0))).2)] rfl (by kernel_rfl) (by kernel_rfl) rfl (by decide) (by decide) rfl (fun j u hj => by rw [add_none]; exact cellOf (H.blk 0 rfl) (by simpa using hj)) (List.all_eq_true.1 (by kernel_rfl)) (by have := List.length_take_le k rs; rw [List.length_map]; unfold maxLen; omega) (by have := List.length_take_le k rs; rw [List.length_map]; omega) (by kernel_rfl) rfl (by kernel_rfl) ?_
    clear H
    intro v15 g6 c6 hc6 H
    rw [show (((List.length (List.map (btick rE) (List.take k rs))) + 1) : Nat) = (List.length (List.map (btick rE) (List.take (k + 1) rs))) from (by rw [map_next (btick rE) (0, 0) rs k (by omega), List.length_append]; rfl)] at H ⊢
    rw [show (List.flatMap (dbL rL rE) (List.map (btick rE) (List.take k rs))) ++ [.int .i64 rL, .int .i64 rE, .int .i64 ((btick rE (rs.getD k (0, 0))).1), .int .i64 ((btick rE (rs.getD k (0, 0))).2)] = (List.flatMap (dbL rL rE) (List.map (btick rE) (List.take (k + 1) rs))) from (by rw [map_next (btick rE) (0, 0) rs k (by omega), List.flatMap_append]; rfl)] at H
    replace H : Hs [] w0 v15 [.blk g5 #[.int .i64 rL, .int .i64 rE, .int .i64 ((btick rE (rs.getD k (0, 0))).1), .int .i64 ((btick rE (rs.getD k (0, 0))).2)] 119, .row (.slice (some ⟨g6, 0, none⟩) (List.length (List.map (btick rE) (List.take (k + 1) rs))) c6) 119 4 (List.length (List.map (btick rE) (List.take (k + 1) rs))) (List.flatMap (dbL rL rE) (List.map (btick rE) (List.take (k + 1) rs))), .blk g2 #[.slice none 0 0, .slice none 0 0, .int .i64 0, .int .i64 0, .int .i64 0, .int .i64 0, .int .i64 0] 124, .blk g1 #[.slice (some ⟨gd, 0, none⟩) (List.length rs) capd, .slice (some ⟨g, 0, none⟩) (List.length xs) cap, .int .i64 pL, .int .i64 pE, .int .i64 0, .int .i64 0, .int .i64 ((room : Nat) : Int)] 124] := H
    replace H := H.pick [1, 2, 3] [.row (.slice (some ⟨g6, 0, none⟩) (List.length (List.map (btick rE) (List.take (k + 1) rs))) c6) 119 4 (List.length (List.map (btick rE) (List.take (k + 1) rs))) (List.flatMap (dbL rL rE) (List.map (btick rE) (List.take (k + 1) rs))), .blk g2 #[.slice none 0 0, .slice none 0 0, .int .i64 0, .int .i64 0, .int .i64 0, .int .i64 0, .int .i64 0] 124, .blk g1 #[.slice (some ⟨gd, 0, none⟩) (List.length rs) capd, .slice (some ⟨g, 0, none⟩) (List.length xs) cap, .int .i64 pL, .int .i64 pE, .int .i64 0, .int .i64 0, .int .i64 ((room : Nat) : Int)] 124] (by decide) (by kernel_rfl)
    refine x_val (.slice (some ⟨g6, 0, none⟩) (List.length (List.map (btick rE) (List.take (k + 1) rs))) c6) (by kernel_rfl) rfl (by kernel_rfl) ?_
    refine x_nil ?_
    refine x_blk ?_
    refine x_then ?_
    refine x_region ?_
    refine x_val (.int .i64 ((k : Nat) : Int)) (by kernel_rfl) rfl (by kernel_rfl) ?_
    refine x_ar (((k : Nat) : Int) + 1) ⟨by omega, by omega⟩ (by kernel_rfl) rfl (by kernel_rfl) ?_
    refine x_val (.int .i64 (((k : Nat) : Int) + 1)) (by kernel_rfl) rfl (by kernel_rfl) ?_
    refine x_nil ?_
    refine x_then ?_
    replace H := H.pick [0, 1, 2] [.row (.slice (some ⟨g6, 0, none⟩) (List.length (List.map (btick rE) (List.take (k + 1) rs))) c6) 119 4 (List.length (List.map (btick rE) (List.take (k + 1) rs))) (List.flatMap (dbL rL rE) (List.map (btick rE) (List.take (k + 1) rs))), .blk g2 #[.slice none 0 0, .slice none 0 0, .int .i64 0, .int .i64 0, .int .i64 0, .int .i64 0, .int .i64 0] 124, .blk g1 #[.slice (some ⟨gd, 0, none⟩) (List.length rs) capd, .slice (some ⟨g, 0, none⟩) (List.length xs) cap, .int .i64 pL, .int .i64 pE, .int .i64 0, .int .i64 0, .int .i64 ((room : Nat) : Int)] 124] (by decide) (by kernel_rfl)
    exact ⟨(k + 1, .slice (some ⟨g6, 0, none⟩) (List.length (List.map (btick rE) (List.take (k + 1) rs))) c6), (by dsimp only; omega), (nthV [.int .i64 ((k : Nat) : Int), .pointer (some ⟨g1, 0, none⟩), .slice (some ⟨gd, 0, none⟩) (List.length rs) capd, .int .i64 (((List.length rs) : Nat) : Int), .bool true, .int .i64 ((k : Nat) : Int), .int .i64 (((k : Nat) : Int) + 1), ov, .pointer (some ⟨g1, 0, none⟩), .slice (some ⟨gd, 0, none⟩) (List.length rs) capd, .int .i64 ((k : Nat) : Int), .pointer (some ⟨gd, k * 4, none⟩), .agg #[.int .i64 rL, .int .i64 rE, .int .i64 ((rs.getD k (0, 0)).1), .int .i64 ((rs.getD k (0, 0)).2)], .agg #[.int .i64 rL, .int .i64 rE, .int .i64 ((btick rE (rs.getD k (0, 0))).1), .int .i64 ((btick rE (rs.getD k (0, 0))).2)], .slice (some ⟨g5, 0, none⟩) 1 1, .slice (some ⟨g6, 0, none⟩) (List.length (List.map (btick rE) (List.take (k + 1) rs))) c6]), (by kernel_rfl), H, (by omega)⟩

theorem DTk {rL rE pL pE : Int} {room : Nat} {rs : List Buk} {xs : List PairB} {rv pv : Value} (hr : 1 ≤ rE ∧ rE ≤ 65536) (hp : 1 ≤ pE ∧ pE ≤ 65536) (hb : ∀ b ∈ rs, RB rE b) (hc : ∀ x ∈ xs, RB pE x.2) (h8 : rs.length ≤ 8) (hx : xs.length ≤ 4096) (h1 : 1 ≤ rs.length) (w0 : World) (hR : Ro w0 [.row (rv) 119 4 (List.length rs) (List.flatMap (dbL rL rE) rs), .row (pv) 206 5 (List.length xs) (List.flatMap (dpL pL pE) xs)]) : Calls Try.prog 119 #[.agg #[rv, pv, .int .i64 pL, .int .i64 pE, .int .i64 0, .int .i64 0, .int .i64 ((room : Nat) : Int)]] w0 fun e w' => ∃ u1 u2, e = .returned (.agg #[u1, u2, .int .i64 pL, .int .i64 pE, .int .i64 0, .int .i64 0, .int .i64 ((room : Nat) : Int)]) ∧ Hs [] w0 w' [.row (u1) 119 4 (List.length (List.map (btick rE) rs)) (List.flatMap (dbL rL rE) (List.map (btick rE) rs)), .row (u2) 206 5 (List.length (List.map (tickX pE) xs)) (List.flatMap (dpL pL pE) (List.map (tickX pE) xs))] := by
  rcases rowForm (hR 0 _ rfl : w0.ownsRow 0 _ 4 rv _ _) with ⟨rfl, h0⟩ | ⟨gd, capd, rfl, hcd, _⟩
  · omega
  rcases rowForm (hR 1 _ rfl : w0.ownsRow 0 _ 5 pv _ _) with ⟨rfl, h0⟩ | ⟨g, cap, rfl, hcp, _⟩
  · exact DTk_n hr hp hb hc h8 hx (List.length_eq_zero_iff.1 h0) w0 hR
  · exact DTk_s hr hp hb hc h8 hx w0 hR

set_option maxRecDepth 100000 in
set_option maxHeartbeats 4000000 in
theorem DNew (rL rE pL pE : Int) (room ranks : Nat) (h8 : ranks ≤ 8) (w0 : World) :
    Calls Try.prog 63 #[.agg #[.int .i64 rL, .int .i64 rE, .int .i64 0, .int .i64 0], .agg #[.int .i64 pL, .int .i64 pE, .int .i64 0, .int .i64 0], .int .i64 ((room : Nat) : Int), .int .i64 ((ranks : Nat) : Int)] w0 fun e w' => ∃ u, e = .returned (.agg #[u, .slice none 0 0, .int .i64 pL, .int .i64 pE, .int .i64 0, .int .i64 0, .int .i64 ((room : Nat) : Int)]) ∧ Hs [] w0 w' [.row (u) 119 4 (List.length (List.replicate ranks ((0, 0) : Buk))) (List.flatMap (dbL rL rE) (List.replicate ranks ((0, 0) : Buk)))] := by
  refine x_enter Try.func63 rfl #[.agg #[.int .i64 rL, .int .i64 rE, .int .i64 0, .int .i64 0], .agg #[.int .i64 pL, .int .i64 pE, .int .i64 0, .int .i64 0], .int .i64 ((room : Nat) : Int), .int .i64 ((ranks : Nat) : Int), undef, undef, undef, undef, undef, undef, undef, undef, undef, undef, undef, undef, undef, undef, undef, undef, undef, undef, undef, undef, undef, undef] (by kernel_rfl) ?_
  have H := Hs.nil w0
  refine x_seq ?_
  refine x_region ?_
  refine x_box H #[.int .i64 rL, .int .i64 rE, .int .i64 0, .int .i64 0] 119 (by kernel_rfl) rfl (by kernel_rfl) ?_
  clear H
  intro v1 g1 H
  refine x_box H #[.int .i64 pL, .int .i64 pE, .int .i64 0, .int .i64 0] 119 (by kernel_rfl) rfl (by kernel_rfl) ?_
  clear H
  intro v2 g2 H
  refine x_box H #[.slice none 0 0, .slice none 0 0, .int .i64 0, .int .i64 0, .int .i64 0, .int .i64 0, .int .i64 0] 124 (by kernel_rfl) rfl (by kernel_rfl) ?_
  clear H
  intro v3 g3 H
  refine x_nil ?_
  refine x_then ?_
  refine x_seq ?_
  refine x_region ?_
  refine x_loadn (t := 119) H 1 g2 0 _ _ [.int .i64 pL, .int .i64 pE, .int .i64 0, .int .i64 0] rfl (by kernel_rfl) (by kernel_rfl) rfl (by kernel_rfl) (by kernel_rfl) ?_
  refine x_val (.int .i64 ((room : Nat) : Int)) (by kernel_rfl) rfl (by kernel_rfl) ?_
  refine x_val (.agg #[.slice none 0 0, .slice none 0 0, .int .i64 pL, .int .i64 pE, .int .i64 0, .int .i64 0, .int .i64 ((room : Nat) : Int)]) (by kernel_rfl) rfl (by kernel_rfl) ?_
  refine x_box H #[.slice none 0 0, .slice none 0 0, .int .i64 0, .int .i64 0, .int .i64 0, .int .i64 0, .int .i64 0] 124 (by kernel_rfl) rfl (by kernel_rfl) ?_
  clear H
  intro v4 g4 H
  refine x_store (t := 124) (v := .agg #[.slice none 0 0, .slice none 0 0, .int .i64 pL, .int .i64 pE, .int .i64 0, .int .i64 0, .int .i64 ((room : Nat) : Int)]) H 0 g4 0 _ #[.slice none 0 0, .slice none 0 0, .int .i64 pL, .int .i64 pE, .int .i64 0, .int .i64 0, .int .i64 ((room : Nat) : Int)] 124 [.slice none 0 0, .slice none 0 0, .int .i64 pL, .int .i64 pE, .int .i64 0, .int .i64 0, .int .i64 ((room : Nat) : Int)] _ rfl rfl (by kernel_rfl) (by kernel_rfl) (by kernel_rfl) rfl (by kernel_rfl) (by kernel_rfl) (by kernel_rfl) (by kernel_rfl) ?_
  clear H
  intro v5 H
  refine x_nil ?_
  refine x_then ?_
  refine x_seq ?_
  refine x_seq ?_
  refine x_region ?_
  refine x_val (.int .i64 0) (by kernel_rfl) rfl (by kernel_rfl) ?_
  refine x_nil ?_
  refine x_then ?_
  refine x_block ?_
  replace H := H.pick [0, 1, 2, 3] [.blk g4 #[.slice none 0 0, .slice none 0 0, .int .i64 pL, .int .i64 pE, .int .i64 0, .int .i64 0, .int .i64 ((room : Nat) : Int)] 124, .blk g3 #[.slice none 0 0, .slice none 0 0, .int .i64 0, .int .i64 0, .int .i64 0, .int .i64 0, .int .i64 0] 124, .blk g2 #[.int .i64 pL, .int .i64 pE, .int .i64 0, .int .i64 0] 119, .blk g1 #[.int .i64 rL, .int .i64 rE, .int .i64 0, .int .i64 0] 119] (by decide) (by kernel_rfl)
  replace H := H.nilRow 119 4
  refine x_loop (G := Nat × Value) (fun gh a w' => match gh with | (k, ov) => ∃ uf1 : Nat → Value, a = { tmps := #[.agg #[.int .i64 rL, .int .i64 rE, .int .i64 0, .int .i64 0], .agg #[.int .i64 pL, .int .i64 pE, .int .i64 0, .int .i64 0], .int .i64 ((room : Nat) : Int), .int .i64 ((ranks : Nat) : Int), .pointer (some ⟨g1, 0, none⟩), .pointer (some ⟨g2, 0, none⟩), undef, undef, .pointer (some ⟨g3, 0, none⟩), .pointer (some ⟨g4, 0, none⟩), .int .i64 ((k : Nat) : Int), .agg #[.int .i64 pL, .int .i64 pE, .int .i64 0, .int .i64 0], .int .i64 ((room : Nat) : Int), .agg #[.slice none 0 0, .slice none 0 0, .int .i64 pL, .int .i64 pE, .int .i64 0, .int .i64 0, .int .i64 ((room : Nat) : Int)], (uf1 0), (uf1 1), (uf1 2), (uf1 3), (uf1 4), (uf1 5), (uf1 6), (uf1 7), (uf1 8), (uf1 9), (uf1 10), undef], defers := [] } ∧ Hs [] w0 w' [.row (ov) 119 4 (List.length (List.replicate k ((0, 0) : Buk))) (List.flatMap (dbL rL rE) (List.replicate k ((0, 0) : Buk))), .blk g4 #[ov, .slice none 0 0, .int .i64 pL, .int .i64 pE, .int .i64 0, .int .i64 0, .int .i64 ((room : Nat) : Int)] 124, .blk g3 #[.slice none 0 0, .slice none 0 0, .int .i64 0, .int .i64 0, .int .i64 0, .int .i64 0, .int .i64 0] 124, .blk g2 #[.int .i64 pL, .int .i64 pE, .int .i64 0, .int .i64 0] 119, .blk g1 #[.int .i64 rL, .int .i64 rE, .int .i64 0, .int .i64 0] 119] ∧ (k ≤ ranks)) (fun gh => match gh with | (k, ov) => ranks - k) (0, .slice none 0 0) ⟨(nthV [undef, undef, undef, undef, undef, undef, undef, undef, undef, undef, undef]), (by kernel_rfl), H, (Nat.zero_le _)⟩ ?_
  clear H
  rintro ⟨k, ov⟩ _ v6 ⟨uf1, rfl, H, r1⟩
  refine x_seq ?_
  refine x_seq ?_
  refine x_region ?_
  refine x_val (.int .i64 ((k : Nat) : Int)) (by kernel_rfl) rfl (by kernel_rfl) ?_
  refine x_val (.int .i64 ((ranks : Nat) : Int)) (by kernel_rfl) rfl (by kernel_rfl) ?_
  refine x_val (.bool (decide (((k : Nat) : Int) < ((ranks : Nat) : Int)))) (by kernel_rfl) rfl (by kernel_rfl) ?_
  refine x_nil ?_
  refine x_then ?_
  cases h1 : decide (((k : Nat) : Int) < ((ranks : Nat) : Int))
  · skip
    have h1p := of_decide_eq_false h1
    refine x_f (by kernel_rfl) ?_
    refine x_exit ?_
    refine x_then_exit ?_
    refine x_then_exit ?_
    refine x_blk_exit ?_
    refine x_then ?_
    refine x_seq ?_
    refine x_region ?_
    refine x_loadn (t := 124) H 1 g4 0 _ _ [ov, .slice none 0 0, .int .i64 pL, .int .i64 pE, .int .i64 0, .int .i64 0, .int .i64 ((room : Nat) : Int)] rfl (by kernel_rfl) (by kernel_rfl) rfl (by kernel_rfl) (by kernel_rfl) ?_
    have h2o := H.rowOne 0 rfl
    refine x_store (t := 124) (v := .agg #[ov, .slice none 0 0, .int .i64 pL, .int .i64 pE, .int .i64 0, .int .i64 0, .int .i64 ((room : Nat) : Int)]) H 2 g3 0 _ #[ov, .slice none 0 0, .int .i64 pL, .int .i64 pE, .int .i64 0, .int .i64 0, .int .i64 ((room : Nat) : Int)] 124 [ov, .slice none 0 0, .int .i64 pL, .int .i64 pE, .int .i64 0, .int .i64 0, .int .i64 ((room : Nat) : Int)] _ rfl rfl (by kernel_rfl) (by simp only [List.all_cons, List.all_nil, h2o, Bool.and_true, Bool.true_and] <;> rfl) (by kernel_rfl) rfl (by kernel_rfl) (by kernel_rfl) (by kernel_rfl) (by kernel_rfl) ?_
    clear H
    intro v7 H
    refine x_nil ?_
    refine x_then ?_
    refine x_retc ?_
    refine x_ret (.agg #[ov, .slice none 0 0, .int .i64 pL, .int .i64 pE, .int .i64 0, .int .i64 0, .int .i64 ((room : Nat) : Int)]) (by kernel_rfl) (x_rescell H 2 g3 0 #[ov, .slice none 0 0, .int .i64 pL, .int .i64 pE, .int .i64 0, .int .i64 0, .int .i64 ((room : Nat) : Int)] 124 [ov, .slice none 0 0, .int .i64 pL, .int .i64 pE, .int .i64 0, .int .i64 0, .int .i64 ((room : Nat) : Int)] (fun x => x) (by kernel_rfl) (by kernel_rfl) (by kernel_rfl)) ?_
    have hk : k = ranks := by omega
    rw [hk] at H
    exact ⟨_, rfl, H.pick [0] _ (by decide) (by kernel_rfl)⟩
  · skip
    have h1p := of_decide_eq_true h1
    refine x_t (by kernel_rfl) ?_
    refine x_skipc ?_
    refine x_then ?_
    refine x_seq ?_
    refine x_block ?_
    refine x_region ?_
    refine x_val (.pointer (some ⟨g4, 0, none⟩)) (by kernel_rfl) rfl (by kernel_rfl) ?_
    refine x_load1 H 1 g4 0 _ _ (ov) rfl (by kernel_rfl) (by kernel_rfl) rfl (by kernel_rfl) ?_
    refine x_loadn (t := 119) H 4 g1 0 _ _ [.int .i64 rL, .int .i64 rE, .int .i64 0, .int .i64 0] rfl (by kernel_rfl) (by kernel_rfl) rfl (by kernel_rfl) (by kernel_rfl) ?_
    refine x_box' H #[.int .i64 rL, .int .i64 rE, .int .i64 0, .int .i64 0] 119 1 (by kernel_rfl) rfl (by kernel_rfl) ?_
    clear H
    intro v8 g5 H
    refine x_append H 1 (ov) 121 119 4 32 (List.length (List.replicate k ((0, 0) : Buk))) (.agg #[.int .i64 0, .int .i64 0, .int .i64 0, .int .i64 0]) (List.flatMap (dbL rL rE) (List.replicate k ((0, 0) : Buk))) ⟨g5, 0, none⟩ 1 1 [.int .i64 rL, .int .i64 rE, .int .i64 0, .int .i64 0] rfl (by kernel_rfl) (by kernel_rfl) rfl (by decide) (by decide) rfl (fun j u hj => by rw [add_none]; exact cellOf (H.blk 0 rfl) (by simpa using hj)) (List.all_eq_true.1 (by kernel_rfl)) (by rw [List.length_replicate]; unfold maxLen; omega) (by rw [List.length_replicate]; omega) (by kernel_rfl) rfl (by kernel_rfl) ?_
    clear H
    intro v9 g6 c6 hc6 H
    rw [show (((List.length (List.replicate k ((0, 0) : Buk))) + 1) : Nat) = (List.length (List.replicate (k + 1) ((0, 0) : Buk))) from (by rw [rep_next, List.length_append]; rfl)] at H ⊢
    rw [show (List.flatMap (dbL rL rE) (List.replicate k ((0, 0) : Buk))) ++ [.int .i64 rL, .int .i64 rE, .int .i64 0, .int .i64 0] = (List.flatMap (dbL rL rE) (List.replicate (k + 1) ((0, 0) : Buk))) from (by rw [rep_next, List.flatMap_append]; rfl)] at H
    replace H : Hs [] w0 v9 [.blk g5 #[.int .i64 rL, .int .i64 rE, .int .i64 0, .int .i64 0] 119, .row (.slice (some ⟨g6, 0, none⟩) (List.length (List.replicate (k + 1) ((0, 0) : Buk))) c6) 119 4 (List.length (List.replicate (k + 1) ((0, 0) : Buk))) (List.flatMap (dbL rL rE) (List.replicate (k + 1) ((0, 0) : Buk))), .blk g4 #[ov, .slice none 0 0, .int .i64 pL, .int .i64 pE, .int .i64 0, .int .i64 0, .int .i64 ((room : Nat) : Int)] 124, .blk g3 #[.slice none 0 0, .slice none 0 0, .int .i64 0, .int .i64 0, .int .i64 0, .int .i64 0, .int .i64 0] 124, .blk g2 #[.int .i64 pL, .int .i64 pE, .int .i64 0, .int .i64 0] 119, .blk g1 #[.int .i64 rL, .int .i64 rE, .int .i64 0, .int .i64 0] 119] := H
    replace H := H.pick [1, 2, 3, 4, 5] [.row (.slice (some ⟨g6, 0, none⟩) (List.length (List.replicate (k + 1) ((0, 0) : Buk))) c6) 119 4 (List.length (List.replicate (k + 1) ((0, 0) : Buk))) (List.flatMap (dbL rL rE) (List.replicate (k + 1) ((0, 0) : Buk))), .blk g4 #[ov, .slice none 0 0, .int .i64 pL, .int .i64 pE, .int .i64 0, .int .i64 0, .int .i64 ((room : Nat) : Int)] 124, .blk g3 #[.slice none 0 0, .slice none 0 0, .int .i64 0, .int .i64 0, .int .i64 0, .int .i64 0, .int .i64 0] 124, .blk g2 #[.int .i64 pL, .int .i64 pE, .int .i64 0, .int .i64 0] 119, .blk g1 #[.int .i64 rL, .int .i64 rE, .int .i64 0, .int .i64 0] 119] (by decide) (by kernel_rfl)
    refine x_val (.pointer (some ⟨g4, 0, none⟩)) (by kernel_rfl) rfl (by kernel_rfl) ?_
    refine x_store (t := 121) (v := .slice (some ⟨g6, 0, none⟩) (List.length (List.replicate (k + 1) ((0, 0) : Buk))) c6) H 1 g4 0 _ #[.slice (some ⟨g6, 0, none⟩) (List.length (List.replicate (k + 1) ((0, 0) : Buk))) c6, .slice none 0 0, .int .i64 pL, .int .i64 pE, .int .i64 0, .int .i64 0, .int .i64 ((room : Nat) : Int)] 124 [.slice (some ⟨g6, 0, none⟩) (List.length (List.replicate (k + 1) ((0, 0) : Buk))) c6] _ rfl rfl (by kernel_rfl) (by kernel_rfl) (by kernel_rfl) rfl (by kernel_rfl) (by kernel_rfl) (by kernel_rfl) (by kernel_rfl) ?_
    clear H
    intro v10 H
    refine x_nil ?_
    refine x_blk ?_
    refine x_then ?_
    refine x_region ?_
    refine x_val (.int .i64 ((k : Nat) : Int)) (by kernel_rfl) rfl (by kernel_rfl) ?_
    refine x_ar (((k : Nat) : Int) + 1) ⟨by omega, by omega⟩ (by kernel_rfl) rfl (by kernel_rfl) ?_
    refine x_val (.int .i64 (((k : Nat) : Int) + 1)) (by kernel_rfl) rfl (by kernel_rfl) ?_
    refine x_nil ?_
    refine x_then ?_
    replace H := H.pick [0, 1, 2, 3, 4] [.row (.slice (some ⟨g6, 0, none⟩) (List.length (List.replicate (k + 1) ((0, 0) : Buk))) c6) 119 4 (List.length (List.replicate (k + 1) ((0, 0) : Buk))) (List.flatMap (dbL rL rE) (List.replicate (k + 1) ((0, 0) : Buk))), .blk g4 #[.slice (some ⟨g6, 0, none⟩) (List.length (List.replicate (k + 1) ((0, 0) : Buk))) c6, .slice none 0 0, .int .i64 pL, .int .i64 pE, .int .i64 0, .int .i64 0, .int .i64 ((room : Nat) : Int)] 124, .blk g3 #[.slice none 0 0, .slice none 0 0, .int .i64 0, .int .i64 0, .int .i64 0, .int .i64 0, .int .i64 0] 124, .blk g2 #[.int .i64 pL, .int .i64 pE, .int .i64 0, .int .i64 0] 119, .blk g1 #[.int .i64 rL, .int .i64 rE, .int .i64 0, .int .i64 0] 119] (by decide) (by kernel_rfl)
    exact ⟨(k + 1, .slice (some ⟨g6, 0, none⟩) (List.length (List.replicate (k + 1) ((0, 0) : Buk))) c6), (by dsimp only; omega), (nthV [.int .i64 ((k : Nat) : Int), .int .i64 ((ranks : Nat) : Int), .bool true, .int .i64 ((k : Nat) : Int), .int .i64 (((k : Nat) : Int) + 1), .pointer (some ⟨g4, 0, none⟩), ov, .agg #[.int .i64 rL, .int .i64 rE, .int .i64 0, .int .i64 0], .slice (some ⟨g5, 0, none⟩) 1 1, .slice (some ⟨g6, 0, none⟩) (List.length (List.replicate (k + 1) ((0, 0) : Buk))) c6, .pointer (some ⟨g4, 0, none⟩)]), (by kernel_rfl), H, (by omega)⟩

end Go.Proofs.Ytgpalgbdacoagaa
