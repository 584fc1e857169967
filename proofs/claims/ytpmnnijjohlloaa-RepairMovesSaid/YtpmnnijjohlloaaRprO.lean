/- Where all lines are routed; the law RepairMoves, walked. -/
import Derived.Test.YtpmnnijjohlloaaRprN
import Derived.Test.YtpmnnijjohlloaaRprK
import Derived.Test.YtpmnnijjohlloaaPxZ
namespace Go.Proofs.Ytpmnnijjohlloaa
open Go Go.RowKit
set_option linter.unusedVariables false
set_option linter.unusedSimpArgs false
set_option maxRecDepth 100000 in
set_option maxHeartbeats 4000000 in
theorem routes_of {r s b o c y z : Int} {pg sn ns : Nat} (hL : Lay r s b o c y z pg sn ns) {p gl cl gd cd gs cs q rp : Nat} {x : Rp}  (hx : RpOk r s b o c z sn pg ns x) (w0 : World) (hR : Ro w0 [.blk rp #[.pointer (some ⟨p, 0, none⟩), .int .i64 x.j.1, .int .i64 x.j.2.1, .int .i64 x.j.2.2.1, .int .i64 x.j.2.2.2, .pointer (some ⟨q, 0, none⟩)] 133, .blk p #[.int .i64 r, .int .i64 s, .int .i64 b, .int .i64 o, .int .i64 c, .int .i64 y, .int .i64 z, .slice (some ⟨gl, 0, none⟩) sn cl, .slice (some ⟨gd, 0, none⟩) pg cd, .slice (some ⟨gs, 0, none⟩) ns cs, .int .i64 ((x.pu : Nat) : Int), .int .i64 ((x.ru : Nat) : Int)] 118, .row (.slice (some ⟨gl, 0, none⟩) sn cl) 3 1 sn (List.map (Value.int .i64) x.L), .row (.slice (some ⟨gd, 0, none⟩) pg cd) 4 1 pg (List.map Value.bool x.D), .row (.slice (some ⟨gs, 0, none⟩) ns cs) 3 1 ns (List.map (Value.int .i64) x.S)]) :
    Calls Try.prog 62 #[.pointer (some ⟨rp, 0, none⟩), .agg #[.int .i64 r, .int .i64 s, .int .i64 b, .int .i64 o, .int .i64 c, .int .i64 y, .int .i64 z]] w0 fun e w' => ∃ u, e = .returned u ∧ Hs [] w0 w' [.row (u) 3 1 (List.length (rtsL y r b o c x ((sn : Int) * c).toNat)) (List.map (Value.int .i64) (rtsL y r b o c x ((sn : Int) * c).toNat))] := by
  refine z_enter Try.func62 rfl ?_
  have H := Hs.nil w0
  have R0 := hR
  have hok := hL.ok
  obtain ⟨-, r1', r8, s0, s8, b1, b2, o1, o2, c1, c2, y0, y4, z0, z2, hpg, hsn, hns, sn1, pg2, ln0, ln2⟩ := id hL
  refine x_seq <| x_region <| z_box H #[.int .i64 r, .int .i64 s, .int .i64 b, .int .i64 o, .int .i64 c, .int .i64 y, .int .i64 z] 25 (fun v1 g1 H => ?_)
  refine x_b H [.m] <| x_nil <| x_then <| x_seq <| x_region <| x_b H [.m] <| x_nil ?_
  refine x_then <| x_seq <| x_seq <| x_region <| x_b H [.n 0 0 7 25] <| z_callB H (lines_of hL _) fun v2 H => x_b H [.m] ?_
  refine x_nil <| x_then <| x_block ?_
  replace H := H.nilRow 3 1
  refine x_loop (G := Nat × Value) (fun gh a w' => match gh with | (k, ov) => ∃ uf1 : Nat → Value, a = frm 30 uf1 [(0, .pointer (some ⟨rp, 0, none⟩)), (5, ov), (12, .int .i64 ((sn : Int) * c)), (13, .int .i64 (k : Int))] [] ∧ Hs [] w0 w' [.row (ov) 3 1 (List.length (rtsL y r b o c x k)) (List.map (Value.int .i64) (rtsL y r b o c x k)), .blk g1 #[.int .i64 r, .int .i64 s, .int .i64 b, .int .i64 o, .int .i64 c, .int .i64 y, .int .i64 z] 25] ∧ ((k : Int) ≤ (sn : Int) * c)) (fun gh => match gh with | (k, ov) => ((sn : Int) * c).toNat - k) (0, .slice none 0 0) ⟨_, frm_of, H, (by omega)⟩ ?_
  clear H
  rintro ⟨k, ov⟩ _ v3 ⟨uf1, rfl, H, r1⟩
  have hrl := rtsL_len (y := y) (r := r) (b := b) (o := o) (c := c) x k
  refine x_seq <| x_region <| x_b H [.v (.bool (decide ((k : Int) < ((sn : Int) * c))))] <| x_nil <| x_then <| x_seq ?_
  cases h1 : decide ((k : Int) < ((sn : Int) * c))
  · skip
    have h1p := of_decide_eq_false h1
    refine x_f (by kernel_rfl) <| x_exit <| x_then_exit <| x_then_exit <| x_blk_exit <| x_then <| x_seq ?_
    refine x_region <| x_b H [.m, .m] <| x_nil <| x_then <| x_retc <| x_ret (ov) (by kernel_rfl) (by kernel_rfl) ?_
    have hkN : k = ((sn : Int) * c).toNat := by omega
    rw [← hkN]
    exact ⟨_, rfl, H.pk [0]⟩
  have h1p := of_decide_eq_true h1
  refine x_t (by kernel_rfl) <| x_skipc <| x_then <| x_seq <| x_block <| x_seq <| x_region ?_
  refine x_b H [.m, .m] <| x_nil <| x_then <| x_seq <| x_region <| x_b H [.m, .m] <| z_callB (v := .tuple #[.int .i64 (rtX y r b o c x (k : Int)), .int .i64 (x.L.getD ((k : Int) / c).toNat 0), .int .i64 (pgAt y r b o (x.L.getD ((k : Int) / c).toNat 0) / 16384), .int .i64 0]) H (RRoute_of hL hx (k : Int) (show _ ∧ _ from ⟨by omega, by omega⟩) _ (H.ro R0)) fun v4 H => ?_
  refine x_b H [.m, .m, .m, .m, .m, .m, .m, .m, .m] <| x_nil <| x_then <| x_region <| x_b H [.m, .m] <| x_box' H #[.int .i64 (rtX y r b o c x (k : Int))] 3 1 (by kernel_rfl) rfl (by kernel_rfl) ?_
  clear H
  intro v5 g2 H
  refine x_append H 1 (ov) 40 3 1 8 (List.length (rtsL y r b o c x k)) (.int .i64 0) (List.map (Value.int .i64) (rtsL y r b o c x k)) ⟨g2, 0, none⟩ 1 1 [.int .i64 (rtX y r b o c x (k : Int))] rfl (by kernel_rfl) (by kernel_rfl) rfl (by decide) (by decide) rfl (fun j u hj => by rw [add_none]; exact cellOf (H.blk 0 rfl) (by simpa using hj)) (List.all_eq_true.1 (by kernel_rfl)) (by unfold maxLen; omega) (by omega) (by kernel_rfl) rfl (by kernel_rfl) ?_
  clear H
  intro v6 g3 c3 hc3 H
  rw [show (((List.length (rtsL y r b o c x k)) + 1) : Nat) = (List.length (rtsL y r b o c x (k + 1))) from (by rw [rtsL_succ, List.length_append]; rfl)] at H ⊢
  rw [show (List.map (Value.int .i64) (rtsL y r b o c x k)) ++ [.int .i64 (rtX y r b o c x (k : Int))] = (List.map (Value.int .i64) (rtsL y r b o c x (k + 1))) from (by rw [rtsL_succ, List.map_append]; rfl)] at H
  replace H := H.pk [1, 2]
  refine x_b H [.m] <| x_nil <| x_blk <| x_then <| x_region <| z_ar ((k : Int) + 1) <| x_b H [.m] ?_
  refine x_nil <| x_then ?_
  replace H := H.pk [0, 1]
  exact ⟨(k + 1, .slice (some ⟨g3, 0, none⟩) (List.length (rtsL y r b o c x (k + 1))) c3), (by dsimp only; omega), _, frm_of, H, (by omega)⟩
set_option maxRecDepth 100000 in
set_option maxHeartbeats 4000000 in
theorem rmv21_no (r s b o c y z : Int) (ad : Option Addr) (nA cA : Nat) (hbd : r ≤ 9223372036854775807 ∧ b ≤ 9223372036854775807 ∧ o ≤ 9223372036854775807 ∧ c ≤ 9223372036854775807) (hok : layoutOk r s b o c y z = false) (w0 : World) :
    Calls Try.prog 10 #[.agg #[.int .i64 r, .int .i64 s, .int .i64 b, .int .i64 o, .int .i64 c, .int .i64 y, .int .i64 z], .slice ad nA cA] w0 fun e w' => e = .returned (.bool true) ∧ Below w0.heap.size w0 w' := by
  refine z_enter Try.func10 rfl ?_
  have H := Hs.nil w0
  obtain ⟨hb1, hb2, hb3, hb4⟩ := id hbd
  refine x_seq <| x_region <| z_box H #[.int .i64 r, .int .i64 s, .int .i64 b, .int .i64 o, .int .i64 c, .int .i64 y, .int .i64 z] 25 (fun v1 g1 H => ?_)
  refine x_b H [.m] <| x_nil <| x_then <| x_seq <| x_seq <| x_region <| z_callB H (anchor21 _) fun v2 H => ?_
  refine x_b H [.m] <| x_nil <| x_then <| x_f (by kernel_rfl) <| x_skipc <| x_then <| x_seq ?_
  refine x_seq <| x_region <| x_b H [.n 0 0 7 25] <| z_call (small21_any r s b o c y z (by omega) (by omega) (by omega) (by omega) _) ?_
  rintro _ v3 ⟨tS, rfl, hB⟩
  refine ⟨_, rfl, ?_⟩
  replace H := H.via hB
  clear hB
  refine x_b H [.v (.bool (!tS)), .v (.bool (!tS))] ?_
  cases h1 : tS
  · skip
    refine x_b H [.k, .k, .k, .m] <| x_nil <| x_then <| x_t (by kernel_rfl) <| x_seq <| x_region <| x_b H [.m] ?_
    refine x_nil <| x_then <| x_retc <| x_then_ret <| x_ret (.bool true) (by kernel_rfl) (by kernel_rfl) ?_
    exact ⟨rfl, H.below⟩
  refine x_b H [.m, .m, .v (.bool (decide (40 < (nA : Int)))), .v (.bool (decide (40 < (nA : Int))))] <| x_nil <| x_then ?_
  cases h2 : decide (40 < (nA : Int))
  · skip
    have h2p := of_decide_eq_false h2
    refine x_f (by kernel_rfl) <| x_skipc <| x_then <| x_seq <| x_region <| x_b H [.n 0 0 7 25] <| z_callB H (started_no r s b o c y z hbd hok _) fun v4 H => ?_
    refine x_b H [.m, .m, .m, .m] <| z_box H #[.int .i64 0, .int .i64 0, .int .i64 0, .int .i64 0, .int .i64 0, .int .i64 0, .int .i64 0, .slice none 0 0, .slice none 0 0, .slice none 0 0, .int .i64 0, .int .i64 0, .int .i64 0, .int .i64 0, .int .i64 0, .int .i64 0, .slice none 0 0] 68 (fun v5 g2 H => ?_)
    refine x_b H [.m] <| z_store H 0 0 [.int .i64 0, .int .i64 0, .int .i64 0, .int .i64 0, .int .i64 0, .int .i64 0, .int .i64 0, .slice none 0 0, .slice none 0 0, .slice none 0 0, .int .i64 0, .int .i64 0, .int .i64 0, .int .i64 0, .int .i64 0, .int .i64 0, .slice none 0 0] (fun v6 H => ?_)
    refine x_b H [.m] <| x_nil <| x_then <| x_seq <| x_seq <| x_region <| x_b H [.m, .m] ?_
    refine x_nil <| x_then <| x_t (by kernel_rfl) <| x_seq <| x_region <| x_b H [.m, .m, .m, .n 1 0 7 25] <| z_callB (v := .bool (layoutOk r s b o c y z)) H (lRight_any _ _ _ _ _ _ _ (by omega) (by omega) (by omega) (by omega) _) fun v7 H => ?_
    refine x_b H [.v (.bool (!(layoutOk r s b o c y z))), .v (.bool (!(layoutOk r s b o c y z))), .v (.bool (!(layoutOk r s b o c y z)))] <| x_nil <| x_then <| x_retc <| x_then_ret <| x_ret (.bool (!(layoutOk r s b o c y z))) (by kernel_rfl) (by kernel_rfl) ?_
    exact ⟨by rw [hok]; rfl, H.below⟩
  have h2p := of_decide_eq_true h2
  refine x_t (by kernel_rfl) <| x_seq <| x_region <| x_b H [.m] <| x_nil <| x_then <| x_retc ?_
  refine x_then_ret <| x_ret (.bool true) (by kernel_rfl) (by kernel_rfl) ?_
  exact ⟨rfl, H.below⟩
set_option maxRecDepth 100000 in
set_option maxHeartbeats 4000000 in
theorem rmv21_yes {r s b o c y z : Int} {pg sn ns : Nat} (hL : Lay r s b o c y z pg sn ns) (ad : Option Addr) (nA cA : Nat) (l : List Int3) (w0 : World) (hA : RAt int3L 3 (0, 0, 0) w0 ad nA l) :
    Calls Try.prog 10 #[.agg #[.int .i64 r, .int .i64 s, .int .i64 b, .int .i64 o, .int .i64 c, .int .i64 y, .int .i64 z], .slice ad nA cA] w0 fun e w' => e = .returned (.bool true) ∧ Below w0.heap.size w0 w' := by
  refine z_enter Try.func10 rfl ?_
  have H := Hs.nil w0
  have hok := hL.ok
  obtain ⟨-, r1', r8, s0, s8, b1, b2, o1, o2, c1, c2, y0, y4, z0, z2, hpg, hsn, hns, sn1, pg2, ln0, ln2⟩ := id hL
  refine x_seq <| x_region <| z_box H #[.int .i64 r, .int .i64 s, .int .i64 b, .int .i64 o, .int .i64 c, .int .i64 y, .int .i64 z] 25 (fun v1 g1 H => ?_)
  refine x_b H [.m] <| x_nil <| x_then <| x_seq <| x_seq <| x_region <| z_callB H (anchor21 _) fun v2 H => ?_
  refine x_b H [.m] <| x_nil <| x_then <| x_f (by kernel_rfl) <| x_skipc <| x_then <| x_seq ?_
  refine x_seq <| x_region <| x_b H [.n 0 0 7 25] <| z_call (small21_any r s b o c y z (by omega) (by omega) (by omega) (by omega) _) ?_
  rintro _ v3 ⟨tS, rfl, hB⟩
  refine ⟨_, rfl, ?_⟩
  replace H := H.via hB
  clear hB
  refine x_b H [.v (.bool (!tS)), .v (.bool (!tS))] ?_
  cases h1 : tS
  · skip
    refine x_b H [.k, .k, .k, .m] <| x_nil <| x_then <| x_t (by kernel_rfl) <| x_seq <| x_region <| x_b H [.m] ?_
    refine x_nil <| x_then <| x_retc <| x_then_ret <| x_ret (.bool true) (by kernel_rfl) (by kernel_rfl) ?_
    exact ⟨rfl, H.below⟩
  refine x_b H [.m, .m, .v (.bool (decide (40 < (nA : Int)))), .v (.bool (decide (40 < (nA : Int))))] <| x_nil <| x_then ?_
  cases h2 : decide (40 < (nA : Int))
  · skip
    have h2p := of_decide_eq_false h2
    refine x_f (by kernel_rfl) <| x_skipc <| x_then <| x_seq <| x_region <| x_b H [.n 0 0 7 25] <| z_call (started_yes hL _) ?_
    rintro _ v4 ⟨⟨p, gl, cl, gd, cd, gs, cs⟩, ⟨q, gq, cq⟩, rp, lv, rfl, hN'⟩
    refine ⟨_, rfl, ?_⟩
    replace H := hsCast (H.more hN') (L2 := [.blk rp #[.pointer (some ⟨p, 0, none⟩), .int .i64 (((Rp.new sn pg ns).j).1), .int .i64 (((Rp.new sn pg ns).j).2.1), .int .i64 (((Rp.new sn pg ns).j).2.2.1), .int .i64 (((Rp.new sn pg ns).j).2.2.2), .pointer (some ⟨q, 0, none⟩)] 133, .blk p #[.int .i64 r, .int .i64 s, .int .i64 b, .int .i64 o, .int .i64 c, .int .i64 y, .int .i64 z, .slice (some ⟨gl, 0, none⟩) sn cl, .slice (some ⟨gd, 0, none⟩) pg cd, .slice (some ⟨gs, 0, none⟩) ns cs, .int .i64 (((Rp.new sn pg ns).pu : Nat) : Int), .int .i64 (((Rp.new sn pg ns).ru : Nat) : Int)] 118, .row (.slice (some ⟨gl, 0, none⟩) sn cl) 3 1 sn (List.map (Value.int .i64) ((Rp.new sn pg ns).L)), .row (.slice (some ⟨gd, 0, none⟩) pg cd) 4 1 pg (List.map Value.bool ((Rp.new sn pg ns).D)), .row (.slice (some ⟨gs, 0, none⟩) ns cs) 3 1 ns (List.map (Value.int .i64) ((Rp.new sn pg ns).S)), .blk q #[.slice (some ⟨gq, 0, none⟩) 256 cq, .int .i64 ((0 : Nat) : Int), .int .i64 ((0 : Nat) : Int)] 170, .row (.slice (some ⟨gq, 0, none⟩) 256 cq) 72 2 256 (List.flatMap entL (List.replicate 256 ((0, 0) : Ent))), .row (lv) 3 1 pg (List.map (Value.int .i64) (layL y r b o pg)), .row (D21.new.pv) 156 2 (List.length D21.new.Pg) (List.flatMap entL D21.new.Pg), .row (D21.new.kv) 156 2 (List.length D21.new.Rk) (List.flatMap entL D21.new.Rk), .row (D21.new.fv) 147 2 (List.length D21.new.F) (List.flatMap entL D21.new.F), .blk g1 #[.int .i64 r, .int .i64 s, .int .i64 b, .int .i64 o, .int .i64 c, .int .i64 y, .int .i64 z] 25]) (by kernel_rfl)
    clear hN'
    refine x_b H [.m, .m, .m, .m] <| z_box H #[.int .i64 0, .int .i64 0, .int .i64 0, .int .i64 0, .int .i64 0, .int .i64 0, .int .i64 0, .slice none 0 0, .slice none 0 0, .slice none 0 0, .int .i64 0, .int .i64 0, .int .i64 0, .int .i64 0, .int .i64 0, .int .i64 0, .slice none 0 0] 68 (fun v5 g2 H => ?_)
    refine x_b H [.m] ?_
    have h3o := H.rowOne 8 rfl
    have h4o := H.rowOne 9 rfl
    have h5o := H.rowOne 10 rfl
    refine z_store H 0 0 [.int .i64 r, .int .i64 s, .int .i64 b, .int .i64 o, .int .i64 c, .int .i64 y, .int .i64 z, lv, D21.new.pv, D21.new.kv, .int .i64 (((Rp.new sn pg ns).pu : Nat) : Int), .int .i64 (((Rp.new sn pg ns).ru : Nat) : Int), .int .i64 (((Rp.new sn pg ns).j).1), .int .i64 (((Rp.new sn pg ns).j).2.1), .int .i64 (((Rp.new sn pg ns).j).2.2.1), .int .i64 (((Rp.new sn pg ns).j).2.2.2), .slice D21.new.ad D21.new.n D21.new.c] (fun v6 H => ?_) (h1 := (by simp only [List.all_cons, List.all_nil, h3o, h4o, h5o, Bool.and_true, Bool.true_and] <;> rfl))
    refine x_b H [.m] <| x_nil <| x_then <| x_seq <| x_seq <| x_region <| x_b H [.m, .m] ?_
    refine x_nil <| x_then <| x_f (by kernel_rfl) <| x_skipc <| x_then <| x_seq <| x_seq ?_
    refine x_region <| x_b H [.m, .m, .m] <| x_nil <| x_then <| x_block ?_
    replace H := H.pk [1, 2, 3, 4, 5, 6, 7, 12]
    refine x_loop (G := Nat × Rp × List Ent × Nat × Nat) (fun gh a w' => match gh with | (k, x, ls, ra, qn) => ∃ uf1 : Nat → Value, a = frm 92 uf1 [(2, .pointer (some ⟨g1, 0, none⟩)), (5, .pointer (some ⟨rp, 0, none⟩)), (42, .slice ad nA cA), (43, .int .i64 (nA : Int)), (44, .int .i64 (k : Int))] [] ∧ Hs [] w0 w' [.blk rp #[.pointer (some ⟨p, 0, none⟩), .int .i64 x.j.1, .int .i64 x.j.2.1, .int .i64 x.j.2.2.1, .int .i64 x.j.2.2.2, .pointer (some ⟨q, 0, none⟩)] 133, .blk p #[.int .i64 r, .int .i64 s, .int .i64 b, .int .i64 o, .int .i64 c, .int .i64 y, .int .i64 z, .slice (some ⟨gl, 0, none⟩) sn cl, .slice (some ⟨gd, 0, none⟩) pg cd, .slice (some ⟨gs, 0, none⟩) ns cs, .int .i64 ((x.pu : Nat) : Int), .int .i64 ((x.ru : Nat) : Int)] 118, .row (.slice (some ⟨gl, 0, none⟩) sn cl) 3 1 sn (List.map (Value.int .i64) x.L), .row (.slice (some ⟨gd, 0, none⟩) pg cd) 4 1 pg (List.map Value.bool x.D), .row (.slice (some ⟨gs, 0, none⟩) ns cs) 3 1 ns (List.map (Value.int .i64) x.S), .blk q #[.slice (some ⟨gq, 0, none⟩) 256 cq, .int .i64 (ra : Int), .int .i64 (qn : Int)] 170, .row (.slice (some ⟨gq, 0, none⟩) 256 cq) 72 2 256 (List.flatMap entL ls), .blk g1 #[.int .i64 r, .int .i64 s, .int .i64 b, .int .i64 o, .int .i64 c, .int .i64 y, .int .i64 z] 25] ∧ (k ≤ nA) ∧ (RpOk r s b o c z sn pg ns x) ∧ (RgOk ls ra qn x.Q) ∧ (Sinj ns x.S)) (fun gh => match gh with | (k, x, ls, ra, qn) => nA - k) (0, (Rp.new sn pg ns), (List.replicate 256 ((0, 0) : Ent)), 0, 0) ⟨_, frm_of, H, (Nat.zero_le _), (RpOk.new hL), RgOk.new, (Sinj.new ns)⟩ ?_
    clear H
    rintro ⟨k, x, ls, ra, qn⟩ _ v7 ⟨uf1, rfl, H, r1, r2, r3, r4⟩
    have hx := r2
    have hk := r3
    have hi := r4
    refine x_seq <| x_region <| x_b H [.v (.bool (decide ((k : Int) < (nA : Int))))] <| x_nil <| x_then <| x_seq ?_
    cases h6 : decide ((k : Int) < (nA : Int))
    · skip
      have h6p := of_decide_eq_false h6
      refine x_f (by kernel_rfl) <| x_exit <| x_then_exit <| x_then_exit <| x_blk_exit <| x_then <| x_seq ?_
      refine x_region <| x_b H [.m] <| x_nil <| x_then <| x_retc <| x_ret (.bool true) (by kernel_rfl) (by kernel_rfl) ?_
      exact ⟨rfl, H.below⟩
    have h6p := of_decide_eq_true h6
    refine x_t (by kernel_rfl) <| x_skipc <| x_then <| x_seq <| x_block <| x_seq <| x_region ?_
    obtain ⟨ga, oa, had, hcell⟩ := hA (by omega)
    refine x_ixO (t := 62) had k nA cA 74 3 (oa + k * 3) (by omega) (by omega) (by kernel_rfl) (by kernel_rfl) (by kernel_rfl) rfl (by kernel_rfl) <| x_loadcn (t := 74) ga (oa + k * 3) [.int .i64 ((l.getD k (0, 0, 0)).1), .int .i64 ((l.getD k (0, 0, 0)).2.1), .int .i64 ((l.getD k (0, 0, 0)).2.2)] (hcell _ H.below k (by omega)) (by kernel_rfl) rfl (by kernel_rfl) (by kernel_rfl) <| z_box H #[.int .i64 0, .int .i64 0, .int .i64 0] 74 (fun v8 g3 H => ?_)
    refine z_store H 0 0 [.int .i64 ((l.getD k (0, 0, 0)).1), .int .i64 ((l.getD k (0, 0, 0)).2.1), .int .i64 ((l.getD k (0, 0, 0)).2.2)] (fun v9 H => ?_)
    refine x_nil <| x_then <| x_seq <| x_seq <| x_region <| x_b H [.m, .l 0 0, .v (.bool (decide (((l.getD k (0, 0, 0)).1) = 1)))] <| x_nil ?_
    refine x_then ?_
    cases h7 : decide (((l.getD k (0, 0, 0)).1) = 1)
    · skip
      have h7p := of_decide_eq_false h7
      refine x_f (by kernel_rfl) <| x_skipc <| x_then <| x_seq <| x_region <| x_b H [.m, .n 8 0 7 25] <| z_call (routes_of hL hx _ (H.ro1 [1, 2, 3, 4, 5])) ?_
      rintro _ v10 ⟨ru1, rfl, hN'⟩
      refine ⟨_, rfl, ?_⟩
      replace H := H.more hN'
      clear hN'
      have hrl1 := rtsL_len (y := y) (r := r) (b := b) (o := o) (c := c) x ((sn : Int) * c).toNat
      refine x_b H [.m] <| x_nil <| x_then <| x_seq <| x_region <| x_b H [.m] ?_
      cases h8 : decide (x.j.1 = 0)
      · skip
        have h8p := of_decide_eq_false h8
        refine z_callB H (Next_busy hL hx h8p _ (H.ro1 [2, 3, 4, 5, 6])) fun v11 H => x_b H [.m, .m, .m, .m, .m, .m, .m] <| x_nil <| x_then <| x_seq <| x_region <| x_b H [.m] ?_
        have hx1 := hx.step hL
        refine z_call (H.useEP [2, 3, 4, 5, 6, 7, 8] (fun h => step_of hL hx hk _ h)) ?_
        rintro _ v12 ⟨⟨evr, lsn1, ran1, qnn1⟩, rfl, H', hk1⟩
        refine ⟨_, rfl, ?_⟩
        clear H
        have H := hsCast H' (L2 := [.row (evr) 81 3 (List.length (((Rp.step r s z sn pg ns b o c x)).2)) (List.flatMap int3L (((Rp.step r s z sn pg ns b o c x)).2)), .blk rp #[.pointer (some ⟨p, 0, none⟩), .int .i64 (((((Rp.step r s z sn pg ns b o c x)).1).j).1), .int .i64 (((((Rp.step r s z sn pg ns b o c x)).1).j).2.1), .int .i64 (((((Rp.step r s z sn pg ns b o c x)).1).j).2.2.1), .int .i64 (((((Rp.step r s z sn pg ns b o c x)).1).j).2.2.2), .pointer (some ⟨q, 0, none⟩)] 133, .blk p #[.int .i64 r, .int .i64 s, .int .i64 b, .int .i64 o, .int .i64 c, .int .i64 y, .int .i64 z, .slice (some ⟨gl, 0, none⟩) sn cl, .slice (some ⟨gd, 0, none⟩) pg cd, .slice (some ⟨gs, 0, none⟩) ns cs, .int .i64 (((((Rp.step r s z sn pg ns b o c x)).1).pu : Nat) : Int), .int .i64 (((((Rp.step r s z sn pg ns b o c x)).1).ru : Nat) : Int)] 118, .row (.slice (some ⟨gl, 0, none⟩) sn cl) 3 1 sn (List.map (Value.int .i64) ((((Rp.step r s z sn pg ns b o c x)).1).L)), .row (.slice (some ⟨gd, 0, none⟩) pg cd) 4 1 pg (List.map Value.bool ((((Rp.step r s z sn pg ns b o c x)).1).D)), .row (.slice (some ⟨gs, 0, none⟩) ns cs) 3 1 ns (List.map (Value.int .i64) ((((Rp.step r s z sn pg ns b o c x)).1).S)), .blk q #[.slice (some ⟨gq, 0, none⟩) 256 cq, .int .i64 (ran1 : Int), .int .i64 (qnn1 : Int)] 170, .row (.slice (some ⟨gq, 0, none⟩) 256 cq) 72 2 256 (List.flatMap entL lsn1), .row (ru1) 3 1 (List.length (rtsL y r b o c x ((sn : Int) * c).toNat)) (List.map (Value.int .i64) (rtsL y r b o c x ((sn : Int) * c).toNat)), .blk g3 #[.int .i64 ((l.getD k (0, 0, 0)).1), .int .i64 ((l.getD k (0, 0, 0)).2.1), .int .i64 ((l.getD k (0, 0, 0)).2.2)] 74, .blk g1 #[.int .i64 r, .int .i64 s, .int .i64 b, .int .i64 o, .int .i64 c, .int .i64 y, .int .i64 z] 25]) (by kernel_rfl)
        clear H'
        replace hk1 : RgOk lsn1 ran1 qnn1 ((Rp.step r s z sn pg ns b o c x)).1.Q := hk1
        refine x_nil <| x_then <| x_seq <| x_region <| x_b H [.m, .n 10 0 7 25] <| z_call (routes_of hL hx1 _ (H.ro1 [1, 2, 3, 4, 5])) ?_
        rintro _ v13 ⟨ru2, rfl, hN'⟩
        refine ⟨_, rfl, ?_⟩
        replace H := H.more hN'
        clear hN'
        have hrl2 := rtsL_len (y := y) (r := r) (b := b) (o := o) (c := c) (((Rp.step r s z sn pg ns b o c x)).1) ((sn : Int) * c).toNat
        refine x_lenR H 0 ru2 40 3 1 (List.length (rtsL y r b o c (((Rp.step r s z sn pg ns b o c x)).1) ((sn : Int) * c).toNat)) (List.map (Value.int .i64) (rtsL y r b o c (((Rp.step r s z sn pg ns b o c x)).1) ((sn : Int) * c).toNat)) rfl (by kernel_rfl) (by kernel_rfl) rfl (by kernel_rfl) <| x_b H [.m] <| x_nil <| x_then <| x_block ?_
        rcases H.rowForm 9 rfl with ⟨rfl, hf0⟩ | ⟨gf1, cf1, rfl, hcf1, -⟩
        · exfalso; have := hL.sn1; have := hL.c1; have : 1 ≤ (sn : Int) * c := Int.le_trans (by omega) (Int.mul_le_mul (show (1 : Int) ≤ sn by omega) (show (1 : Int) ≤ c by omega) (by omega) (by omega)); omega
        rcases H.rowForm 0 rfl with ⟨rfl, hf0⟩ | ⟨gf2, cf2, rfl, hcf2, -⟩
        · exfalso; have := hL.sn1; have := hL.c1; have : 1 ≤ (sn : Int) * c := Int.le_trans (by omega) (Int.mul_le_mul (show (1 : Int) ≤ sn by omega) (show (1 : Int) ≤ c by omega) (by omega) (by omega)); omega
        refine x_loop (G := Nat) (fun (j : Nat) a w' => ∃ uf2 : Nat → Value, a = frm 92 uf2 [(2, .pointer (some ⟨g1, 0, none⟩)), (5, .pointer (some ⟨rp, 0, none⟩)), (10, .slice (some ⟨gf1, 0, none⟩) (List.length (rtsL y r b o c x ((sn : Int) * c).toNat)) cf1), (11, .int .i64 (atI y r b o c x.S x.j.1 x.j.2.1 x.j.2.2.2)), (12, .int .i64 (atI y r b o c x.S x.j.1 x.j.2.2.1 x.j.2.2.2)), (13, .int .i64 0), (42, .slice ad nA cA), (43, .int .i64 (nA : Int)), (44, .int .i64 (k : Int)), (68, .slice (some ⟨gf2, 0, none⟩) (List.length (rtsL y r b o c (((Rp.step r s z sn pg ns b o c x)).1) ((sn : Int) * c).toNat)) cf2), (69, .int .i64 (((List.length (rtsL y r b o c (((Rp.step r s z sn pg ns b o c x)).1) ((sn : Int) * c).toNat)) : Nat) : Int)), (70, .int .i64 (j : Int))] [] ∧ Hs [] w0 w' [.row (.slice (some ⟨gf2, 0, none⟩) (List.length (rtsL y r b o c (((Rp.step r s z sn pg ns b o c x)).1) ((sn : Int) * c).toNat)) cf2) 3 1 (List.length (rtsL y r b o c (((Rp.step r s z sn pg ns b o c x)).1) ((sn : Int) * c).toNat)) (List.map (Value.int .i64) (rtsL y r b o c (((Rp.step r s z sn pg ns b o c x)).1) ((sn : Int) * c).toNat)), .row (evr) 81 3 (List.length (((Rp.step r s z sn pg ns b o c x)).2)) (List.flatMap int3L (((Rp.step r s z sn pg ns b o c x)).2)), .blk rp #[.pointer (some ⟨p, 0, none⟩), .int .i64 (((((Rp.step r s z sn pg ns b o c x)).1).j).1), .int .i64 (((((Rp.step r s z sn pg ns b o c x)).1).j).2.1), .int .i64 (((((Rp.step r s z sn pg ns b o c x)).1).j).2.2.1), .int .i64 (((((Rp.step r s z sn pg ns b o c x)).1).j).2.2.2), .pointer (some ⟨q, 0, none⟩)] 133, .blk p #[.int .i64 r, .int .i64 s, .int .i64 b, .int .i64 o, .int .i64 c, .int .i64 y, .int .i64 z, .slice (some ⟨gl, 0, none⟩) sn cl, .slice (some ⟨gd, 0, none⟩) pg cd, .slice (some ⟨gs, 0, none⟩) ns cs, .int .i64 (((((Rp.step r s z sn pg ns b o c x)).1).pu : Nat) : Int), .int .i64 (((((Rp.step r s z sn pg ns b o c x)).1).ru : Nat) : Int)] 118, .row (.slice (some ⟨gl, 0, none⟩) sn cl) 3 1 sn (List.map (Value.int .i64) ((((Rp.step r s z sn pg ns b o c x)).1).L)), .row (.slice (some ⟨gd, 0, none⟩) pg cd) 4 1 pg (List.map Value.bool ((((Rp.step r s z sn pg ns b o c x)).1).D)), .row (.slice (some ⟨gs, 0, none⟩) ns cs) 3 1 ns (List.map (Value.int .i64) ((((Rp.step r s z sn pg ns b o c x)).1).S)), .blk q #[.slice (some ⟨gq, 0, none⟩) 256 cq, .int .i64 (ran1 : Int), .int .i64 (qnn1 : Int)] 170, .row (.slice (some ⟨gq, 0, none⟩) 256 cq) 72 2 256 (List.flatMap entL lsn1), .row (.slice (some ⟨gf1, 0, none⟩) (List.length (rtsL y r b o c x ((sn : Int) * c).toNat)) cf1) 3 1 (List.length (rtsL y r b o c x ((sn : Int) * c).toNat)) (List.map (Value.int .i64) (rtsL y r b o c x ((sn : Int) * c).toNat)), .blk g3 #[.int .i64 ((l.getD k (0, 0, 0)).1), .int .i64 ((l.getD k (0, 0, 0)).2.1), .int .i64 ((l.getD k (0, 0, 0)).2.2)] 74, .blk g1 #[.int .i64 r, .int .i64 s, .int .i64 b, .int .i64 o, .int .i64 c, .int .i64 y, .int .i64 z] 25] ∧ (j ≤ ((sn : Int) * c).toNat)) (fun (j : Nat) => ((sn : Int) * c).toNat - j) 0 ⟨_, frm_of, H, (Nat.zero_le _)⟩ ?_
        clear H
        rintro j _ v14 ⟨uf2, rfl, H, r1⟩
        refine x_seq <| x_region <| x_b H [.v (.bool (decide ((j : Int) < (((List.length (rtsL y r b o c (((Rp.step r s z sn pg ns b o c x)).1) ((sn : Int) * c).toNat)) : Nat) : Int))))] <| x_nil <| x_then <| x_seq ?_
        cases h9 : decide ((j : Int) < (((List.length (rtsL y r b o c (((Rp.step r s z sn pg ns b o c x)).1) ((sn : Int) * c).toNat)) : Nat) : Int))
        · skip
          have h9p := of_decide_eq_false h9
          refine x_f (by kernel_rfl) <| x_exit <| x_then_exit <| x_then_exit <| x_blk_exit <| x_blk <| x_then ?_
          refine x_region <| z_ar ((k : Int) + 1) <| x_b H [.m] <| x_nil <| x_then ?_
          replace H := H.pk [2, 3, 4, 5, 6, 7, 8, 11]
          exact ⟨(k + 1, (((Rp.step r s z sn pg ns b o c x)).1), lsn1, ran1, qnn1), (by dsimp only; omega), _, frm_of, H, (by omega), hx1, hk1, (Sinj.step hL hx hi)⟩
        have h9p := of_decide_eq_true h9
        refine x_t (by kernel_rfl) <| x_skipc <| x_then <| x_seq <| x_block <| x_seq <| x_region ?_
        refine x_b H [.m] <| x_ix (t := 40) gf2 0 j (List.length (rtsL y r b o c (((Rp.step r s z sn pg ns b o c x)).1) ((sn : Int) * c).toNat)) cf2 3 1 j (by omega) (by omega) (by kernel_rfl) (by kernel_rfl) (by kernel_rfl) rfl (by kernel_rfl) <| x_loadc gf2 j (.int .i64 ((rtsL y r b o c (((Rp.step r s z sn pg ns b o c x)).1) ((sn : Int) * c).toNat).getD j 0)) (H.rowCell 0 rfl j (mapAt 0 (by omega))) (by kernel_rfl) rfl (by kernel_rfl) <| x_b H [.m, .m] <| x_nil <| x_then <| x_seq ?_
        refine x_region <| x_b H [.m, .m] <| x_ix (t := 40) gf1 0 j (List.length (rtsL y r b o c x ((sn : Int) * c).toNat)) cf1 3 1 j (by omega) (by omega) (by kernel_rfl) (by kernel_rfl) (by kernel_rfl) rfl (by kernel_rfl) <| x_loadc gf1 j (.int .i64 ((rtsL y r b o c x ((sn : Int) * c).toNat).getD j 0)) (H.rowCell 9 rfl j (mapAt 0 (by omega))) (by kernel_rfl) rfl (by kernel_rfl) <| x_b H [.m] <| x_nil <| x_then ?_
        refine x_seq <| x_seq <| x_region <| x_b H [.m, .m, .m, .m, .m, .v (.bool (decide (((rtsL y r b o c x ((sn : Int) * c).toNat).getD j 0) = (atI y r b o c x.S x.j.1 x.j.2.1 x.j.2.2.2)))), .v (.bool (decide (((rtsL y r b o c x ((sn : Int) * c).toNat).getD j 0) = (atI y r b o c x.S x.j.1 x.j.2.1 x.j.2.2.2))))] <| x_nil <| x_then ?_
        cases h10 : decide (((rtsL y r b o c x ((sn : Int) * c).toNat).getD j 0) = (atI y r b o c x.S x.j.1 x.j.2.1 x.j.2.2.2))
        · skip
          have h10p := of_decide_eq_false h10
          refine x_f (by kernel_rfl) <| x_skipc <| x_then <| x_seq <| x_region <| x_b H [.m, .m, .v (.bool (!(decide (((rtsL y r b o c (((Rp.step r s z sn pg ns b o c x)).1) ((sn : Int) * c).toNat).getD j 0) = ((rtsL y r b o c x ((sn : Int) * c).toNat).getD j 0)))))] <| x_nil ?_
          refine x_then ?_
          cases h11 : decide (((rtsL y r b o c (((Rp.step r s z sn pg ns b o c x)).1) ((sn : Int) * c).toNat).getD j 0) = ((rtsL y r b o c x ((sn : Int) * c).toNat).getD j 0))
          · skip
            have h11p := of_decide_eq_false h11
            exact absurd h11p (fun e => e (by have q := Rp.route_step hL hx hi h8p (n := (j : Int)) (by omega) (by omega); have q2 := h10p; rw [rtsL_get _ (by omega)] at q2; rw [if_neg q2] at q; rw [rtsL_get _ (by omega)]; rw [rtsL_get _ (by omega)]; exact q))
          have h11p := of_decide_eq_true h11
          refine x_f (by kernel_rfl) <| x_skipc <| x_blk <| x_then <| x_region <| z_ar ((j : Int) + 1) <| x_b H [.m] ?_
          refine x_nil <| x_then ?_
          replace H := H.pk [0, 1, 2, 3, 4, 5, 6, 7, 8, 9, 10, 11]
          exact ⟨(j + 1), (by omega), _, frm_of, H, (by omega)⟩
        have h10p := of_decide_eq_true h10
        refine x_t (by kernel_rfl) <| x_region <| x_b H [.m, .m] <| x_nil <| x_then <| x_seq <| x_region ?_
        refine x_b H [.m, .m, .v (.bool (!(decide (((rtsL y r b o c (((Rp.step r s z sn pg ns b o c x)).1) ((sn : Int) * c).toNat).getD j 0) = (atI y r b o c x.S x.j.1 x.j.2.2.1 x.j.2.2.2)))))] <| x_nil <| x_then ?_
        cases h12 : decide (((rtsL y r b o c (((Rp.step r s z sn pg ns b o c x)).1) ((sn : Int) * c).toNat).getD j 0) = (atI y r b o c x.S x.j.1 x.j.2.2.1 x.j.2.2.2))
        · skip
          have h12p := of_decide_eq_false h12
          exact absurd h12p (fun e => e (by have q := Rp.route_step hL hx hi h8p (n := (j : Int)) (by omega) (by omega); have q2 := h10p; rw [rtsL_get _ (by omega)] at q2; rw [if_pos q2] at q; rw [rtsL_get _ (by omega)]; exact q))
        have h12p := of_decide_eq_true h12
        refine x_f (by kernel_rfl) <| x_skipc <| x_blk <| x_then <| x_region <| z_ar ((j : Int) + 1) <| x_b H [.m] ?_
        refine x_nil <| x_then ?_
        replace H := H.pk [0, 1, 2, 3, 4, 5, 6, 7, 8, 9, 10, 11]
        exact ⟨(j + 1), (by omega), _, frm_of, H, (by omega)⟩
      have h8p := of_decide_eq_true h8
      refine z_callB H (Next_idle h8p _ (H.ro1 [2])) fun v15 H => x_b H [.m, .m, .m, .m, .m, .m, .m] <| x_nil <| x_then <| x_seq <| x_region <| x_b H [.m] ?_
      have hx1 := hx.step hL
      refine z_call (H.useEP [2, 3, 4, 5, 6, 7, 8] (fun h => step_of hL hx hk _ h)) ?_
      rintro _ v16 ⟨⟨evr, lsn1, ran1, qnn1⟩, rfl, H', hk1⟩
      refine ⟨_, rfl, ?_⟩
      clear H
      have H := hsCast H' (L2 := [.row (evr) 81 3 (List.length (((Rp.step r s z sn pg ns b o c x)).2)) (List.flatMap int3L (((Rp.step r s z sn pg ns b o c x)).2)), .blk rp #[.pointer (some ⟨p, 0, none⟩), .int .i64 (((((Rp.step r s z sn pg ns b o c x)).1).j).1), .int .i64 (((((Rp.step r s z sn pg ns b o c x)).1).j).2.1), .int .i64 (((((Rp.step r s z sn pg ns b o c x)).1).j).2.2.1), .int .i64 (((((Rp.step r s z sn pg ns b o c x)).1).j).2.2.2), .pointer (some ⟨q, 0, none⟩)] 133, .blk p #[.int .i64 r, .int .i64 s, .int .i64 b, .int .i64 o, .int .i64 c, .int .i64 y, .int .i64 z, .slice (some ⟨gl, 0, none⟩) sn cl, .slice (some ⟨gd, 0, none⟩) pg cd, .slice (some ⟨gs, 0, none⟩) ns cs, .int .i64 (((((Rp.step r s z sn pg ns b o c x)).1).pu : Nat) : Int), .int .i64 (((((Rp.step r s z sn pg ns b o c x)).1).ru : Nat) : Int)] 118, .row (.slice (some ⟨gl, 0, none⟩) sn cl) 3 1 sn (List.map (Value.int .i64) ((((Rp.step r s z sn pg ns b o c x)).1).L)), .row (.slice (some ⟨gd, 0, none⟩) pg cd) 4 1 pg (List.map Value.bool ((((Rp.step r s z sn pg ns b o c x)).1).D)), .row (.slice (some ⟨gs, 0, none⟩) ns cs) 3 1 ns (List.map (Value.int .i64) ((((Rp.step r s z sn pg ns b o c x)).1).S)), .blk q #[.slice (some ⟨gq, 0, none⟩) 256 cq, .int .i64 (ran1 : Int), .int .i64 (qnn1 : Int)] 170, .row (.slice (some ⟨gq, 0, none⟩) 256 cq) 72 2 256 (List.flatMap entL lsn1), .row (ru1) 3 1 (List.length (rtsL y r b o c x ((sn : Int) * c).toNat)) (List.map (Value.int .i64) (rtsL y r b o c x ((sn : Int) * c).toNat)), .blk g3 #[.int .i64 ((l.getD k (0, 0, 0)).1), .int .i64 ((l.getD k (0, 0, 0)).2.1), .int .i64 ((l.getD k (0, 0, 0)).2.2)] 74, .blk g1 #[.int .i64 r, .int .i64 s, .int .i64 b, .int .i64 o, .int .i64 c, .int .i64 y, .int .i64 z] 25]) (by kernel_rfl)
      clear H'
      replace hk1 : RgOk lsn1 ran1 qnn1 ((Rp.step r s z sn pg ns b o c x)).1.Q := hk1
      refine x_nil <| x_then <| x_seq <| x_region <| x_b H [.m, .n 10 0 7 25] <| z_call (routes_of hL hx1 _ (H.ro1 [1, 2, 3, 4, 5])) ?_
      rintro _ v17 ⟨ru2, rfl, hN'⟩
      refine ⟨_, rfl, ?_⟩
      replace H := H.more hN'
      clear hN'
      have hrl2 := rtsL_len (y := y) (r := r) (b := b) (o := o) (c := c) (((Rp.step r s z sn pg ns b o c x)).1) ((sn : Int) * c).toNat
      refine x_lenR H 0 ru2 40 3 1 (List.length (rtsL y r b o c (((Rp.step r s z sn pg ns b o c x)).1) ((sn : Int) * c).toNat)) (List.map (Value.int .i64) (rtsL y r b o c (((Rp.step r s z sn pg ns b o c x)).1) ((sn : Int) * c).toNat)) rfl (by kernel_rfl) (by kernel_rfl) rfl (by kernel_rfl) <| x_b H [.m] <| x_nil <| x_then <| x_block ?_
      rcases H.rowForm 9 rfl with ⟨rfl, hf0⟩ | ⟨gf3, cf3, rfl, hcf3, -⟩
      · exfalso; have := hL.sn1; have := hL.c1; have : 1 ≤ (sn : Int) * c := Int.le_trans (by omega) (Int.mul_le_mul (show (1 : Int) ≤ sn by omega) (show (1 : Int) ≤ c by omega) (by omega) (by omega)); omega
      rcases H.rowForm 0 rfl with ⟨rfl, hf0⟩ | ⟨gf4, cf4, rfl, hcf4, -⟩
      · exfalso; have := hL.sn1; have := hL.c1; have : 1 ≤ (sn : Int) * c := Int.le_trans (by omega) (Int.mul_le_mul (show (1 : Int) ≤ sn by omega) (show (1 : Int) ≤ c by omega) (by omega) (by omega)); omega
      refine x_loop (G := Nat) (fun (j : Nat) a w' => ∃ uf3 : Nat → Value, a = frm 92 uf3 [(2, .pointer (some ⟨g1, 0, none⟩)), (5, .pointer (some ⟨rp, 0, none⟩)), (10, .slice (some ⟨gf3, 0, none⟩) (List.length (rtsL y r b o c x ((sn : Int) * c).toNat)) cf3), (11, .int .i64 0), (12, .int .i64 0), (13, .int .i64 51), (42, .slice ad nA cA), (43, .int .i64 (nA : Int)), (44, .int .i64 (k : Int)), (68, .slice (some ⟨gf4, 0, none⟩) (List.length (rtsL y r b o c (((Rp.step r s z sn pg ns b o c x)).1) ((sn : Int) * c).toNat)) cf4), (69, .int .i64 (((List.length (rtsL y r b o c (((Rp.step r s z sn pg ns b o c x)).1) ((sn : Int) * c).toNat)) : Nat) : Int)), (70, .int .i64 (j : Int))] [] ∧ Hs [] w0 w' [.row (.slice (some ⟨gf4, 0, none⟩) (List.length (rtsL y r b o c (((Rp.step r s z sn pg ns b o c x)).1) ((sn : Int) * c).toNat)) cf4) 3 1 (List.length (rtsL y r b o c (((Rp.step r s z sn pg ns b o c x)).1) ((sn : Int) * c).toNat)) (List.map (Value.int .i64) (rtsL y r b o c (((Rp.step r s z sn pg ns b o c x)).1) ((sn : Int) * c).toNat)), .row (evr) 81 3 (List.length (((Rp.step r s z sn pg ns b o c x)).2)) (List.flatMap int3L (((Rp.step r s z sn pg ns b o c x)).2)), .blk rp #[.pointer (some ⟨p, 0, none⟩), .int .i64 (((((Rp.step r s z sn pg ns b o c x)).1).j).1), .int .i64 (((((Rp.step r s z sn pg ns b o c x)).1).j).2.1), .int .i64 (((((Rp.step r s z sn pg ns b o c x)).1).j).2.2.1), .int .i64 (((((Rp.step r s z sn pg ns b o c x)).1).j).2.2.2), .pointer (some ⟨q, 0, none⟩)] 133, .blk p #[.int .i64 r, .int .i64 s, .int .i64 b, .int .i64 o, .int .i64 c, .int .i64 y, .int .i64 z, .slice (some ⟨gl, 0, none⟩) sn cl, .slice (some ⟨gd, 0, none⟩) pg cd, .slice (some ⟨gs, 0, none⟩) ns cs, .int .i64 (((((Rp.step r s z sn pg ns b o c x)).1).pu : Nat) : Int), .int .i64 (((((Rp.step r s z sn pg ns b o c x)).1).ru : Nat) : Int)] 118, .row (.slice (some ⟨gl, 0, none⟩) sn cl) 3 1 sn (List.map (Value.int .i64) ((((Rp.step r s z sn pg ns b o c x)).1).L)), .row (.slice (some ⟨gd, 0, none⟩) pg cd) 4 1 pg (List.map Value.bool ((((Rp.step r s z sn pg ns b o c x)).1).D)), .row (.slice (some ⟨gs, 0, none⟩) ns cs) 3 1 ns (List.map (Value.int .i64) ((((Rp.step r s z sn pg ns b o c x)).1).S)), .blk q #[.slice (some ⟨gq, 0, none⟩) 256 cq, .int .i64 (ran1 : Int), .int .i64 (qnn1 : Int)] 170, .row (.slice (some ⟨gq, 0, none⟩) 256 cq) 72 2 256 (List.flatMap entL lsn1), .row (.slice (some ⟨gf3, 0, none⟩) (List.length (rtsL y r b o c x ((sn : Int) * c).toNat)) cf3) 3 1 (List.length (rtsL y r b o c x ((sn : Int) * c).toNat)) (List.map (Value.int .i64) (rtsL y r b o c x ((sn : Int) * c).toNat)), .blk g3 #[.int .i64 ((l.getD k (0, 0, 0)).1), .int .i64 ((l.getD k (0, 0, 0)).2.1), .int .i64 ((l.getD k (0, 0, 0)).2.2)] 74, .blk g1 #[.int .i64 r, .int .i64 s, .int .i64 b, .int .i64 o, .int .i64 c, .int .i64 y, .int .i64 z] 25] ∧ (j ≤ ((sn : Int) * c).toNat)) (fun (j : Nat) => ((sn : Int) * c).toNat - j) 0 ⟨_, frm_of, H, (Nat.zero_le _)⟩ ?_
      clear H
      rintro j _ v18 ⟨uf3, rfl, H, r1⟩
      refine x_seq <| x_region <| x_b H [.v (.bool (decide ((j : Int) < (((List.length (rtsL y r b o c (((Rp.step r s z sn pg ns b o c x)).1) ((sn : Int) * c).toNat)) : Nat) : Int))))] <| x_nil <| x_then <| x_seq ?_
      cases h13 : decide ((j : Int) < (((List.length (rtsL y r b o c (((Rp.step r s z sn pg ns b o c x)).1) ((sn : Int) * c).toNat)) : Nat) : Int))
      · skip
        have h13p := of_decide_eq_false h13
        refine x_f (by kernel_rfl) <| x_exit <| x_then_exit <| x_then_exit <| x_blk_exit <| x_blk <| x_then ?_
        refine x_region <| z_ar ((k : Int) + 1) <| x_b H [.m] <| x_nil <| x_then ?_
        replace H := H.pk [2, 3, 4, 5, 6, 7, 8, 11]
        exact ⟨(k + 1, (((Rp.step r s z sn pg ns b o c x)).1), lsn1, ran1, qnn1), (by dsimp only; omega), _, frm_of, H, (by omega), hx1, hk1, (Sinj.step hL hx hi)⟩
      have h13p := of_decide_eq_true h13
      refine x_t (by kernel_rfl) <| x_skipc <| x_then <| x_seq <| x_block <| x_seq <| x_region ?_
      refine x_b H [.m] <| x_ix (t := 40) gf4 0 j (List.length (rtsL y r b o c (((Rp.step r s z sn pg ns b o c x)).1) ((sn : Int) * c).toNat)) cf4 3 1 j (by omega) (by omega) (by kernel_rfl) (by kernel_rfl) (by kernel_rfl) rfl (by kernel_rfl) <| x_loadc gf4 j (.int .i64 ((rtsL y r b o c (((Rp.step r s z sn pg ns b o c x)).1) ((sn : Int) * c).toNat).getD j 0)) (H.rowCell 0 rfl j (mapAt 0 (by omega))) (by kernel_rfl) rfl (by kernel_rfl) <| x_b H [.m, .m] <| x_nil <| x_then <| x_seq ?_
      refine x_region <| x_b H [.m, .m] <| x_ix (t := 40) gf3 0 j (List.length (rtsL y r b o c x ((sn : Int) * c).toNat)) cf3 3 1 j (by omega) (by omega) (by kernel_rfl) (by kernel_rfl) (by kernel_rfl) rfl (by kernel_rfl) <| x_loadc gf3 j (.int .i64 ((rtsL y r b o c x ((sn : Int) * c).toNat).getD j 0)) (H.rowCell 9 rfl j (mapAt 0 (by omega))) (by kernel_rfl) rfl (by kernel_rfl) <| x_b H [.m] <| x_nil <| x_then ?_
      refine x_seq <| x_seq <| x_region <| x_b H [.m, .m, .m, .k, .k, .k, .m] <| x_nil <| x_then <| x_f (by kernel_rfl) ?_
      refine x_skipc <| x_then <| x_seq <| x_region <| x_b H [.m, .m, .v (.bool (!(decide (((rtsL y r b o c (((Rp.step r s z sn pg ns b o c x)).1) ((sn : Int) * c).toNat).getD j 0) = ((rtsL y r b o c x ((sn : Int) * c).toNat).getD j 0)))))] <| x_nil <| x_then ?_
      cases h14 : decide (((rtsL y r b o c (((Rp.step r s z sn pg ns b o c x)).1) ((sn : Int) * c).toNat).getD j 0) = ((rtsL y r b o c x ((sn : Int) * c).toNat).getD j 0))
      · skip
        have h14p := of_decide_eq_false h14
        exact absurd h14 (by rw [Rp.step_idle h8p]; simp)
      have h14p := of_decide_eq_true h14
      refine x_f (by kernel_rfl) <| x_skipc <| x_blk <| x_then <| x_region <| z_ar ((j : Int) + 1) <| x_b H [.m] ?_
      refine x_nil <| x_then ?_
      replace H := H.pk [0, 1, 2, 3, 4, 5, 6, 7, 8, 9, 10, 11]
      exact ⟨(j + 1), (by omega), _, frm_of, H, (by omega)⟩
    have h7p := of_decide_eq_true h7
    refine x_t (by kernel_rfl) <| x_seq <| x_region <| x_b H [.m, .m, .n 0 1 2 72] ?_
    have hx1 := hx.ask hL (l.getD k (0, 0, 0)).2
    refine z_call (H.useEP [1, 2, 3, 4, 5, 6, 7] (fun h => ask_of hL hx hk (l.getD k (0, 0, 0)).2 _ h)) ?_
    rintro _ v19 ⟨⟨eva, lsn1, ran1, qnn1⟩, rfl, H', hk1⟩
    refine ⟨_, rfl, ?_⟩
    clear H
    have H := hsCast H' (L2 := [.row (eva) 81 3 (List.length (Rp.askV r s z sn ns x (l.getD k (0, 0, 0)).2)) (List.flatMap int3L (Rp.askV r s z sn ns x (l.getD k (0, 0, 0)).2)), .blk rp #[.pointer (some ⟨p, 0, none⟩), .int .i64 (((Rp.ask r s z sn ns x (l.getD k (0, 0, 0)).2).j).1), .int .i64 (((Rp.ask r s z sn ns x (l.getD k (0, 0, 0)).2).j).2.1), .int .i64 (((Rp.ask r s z sn ns x (l.getD k (0, 0, 0)).2).j).2.2.1), .int .i64 (((Rp.ask r s z sn ns x (l.getD k (0, 0, 0)).2).j).2.2.2), .pointer (some ⟨q, 0, none⟩)] 133, .blk p #[.int .i64 r, .int .i64 s, .int .i64 b, .int .i64 o, .int .i64 c, .int .i64 y, .int .i64 z, .slice (some ⟨gl, 0, none⟩) sn cl, .slice (some ⟨gd, 0, none⟩) pg cd, .slice (some ⟨gs, 0, none⟩) ns cs, .int .i64 (((Rp.ask r s z sn ns x (l.getD k (0, 0, 0)).2).pu : Nat) : Int), .int .i64 (((Rp.ask r s z sn ns x (l.getD k (0, 0, 0)).2).ru : Nat) : Int)] 118, .row (.slice (some ⟨gl, 0, none⟩) sn cl) 3 1 sn (List.map (Value.int .i64) ((Rp.ask r s z sn ns x (l.getD k (0, 0, 0)).2).L)), .row (.slice (some ⟨gd, 0, none⟩) pg cd) 4 1 pg (List.map Value.bool ((Rp.ask r s z sn ns x (l.getD k (0, 0, 0)).2).D)), .row (.slice (some ⟨gs, 0, none⟩) ns cs) 3 1 ns (List.map (Value.int .i64) ((Rp.ask r s z sn ns x (l.getD k (0, 0, 0)).2).S)), .blk q #[.slice (some ⟨gq, 0, none⟩) 256 cq, .int .i64 (ran1 : Int), .int .i64 (qnn1 : Int)] 170, .row (.slice (some ⟨gq, 0, none⟩) 256 cq) 72 2 256 (List.flatMap entL lsn1), .blk g3 #[.int .i64 ((l.getD k (0, 0, 0)).1), .int .i64 ((l.getD k (0, 0, 0)).2.1), .int .i64 ((l.getD k (0, 0, 0)).2.2)] 74, .blk g1 #[.int .i64 r, .int .i64 s, .int .i64 b, .int .i64 o, .int .i64 c, .int .i64 y, .int .i64 z] 25]) (by kernel_rfl)
    clear H'
    replace hk1 : RgOk lsn1 ran1 qnn1 (Rp.ask r s z sn ns x (l.getD k (0, 0, 0)).2).Q := hk1
    refine x_nil <| x_then <| x_exit <| x_then_exit <| x_blk_exit <| x_then <| x_region ?_
    refine z_ar ((k : Int) + 1) <| x_b H [.m] <| x_nil <| x_then ?_
    replace H := H.pk [1, 2, 3, 4, 5, 6, 7, 9]
    exact ⟨(k + 1, (Rp.ask r s z sn ns x (l.getD k (0, 0, 0)).2), lsn1, ran1, qnn1), (by dsimp only; omega), _, frm_of, H, (by omega), hx1, hk1, (Sinj.ask hL hi)⟩
  have h2p := of_decide_eq_true h2
  refine x_t (by kernel_rfl) <| x_seq <| x_region <| x_b H [.m] <| x_nil <| x_then <| x_retc ?_
  refine x_then_ret <| x_ret (.bool true) (by kernel_rfl) (by kernel_rfl) ?_
  exact ⟨rfl, H.below⟩
end Go.Proofs.Ytpmnnijjohlloaa
