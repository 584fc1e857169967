/- The law RepairPlays, walked. -/
import Derived.Test.YtpmnnijjohlloaaRprJ
import Derived.Test.YtpmnnijjohlloaaRat3
import Derived.Test.YtpmnnijjohlloaaPxZ
namespace Go.Proofs.Ytpmnnijjohlloaa
open Go Go.RowKit
set_option linter.unusedVariables false
set_option linter.unusedSimpArgs false
set_option maxRecDepth 100000 in
set_option maxHeartbeats 4000000 in
theorem rpl21_no (r s b o c y z : Int) (ad : Option Addr) (nA cA : Nat) (hbd : r ≤ 9223372036854775807 ∧ b ≤ 9223372036854775807 ∧ o ≤ 9223372036854775807 ∧ c ≤ 9223372036854775807) (hok : layoutOk r s b o c y z = false) (w0 : World) :
    Calls Try.prog 12 #[.agg #[.int .i64 r, .int .i64 s, .int .i64 b, .int .i64 o, .int .i64 c, .int .i64 y, .int .i64 z], .slice ad nA cA] w0 fun e w' => e = .returned (.bool true) ∧ Below w0.heap.size w0 w' := by
  refine z_enter Try.func12 rfl ?_
  have H := Hs.nil w0
  obtain ⟨hb1, hb2, hb3, hb4⟩ := id hbd
  refine x_seq <| x_region <| z_box H #[.int .i64 r, .int .i64 s, .int .i64 b, .int .i64 o, .int .i64 c, .int .i64 y, .int .i64 z] 25 (fun v1 g1 H => ?_)
  refine x_b H [.m] <| x_nil <| x_then <| x_seq <| x_seq <| x_region <| z_callB H (anchor21 _) fun v2 H => ?_
  refine x_b H [.m] <| x_nil <| x_then <| x_f (by kernel_rfl) <| x_skipc <| x_then <| x_seq ?_
  refine x_seq <| x_region <| x_b H [.n 0 0 7 25] <| z_call (small21_any r s b o c y z (by omega) (by omega) (by omega) (by omega) _) ?_
  rintro _ v3 ⟨tS, rfl, hB⟩
  refine ⟨_, rfl, ?_⟩
  replace H := H.via hB
  clear hB
  refine x_b H [.v (.bool (!tS)), .v (.bool (!tS))] ?_
  cases h1 : tS
  · skip
    refine x_b H [.k, .k, .k, .m] <| x_nil <| x_then <| x_t (by kernel_rfl) <| x_seq <| x_region <| x_b H [.m] ?_
    refine x_nil <| x_then <| x_retc <| x_then_ret <| x_ret (.bool true) (by kernel_rfl) (by kernel_rfl) ?_
    exact ⟨rfl, H.below⟩
  refine x_b H [.m, .m, .v (.bool (decide (40 < (nA : Int)))), .v (.bool (decide (40 < (nA : Int))))] <| x_nil <| x_then ?_
  cases h2 : decide (40 < (nA : Int))
  · skip
    have h2p := of_decide_eq_false h2
    refine x_f (by kernel_rfl) <| x_skipc <| x_then <| x_seq <| x_region <| x_b H [.n 0 0 7 25] <| z_callB H (started_no r s b o c y z hbd hok _) fun v4 H => ?_
    refine x_b H [.m, .m, .m, .m] <| z_box H #[.int .i64 0, .int .i64 0, .int .i64 0, .int .i64 0, .int .i64 0, .int .i64 0, .int .i64 0, .slice none 0 0, .slice none 0 0, .slice none 0 0, .int .i64 0, .int .i64 0, .int .i64 0, .int .i64 0, .int .i64 0, .int .i64 0, .slice none 0 0] 68 (fun v5 g2 H => ?_)
    refine x_b H [.m] <| z_store H 0 0 [.int .i64 0, .int .i64 0, .int .i64 0, .int .i64 0, .int .i64 0, .int .i64 0, .int .i64 0, .slice none 0 0, .slice none 0 0, .slice none 0 0, .int .i64 0, .int .i64 0, .int .i64 0, .int .i64 0, .int .i64 0, .int .i64 0, .slice none 0 0] (fun v6 H => ?_)
    refine x_b H [.m] <| x_nil <| x_then <| x_seq <| x_seq <| x_region <| x_b H [.m, .m] ?_
    refine x_nil <| x_then <| x_t (by kernel_rfl) <| x_seq <| x_region <| x_b H [.m, .m, .m, .n 1 0 7 25] <| z_callB (v := .bool (layoutOk r s b o c y z)) H (lRight_any _ _ _ _ _ _ _ (by omega) (by omega) (by omega) (by omega) _) fun v7 H => ?_
    refine x_b H [.v (.bool (!(layoutOk r s b o c y z))), .v (.bool (!(layoutOk r s b o c y z))), .v (.bool (!(layoutOk r s b o c y z)))] <| x_nil <| x_then <| x_retc <| x_then_ret <| x_ret (.bool (!(layoutOk r s b o c y z))) (by kernel_rfl) (by kernel_rfl) ?_
    exact ⟨by rw [hok]; rfl, H.below⟩
  have h2p := of_decide_eq_true h2
  refine x_t (by kernel_rfl) <| x_seq <| x_region <| x_b H [.m] <| x_nil <| x_then <| x_retc ?_
  refine x_then_ret <| x_ret (.bool true) (by kernel_rfl) (by kernel_rfl) ?_
  exact ⟨rfl, H.below⟩
set_option maxRecDepth 100000 in
set_option maxHeartbeats 4000000 in
theorem rpl21_yes {r s b o c y z : Int} {pg sn ns : Nat} (hL : Lay r s b o c y z pg sn ns) (ad : Option Addr) (nA cA : Nat) (l : List Int3) (w0 : World) (hA : RAt int3L 3 (0, 0, 0) w0 ad nA l) :
    Calls Try.prog 12 #[.agg #[.int .i64 r, .int .i64 s, .int .i64 b, .int .i64 o, .int .i64 c, .int .i64 y, .int .i64 z], .slice ad nA cA] w0 fun e w' => e = .returned (.bool true) ∧ Below w0.heap.size w0 w' := by
  refine z_enter Try.func12 rfl ?_
  have H := Hs.nil w0
  have hok := hL.ok
  obtain ⟨-, r1', r8, s0, s8, b1, b2, o1, o2, c1, c2, y0, y4, z0, z2, hpg, hsn, hns, sn1, pg2, ln0, ln2⟩ := id hL
  refine x_seq <| x_region <| z_box H #[.int .i64 r, .int .i64 s, .int .i64 b, .int .i64 o, .int .i64 c, .int .i64 y, .int .i64 z] 25 (fun v1 g1 H => ?_)
  refine x_b H [.m] <| x_nil <| x_then <| x_seq <| x_seq <| x_region <| z_callB H (anchor21 _) fun v2 H => ?_
  refine x_b H [.m] <| x_nil <| x_then <| x_f (by kernel_rfl) <| x_skipc <| x_then <| x_seq ?_
  refine x_seq <| x_region <| x_b H [.n 0 0 7 25] <| z_call (small21_any r s b o c y z (by omega) (by omega) (by omega) (by omega) _) ?_
  rintro _ v3 ⟨tS, rfl, hB⟩
  refine ⟨_, rfl, ?_⟩
  replace H := H.via hB
  clear hB
  refine x_b H [.v (.bool (!tS)), .v (.bool (!tS))] ?_
  cases h1 : tS
  · skip
    refine x_b H [.k, .k, .k, .m] <| x_nil <| x_then <| x_t (by kernel_rfl) <| x_seq <| x_region <| x_b H [.m] ?_
    refine x_nil <| x_then <| x_retc <| x_then_ret <| x_ret (.bool true) (by kernel_rfl) (by kernel_rfl) ?_
    exact ⟨rfl, H.below⟩
  refine x_b H [.m, .m, .v (.bool (decide (40 < (nA : Int)))), .v (.bool (decide (40 < (nA : Int))))] <| x_nil <| x_then ?_
  cases h2 : decide (40 < (nA : Int))
  · skip
    have h2p := of_decide_eq_false h2
    refine x_f (by kernel_rfl) <| x_skipc <| x_then <| x_seq <| x_region <| x_b H [.n 0 0 7 25] <| z_call (started_yes hL _) ?_
    rintro _ v4 ⟨⟨p, gl, cl, gd, cd, gs, cs⟩, ⟨q, gq, cq⟩, rp, lv, rfl, hN'⟩
    refine ⟨_, rfl, ?_⟩
    replace H := hsCast (H.more hN') (L2 := [.blk rp #[.pointer (some ⟨p, 0, none⟩), .int .i64 (((Rp.new sn pg ns).j).1), .int .i64 (((Rp.new sn pg ns).j).2.1), .int .i64 (((Rp.new sn pg ns).j).2.2.1), .int .i64 (((Rp.new sn pg ns).j).2.2.2), .pointer (some ⟨q, 0, none⟩)] 133, .blk p #[.int .i64 r, .int .i64 s, .int .i64 b, .int .i64 o, .int .i64 c, .int .i64 y, .int .i64 z, .slice (some ⟨gl, 0, none⟩) sn cl, .slice (some ⟨gd, 0, none⟩) pg cd, .slice (some ⟨gs, 0, none⟩) ns cs, .int .i64 (((Rp.new sn pg ns).pu : Nat) : Int), .int .i64 (((Rp.new sn pg ns).ru : Nat) : Int)] 118, .row (.slice (some ⟨gl, 0, none⟩) sn cl) 3 1 sn (List.map (Value.int .i64) ((Rp.new sn pg ns).L)), .row (.slice (some ⟨gd, 0, none⟩) pg cd) 4 1 pg (List.map Value.bool ((Rp.new sn pg ns).D)), .row (.slice (some ⟨gs, 0, none⟩) ns cs) 3 1 ns (List.map (Value.int .i64) ((Rp.new sn pg ns).S)), .blk q #[.slice (some ⟨gq, 0, none⟩) 256 cq, .int .i64 ((0 : Nat) : Int), .int .i64 ((0 : Nat) : Int)] 170, .row (.slice (some ⟨gq, 0, none⟩) 256 cq) 72 2 256 (List.flatMap entL (List.replicate 256 ((0, 0) : Ent))), .row (lv) 3 1 pg (List.map (Value.int .i64) (layL y r b o pg)), .row (D21.new.pv) 156 2 (List.length D21.new.Pg) (List.flatMap entL D21.new.Pg), .row (D21.new.kv) 156 2 (List.length D21.new.Rk) (List.flatMap entL D21.new.Rk), .row (D21.new.fv) 147 2 (List.length D21.new.F) (List.flatMap entL D21.new.F), .blk g1 #[.int .i64 r, .int .i64 s, .int .i64 b, .int .i64 o, .int .i64 c, .int .i64 y, .int .i64 z] 25]) (by kernel_rfl)
    clear hN'
    refine x_b H [.m, .m, .m, .m] <| z_box H #[.int .i64 0, .int .i64 0, .int .i64 0, .int .i64 0, .int .i64 0, .int .i64 0, .int .i64 0, .slice none 0 0, .slice none 0 0, .slice none 0 0, .int .i64 0, .int .i64 0, .int .i64 0, .int .i64 0, .int .i64 0, .int .i64 0, .slice none 0 0] 68 (fun v5 g2 H => ?_)
    refine x_b H [.m] ?_
    have h3o := H.rowOne 8 rfl
    have h4o := H.rowOne 9 rfl
    have h5o := H.rowOne 10 rfl
    refine z_store H 0 0 [.int .i64 r, .int .i64 s, .int .i64 b, .int .i64 o, .int .i64 c, .int .i64 y, .int .i64 z, lv, D21.new.pv, D21.new.kv, .int .i64 (((Rp.new sn pg ns).pu : Nat) : Int), .int .i64 (((Rp.new sn pg ns).ru : Nat) : Int), .int .i64 (((Rp.new sn pg ns).j).1), .int .i64 (((Rp.new sn pg ns).j).2.1), .int .i64 (((Rp.new sn pg ns).j).2.2.1), .int .i64 (((Rp.new sn pg ns).j).2.2.2), .slice D21.new.ad D21.new.n D21.new.c] (fun v6 H => ?_) (h1 := (by simp only [List.all_cons, List.all_nil, h3o, h4o, h5o, Bool.and_true, Bool.true_and] <;> rfl))
    refine x_b H [.m] <| x_nil <| x_then <| x_seq <| x_seq <| x_region <| x_b H [.m, .m] ?_
    refine x_nil <| x_then <| x_f (by kernel_rfl) <| x_skipc <| x_then <| x_seq <| x_seq ?_
    refine x_region <| x_b H [.m, .m, .m] <| x_nil <| x_then <| x_block ?_
    replace H := H.pk [1, 2, 3, 4, 5, 6, 7, 8, 9, 10, 11, 0, 12]
    refine x_loop (G := Nat × Rp × List Ent × Nat × Nat × D21) (fun gh a w' => match gh with | (k, x, ls, ra, qn, g) => ∃ uf1 : Nat → Value, a = frm 57 uf1 [(5, .pointer (some ⟨rp, 0, none⟩)), (6, .pointer (some ⟨g2, 0, none⟩)), (35, .slice ad nA cA), (36, .int .i64 (nA : Int)), (37, .int .i64 (k : Int))] [] ∧ Hs [] w0 w' [.blk rp #[.pointer (some ⟨p, 0, none⟩), .int .i64 x.j.1, .int .i64 x.j.2.1, .int .i64 x.j.2.2.1, .int .i64 x.j.2.2.2, .pointer (some ⟨q, 0, none⟩)] 133, .blk p #[.int .i64 r, .int .i64 s, .int .i64 b, .int .i64 o, .int .i64 c, .int .i64 y, .int .i64 z, .slice (some ⟨gl, 0, none⟩) sn cl, .slice (some ⟨gd, 0, none⟩) pg cd, .slice (some ⟨gs, 0, none⟩) ns cs, .int .i64 ((x.pu : Nat) : Int), .int .i64 ((x.ru : Nat) : Int)] 118, .row (.slice (some ⟨gl, 0, none⟩) sn cl) 3 1 sn (List.map (Value.int .i64) x.L), .row (.slice (some ⟨gd, 0, none⟩) pg cd) 4 1 pg (List.map Value.bool x.D), .row (.slice (some ⟨gs, 0, none⟩) ns cs) 3 1 ns (List.map (Value.int .i64) x.S), .blk q #[.slice (some ⟨gq, 0, none⟩) 256 cq, .int .i64 (ra : Int), .int .i64 (qn : Int)] 170, .row (.slice (some ⟨gq, 0, none⟩) 256 cq) 72 2 256 (List.flatMap entL ls), .row (lv) 3 1 pg (List.map (Value.int .i64) (layL y r b o pg)), .row (g.pv) 156 2 (List.length g.Pg) (List.flatMap entL g.Pg), .row (g.kv) 156 2 (List.length g.Rk) (List.flatMap entL g.Rk), .row (g.fv) 147 2 (List.length g.F) (List.flatMap entL g.F), .blk g2 #[.int .i64 r, .int .i64 s, .int .i64 b, .int .i64 o, .int .i64 c, .int .i64 y, .int .i64 z, lv, g.pv, g.kv, .int .i64 ((x.pu : Nat) : Int), .int .i64 ((x.ru : Nat) : Int), .int .i64 x.j.1, .int .i64 x.j.2.1, .int .i64 x.j.2.2.1, .int .i64 x.j.2.2.2, .slice g.ad g.n g.c] 68, .blk g1 #[.int .i64 r, .int .i64 s, .int .i64 b, .int .i64 o, .int .i64 c, .int .i64 y, .int .i64 z] 25] ∧ (k ≤ nA) ∧ (RpOk r s b o c z sn pg ns x) ∧ (RgOk ls ra qn x.Q) ∧ (D21.Ok pg sn ns x g) ∧ (g.Pg.length ≤ 0 + k) ∧ (g.Rk.length ≤ 0 + k)) (fun gh => match gh with | (k, x, ls, ra, qn, g) => nA - k) (0, (Rp.new sn pg ns), (List.replicate 256 ((0, 0) : Ent)), 0, 0, D21.new) ⟨_, frm_of, H, (Nat.zero_le _), (RpOk.new hL), RgOk.new, (D21.new_ok pg sn ns), (Nat.zero_le _), (Nat.zero_le _)⟩ ?_
    clear H
    rintro ⟨k, x, ls, ra, qn, g⟩ _ v7 ⟨uf1, rfl, H, r1, r2, r3, r4, r5, r6⟩
    have hx := r2
    have hk := r3
    have hg := r4
    refine x_seq <| x_region <| x_b H [.v (.bool (decide ((k : Int) < (nA : Int))))] <| x_nil <| x_then <| x_seq ?_
    cases h6 : decide ((k : Int) < (nA : Int))
    · skip
      have h6p := of_decide_eq_false h6
      refine x_f (by kernel_rfl) <| x_exit <| x_then_exit <| x_then_exit <| x_blk_exit <| x_then <| x_seq ?_
      refine x_region <| x_b H [.m] <| x_nil <| x_then <| x_retc <| x_ret (.bool true) (by kernel_rfl) (by kernel_rfl) ?_
      exact ⟨rfl, H.below⟩
    have h6p := of_decide_eq_true h6
    refine x_t (by kernel_rfl) <| x_skipc <| x_then <| x_seq <| x_block <| x_seq <| x_region ?_
    obtain ⟨ga, oa, had, hcell⟩ := hA (by omega)
    refine x_ixO (t := 62) had k nA cA 74 3 (oa + k * 3) (by omega) (by omega) (by kernel_rfl) (by kernel_rfl) (by kernel_rfl) rfl (by kernel_rfl) <| x_loadcn (t := 74) ga (oa + k * 3) [.int .i64 ((l.getD k (0, 0, 0)).1), .int .i64 ((l.getD k (0, 0, 0)).2.1), .int .i64 ((l.getD k (0, 0, 0)).2.2)] (hcell _ H.below k (by omega)) (by kernel_rfl) rfl (by kernel_rfl) (by kernel_rfl) <| z_box H #[.int .i64 0, .int .i64 0, .int .i64 0] 74 (fun v8 g3 H => ?_)
    refine z_store H 0 0 [.int .i64 ((l.getD k (0, 0, 0)).1), .int .i64 ((l.getD k (0, 0, 0)).2.1), .int .i64 ((l.getD k (0, 0, 0)).2.2)] (fun v9 H => ?_)
    refine x_nil <| x_then <| x_seq <| x_region <| x_b H [.m, .n 12 0 17 68, .n 0 0 3 74] ?_
    have hx1 := hx.mv hL (l.getD k (0, 0, 0))
    refine z_call (H.useEP [1, 2, 3, 4, 5, 6, 7, 8, 9, 10, 11] (fun h => lstep hL hx hk hg (by omega) (by omega) (l.getD k (0, 0, 0)) _ h)) ?_
    rintro _ v10 ⟨⟨gn1, lsn1, ran1, qnn1⟩, rfl, H', hk1, hg1, ep1, er1⟩
    refine ⟨_, rfl, ?_⟩
    clear H
    have H := hsCast H' (L2 := [.blk rp #[.pointer (some ⟨p, 0, none⟩), .int .i64 (((Rp.mv r s z sn pg ns b o c x (l.getD k (0, 0, 0))).j).1), .int .i64 (((Rp.mv r s z sn pg ns b o c x (l.getD k (0, 0, 0))).j).2.1), .int .i64 (((Rp.mv r s z sn pg ns b o c x (l.getD k (0, 0, 0))).j).2.2.1), .int .i64 (((Rp.mv r s z sn pg ns b o c x (l.getD k (0, 0, 0))).j).2.2.2), .pointer (some ⟨q, 0, none⟩)] 133, .blk p #[.int .i64 r, .int .i64 s, .int .i64 b, .int .i64 o, .int .i64 c, .int .i64 y, .int .i64 z, .slice (some ⟨gl, 0, none⟩) sn cl, .slice (some ⟨gd, 0, none⟩) pg cd, .slice (some ⟨gs, 0, none⟩) ns cs, .int .i64 (((Rp.mv r s z sn pg ns b o c x (l.getD k (0, 0, 0))).pu : Nat) : Int), .int .i64 (((Rp.mv r s z sn pg ns b o c x (l.getD k (0, 0, 0))).ru : Nat) : Int)] 118, .row (.slice (some ⟨gl, 0, none⟩) sn cl) 3 1 sn (List.map (Value.int .i64) ((Rp.mv r s z sn pg ns b o c x (l.getD k (0, 0, 0))).L)), .row (.slice (some ⟨gd, 0, none⟩) pg cd) 4 1 pg (List.map Value.bool ((Rp.mv r s z sn pg ns b o c x (l.getD k (0, 0, 0))).D)), .row (.slice (some ⟨gs, 0, none⟩) ns cs) 3 1 ns (List.map (Value.int .i64) ((Rp.mv r s z sn pg ns b o c x (l.getD k (0, 0, 0))).S)), .blk q #[.slice (some ⟨gq, 0, none⟩) 256 cq, .int .i64 (ran1 : Int), .int .i64 (qnn1 : Int)] 170, .row (.slice (some ⟨gq, 0, none⟩) 256 cq) 72 2 256 (List.flatMap entL lsn1), .row (lv) 3 1 pg (List.map (Value.int .i64) (layL y r b o pg)), .row (gn1.pv) 156 2 (List.length gn1.Pg) (List.flatMap entL gn1.Pg), .row (gn1.kv) 156 2 (List.length gn1.Rk) (List.flatMap entL gn1.Rk), .row (gn1.fv) 147 2 (List.length gn1.F) (List.flatMap entL gn1.F), .blk g3 #[.int .i64 ((l.getD k (0, 0, 0)).1), .int .i64 ((l.getD k (0, 0, 0)).2.1), .int .i64 ((l.getD k (0, 0, 0)).2.2)] 74, .blk g2 #[.int .i64 r, .int .i64 s, .int .i64 b, .int .i64 o, .int .i64 c, .int .i64 y, .int .i64 z, lv, g.pv, g.kv, .int .i64 ((x.pu : Nat) : Int), .int .i64 ((x.ru : Nat) : Int), .int .i64 x.j.1, .int .i64 x.j.2.1, .int .i64 x.j.2.2.1, .int .i64 x.j.2.2.2, .slice g.ad g.n g.c] 68, .blk g1 #[.int .i64 r, .int .i64 s, .int .i64 b, .int .i64 o, .int .i64 c, .int .i64 y, .int .i64 z] 25]) (by kernel_rfl)
    clear H'
    replace hk1 : RgOk lsn1 ran1 qnn1 (Rp.mv r s z sn pg ns b o c x (l.getD k (0, 0, 0))).Q := hk1
    replace hg1 : D21.Ok pg sn ns (Rp.mv r s z sn pg ns b o c x (l.getD k (0, 0, 0))) gn1 := hg1
    replace ep1 : gn1.Pg.length ≤ g.Pg.length + 1 := ep1
    replace er1 : gn1.Rk.length ≤ g.Rk.length + 1 := er1
    refine x_b H [.m, .m, .m] ?_
    have h7o := H.rowOne 7 rfl
    have h8o := H.rowOne 8 rfl
    have h9o := H.rowOne 9 rfl
    refine z_store H 12 0 [.int .i64 r, .int .i64 s, .int .i64 b, .int .i64 o, .int .i64 c, .int .i64 y, .int .i64 z, lv, gn1.pv, gn1.kv, .int .i64 (((Rp.mv r s z sn pg ns b o c x (l.getD k (0, 0, 0))).pu : Nat) : Int), .int .i64 (((Rp.mv r s z sn pg ns b o c x (l.getD k (0, 0, 0))).ru : Nat) : Int), .int .i64 (((Rp.mv r s z sn pg ns b o c x (l.getD k (0, 0, 0))).j).1), .int .i64 (((Rp.mv r s z sn pg ns b o c x (l.getD k (0, 0, 0))).j).2.1), .int .i64 (((Rp.mv r s z sn pg ns b o c x (l.getD k (0, 0, 0))).j).2.2.1), .int .i64 (((Rp.mv r s z sn pg ns b o c x (l.getD k (0, 0, 0))).j).2.2.2), .slice gn1.ad gn1.n gn1.c] (fun v11 H => ?_) (h1 := (by simp only [List.all_cons, List.all_nil, h7o, h8o, h9o, Bool.and_true, Bool.true_and] <;> rfl))
    refine x_b H [.m] <| x_nil <| x_then <| x_seq <| x_region <| x_b H [.m, .m, .m, .m, .n 12 0 17 68] <| z_callH (v := .bool true) (H.useI [0, 1, 2, 3, 4, 5, 6, 7, 8, 9, 10] (fun h => repsame hL hx1 hk1 hg1 (by omega) (by omega) _ h)) fun v12 H => ?_
    refine x_b H [.m, .m] <| x_nil <| x_then <| x_f (by kernel_rfl) <| x_skipc <| x_blk <| x_then ?_
    refine x_region <| z_ar ((k : Int) + 1) <| x_b H [.m] <| x_nil <| x_then ?_
    replace H := H.pk [0, 1, 2, 3, 4, 5, 6, 7, 8, 9, 10, 12, 13]
    exact ⟨(k + 1, (Rp.mv r s z sn pg ns b o c x (l.getD k (0, 0, 0))), lsn1, ran1, qnn1, gn1), (by dsimp only; omega), _, frm_of, H, (by omega), hx1, hk1, hg1, (by omega), (by omega)⟩
  have h2p := of_decide_eq_true h2
  refine x_t (by kernel_rfl) <| x_seq <| x_region <| x_b H [.m] <| x_nil <| x_then <| x_retc ?_
  refine x_then_ret <| x_ret (.bool true) (by kernel_rfl) (by kernel_rfl) ?_
  exact ⟨rfl, H.below⟩
end Go.Proofs.Ytpmnnijjohlloaa
