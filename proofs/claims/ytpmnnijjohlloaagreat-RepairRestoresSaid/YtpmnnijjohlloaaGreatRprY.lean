/- The law RepairRestores, walked. -/
import Derived.Test.YtpmnnijjohlloaaGreatRprW
import Derived.Test.YtpmnnijjohlloaaGreatRemapX
import Derived.Test.YtpmnnijjohlloaaGreatRemapY
import Derived.Test.YtpmnnijjohlloaaGreatRemapC
import Derived.Test.YtpmnnijjohlloaaGreatRemapE
import Derived.Test.YtpmnnijjohlloaaGreatRat3
import Derived.Test.YtpmnnijjohlloaaGreatRemapRs
import Derived.Test.YtpmnnijjohlloaaGreatPxZ
namespace Go.Proofs.YtpmnnijjohlloaaGreat
open Go Go.RowKit
set_option linter.unusedVariables false
set_option linter.unusedSimpArgs false
set_option maxRecDepth 100000 in
set_option maxHeartbeats 4000000 in
theorem rrs21_no (r s b o c y z : Int) (ad ae : Option Addr) (nA cA nB cB : Nat) (hbd : r ≤ 9223372036854775807 ∧ b ≤ 9223372036854775807 ∧ o ≤ 9223372036854775807 ∧ c ≤ 9223372036854775807) (hok : layoutOk r s b o c y z = false) (w0 : World) :
    Calls Tryz.prog 3 #[.agg #[.int .i64 r, .int .i64 s, .int .i64 b, .int .i64 o, .int .i64 c, .int .i64 y, .int .i64 z], .slice ad nA cA, .slice ae nB cB] w0 fun e w' => e = .returned (.bool true) ∧ Below w0.heap.size w0 w' := by
  refine z_enter Tryz.func3 rfl ?_
  have H := Hs.nil w0
  obtain ⟨hb1, hb2, hb3, hb4⟩ := id hbd
  refine x_seq <| x_region <| z_box H #[.int .i64 r, .int .i64 s, .int .i64 b, .int .i64 o, .int .i64 c, .int .i64 y, .int .i64 z] 25 (fun v1 g1 H => ?_)
  refine x_b H [.m] <| x_nil <| x_then <| x_seq <| x_seq <| x_region <| z_callB H (anchor21 _) fun v2 H => ?_
  refine x_b H [.m] <| x_nil <| x_then <| x_f (by kernel_rfl) <| x_skipc <| x_then <| x_seq ?_
  refine x_seq <| x_region <| x_b H [.n 0 0 7 25] <| z_call (small21_any r s b o c y z (by omega) (by omega) (by omega) (by omega) _) ?_
  rintro _ v3 ⟨tS, rfl, hB⟩
  refine ⟨_, rfl, ?_⟩
  replace H := H.via hB
  clear hB
  refine x_b H [.v (.bool (!tS)), .v (.bool (!tS))] ?_
  cases h1 : tS
  · skip
    refine x_b H [.k, .k, .k, .m, .m, .k, .k, .k, .m] <| x_nil <| x_then <| x_t (by kernel_rfl) <| x_seq <| x_region <| x_b H [.m] ?_
    refine x_nil <| x_then <| x_retc <| x_then_ret <| x_ret (.bool true) (by kernel_rfl) (by kernel_rfl) ?_
    exact ⟨rfl, H.below⟩
  refine x_b H [.m, .m, .v (.bool (decide (40 < (nA : Int)))), .v (.bool (decide (40 < (nA : Int)))), .v (.bool (decide (40 < (nA : Int))))] ?_
  cases h2 : decide (40 < (nA : Int))
  · skip
    have h2p := of_decide_eq_false h2
    refine x_b H [.m, .m, .v (.bool (decide (40 < (nB : Int)))), .v (.bool (decide (40 < (nB : Int))))] <| x_nil <| x_then ?_
    cases h3 : decide (40 < (nB : Int))
    · skip
      have h3p := of_decide_eq_false h3
      refine x_f (by kernel_rfl) <| x_skipc <| x_then <| x_seq <| x_region <| x_b H [.n 0 0 7 25] <| z_callB H (started_no r s b o c y z hbd hok _) fun v4 H => ?_
      refine x_b H [.m, .m, .m, .m] <| z_box H #[.int .i64 0, .int .i64 0, .int .i64 0, .int .i64 0, .int .i64 0, .int .i64 0, .int .i64 0, .slice none 0 0, .slice none 0 0, .slice none 0 0, .int .i64 0, .int .i64 0, .int .i64 0, .int .i64 0, .int .i64 0, .int .i64 0, .slice none 0 0] 39 (fun v5 g2 H => ?_)
      refine x_b H [.m] <| z_store H 0 0 [.int .i64 0, .int .i64 0, .int .i64 0, .int .i64 0, .int .i64 0, .int .i64 0, .int .i64 0, .slice none 0 0, .slice none 0 0, .slice none 0 0, .int .i64 0, .int .i64 0, .int .i64 0, .int .i64 0, .int .i64 0, .int .i64 0, .slice none 0 0] (fun v6 H => ?_)
      refine x_b H [.m] <| x_nil <| x_then <| x_seq <| x_seq <| x_region <| x_b H [.m, .m] ?_
      refine x_nil <| x_then <| x_t (by kernel_rfl) <| x_seq <| x_region <| x_b H [.n 1 0 7 25, .m] <| z_callB H (Rst_nol r s b o c y z hbd hok .nilFunc _) fun v7 H => ?_
      refine x_b H [.m, .m, .m, .m, .m] <| x_nil <| x_then <| x_seq <| x_region <| x_b H [.m, .m, .m, .m, .m, .m, .m] <| x_nil ?_
      refine z_fr 110 [(6, .bool true)] [] fun uf1 => x_then <| x_retc <| x_then_ret <| x_ret (.bool true) (by kernel_rfl) (by kernel_rfl) ?_
      exact ⟨rfl, H.below⟩
    have h3p := of_decide_eq_true h3
    refine x_t (by kernel_rfl) <| x_seq <| x_region <| x_b H [.m] <| x_nil <| x_then <| x_retc ?_
    refine x_then_ret <| x_ret (.bool true) (by kernel_rfl) (by kernel_rfl) ?_
    exact ⟨rfl, H.below⟩
  have h2p := of_decide_eq_true h2
  refine x_b H [.k, .k, .k, .m] <| x_nil <| x_then <| x_t (by kernel_rfl) <| x_seq <| x_region <| x_b H [.m] ?_
  refine x_nil <| x_then <| x_retc <| x_then_ret <| x_ret (.bool true) (by kernel_rfl) (by kernel_rfl) ?_
  exact ⟨rfl, H.below⟩
set_option maxRecDepth 100000 in
set_option maxHeartbeats 4000000 in
theorem rrs21_yes {r s b o c y z : Int} {pg sn ns : Nat} (hL : Lay r s b o c y z pg sn ns) (ad ae : Option Addr) (nA cA nB cB : Nat) (l l2 : List Int3) (w0 : World) (hA : RAt int3L 3 (0, 0, 0) w0 ad nA l) (hB : RAt int3L 3 (0, 0, 0) w0 ae nB l2) :
    Calls Tryz.prog 3 #[.agg #[.int .i64 r, .int .i64 s, .int .i64 b, .int .i64 o, .int .i64 c, .int .i64 y, .int .i64 z], .slice ad nA cA, .slice ae nB cB] w0 fun e w' => e = .returned (.bool true) ∧ Below w0.heap.size w0 w' := by
  refine z_enter Tryz.func3 rfl ?_
  have H := Hs.nil w0
  have hok := hL.ok
  obtain ⟨-, r1', r8, s0, s8, b1, b2, o1, o2, c1, c2, y0, y4, z0, z2, hpg, hsn, hns, sn1, pg2, ln0, ln2⟩ := id hL
  refine x_seq <| x_region <| z_box H #[.int .i64 r, .int .i64 s, .int .i64 b, .int .i64 o, .int .i64 c, .int .i64 y, .int .i64 z] 25 (fun v1 g1 H => ?_)
  refine x_b H [.m] <| x_nil <| x_then <| x_seq <| x_seq <| x_region <| z_callB H (anchor21 _) fun v2 H => ?_
  refine x_b H [.m] <| x_nil <| x_then <| x_f (by kernel_rfl) <| x_skipc <| x_then <| x_seq ?_
  refine x_seq <| x_region <| x_b H [.n 0 0 7 25] <| z_call (small21_any r s b o c y z (by omega) (by omega) (by omega) (by omega) _) ?_
  rintro _ v3 ⟨tS, rfl, hB⟩
  refine ⟨_, rfl, ?_⟩
  replace H := H.via hB
  clear hB
  refine x_b H [.v (.bool (!tS)), .v (.bool (!tS))] ?_
  cases h1 : tS
  · skip
    refine x_b H [.k, .k, .k, .m, .m, .k, .k, .k, .m] <| x_nil <| x_then <| x_t (by kernel_rfl) <| x_seq <| x_region <| x_b H [.m] ?_
    refine x_nil <| x_then <| x_retc <| x_then_ret <| x_ret (.bool true) (by kernel_rfl) (by kernel_rfl) ?_
    exact ⟨rfl, H.below⟩
  refine x_b H [.m, .m, .v (.bool (decide (40 < (nA : Int)))), .v (.bool (decide (40 < (nA : Int)))), .v (.bool (decide (40 < (nA : Int))))] ?_
  cases h2 : decide (40 < (nA : Int))
  · skip
    have h2p := of_decide_eq_false h2
    refine x_b H [.m, .m, .v (.bool (decide (40 < (nB : Int)))), .v (.bool (decide (40 < (nB : Int))))] <| x_nil <| x_then ?_
    cases h3 : decide (40 < (nB : Int))
    · skip
      have h3p := of_decide_eq_false h3
      refine x_f (by kernel_rfl) <| x_skipc <| x_then <| x_seq <| x_region <| x_b H [.n 0 0 7 25] <| z_call (started_yes hL _) ?_
      rintro _ v4 ⟨⟨p, gl, cl, gd, cd, gs, cs⟩, ⟨q, gq, cq⟩, rp, lv, rfl, hN'⟩
      refine ⟨_, rfl, ?_⟩
      replace H := hsCast (H.more hN') (L2 := [.blk rp #[.pointer (some ⟨p, 0, none⟩), .int .i64 (((Rp.new sn pg ns).j).1), .int .i64 (((Rp.new sn pg ns).j).2.1), .int .i64 (((Rp.new sn pg ns).j).2.2.1), .int .i64 (((Rp.new sn pg ns).j).2.2.2), .pointer (some ⟨q, 0, none⟩)] 74, .blk p #[.int .i64 r, .int .i64 s, .int .i64 b, .int .i64 o, .int .i64 c, .int .i64 y, .int .i64 z, .slice (some ⟨gl, 0, none⟩) sn cl, .slice (some ⟨gd, 0, none⟩) pg cd, .slice (some ⟨gs, 0, none⟩) ns cs, .int .i64 (((Rp.new sn pg ns).pu : Nat) : Int), .int .i64 (((Rp.new sn pg ns).ru : Nat) : Int)] 109, .row (.slice (some ⟨gl, 0, none⟩) sn cl) 3 1 sn (List.map (Value.int .i64) ((Rp.new sn pg ns).L)), .row (.slice (some ⟨gd, 0, none⟩) pg cd) 4 1 pg (List.map Value.bool ((Rp.new sn pg ns).D)), .row (.slice (some ⟨gs, 0, none⟩) ns cs) 3 1 ns (List.map (Value.int .i64) ((Rp.new sn pg ns).S)), .blk q #[.slice (some ⟨gq, 0, none⟩) 256 cq, .int .i64 ((0 : Nat) : Int), .int .i64 ((0 : Nat) : Int)] 123, .row (.slice (some ⟨gq, 0, none⟩) 256 cq) 52 2 256 (List.flatMap entL (List.replicate 256 ((0, 0) : Ent))), .row (lv) 3 1 pg (List.map (Value.int .i64) (layL y r b o pg)), .row (D21.new.pv) 142 2 (List.length D21.new.Pg) (List.flatMap entL D21.new.Pg), .row (D21.new.kv) 142 2 (List.length D21.new.Rk) (List.flatMap entL D21.new.Rk), .row (D21.new.fv) 80 2 (List.length D21.new.F) (List.flatMap entL D21.new.F), .blk g1 #[.int .i64 r, .int .i64 s, .int .i64 b, .int .i64 o, .int .i64 c, .int .i64 y, .int .i64 z] 25]) (by kernel_rfl)
      clear hN'
      refine x_b H [.m, .m, .m, .m] <| z_box H #[.int .i64 0, .int .i64 0, .int .i64 0, .int .i64 0, .int .i64 0, .int .i64 0, .int .i64 0, .slice none 0 0, .slice none 0 0, .slice none 0 0, .int .i64 0, .int .i64 0, .int .i64 0, .int .i64 0, .int .i64 0, .int .i64 0, .slice none 0 0] 39 (fun v5 g2 H => ?_)
      refine x_b H [.m] ?_
      have h4o := H.rowOne 8 rfl
      have h5o := H.rowOne 9 rfl
      have h6o := H.rowOne 10 rfl
      refine z_store H 0 0 [.int .i64 r, .int .i64 s, .int .i64 b, .int .i64 o, .int .i64 c, .int .i64 y, .int .i64 z, lv, D21.new.pv, D21.new.kv, .int .i64 (((Rp.new sn pg ns).pu : Nat) : Int), .int .i64 (((Rp.new sn pg ns).ru : Nat) : Int), .int .i64 (((Rp.new sn pg ns).j).1), .int .i64 (((Rp.new sn pg ns).j).2.1), .int .i64 (((Rp.new sn pg ns).j).2.2.1), .int .i64 (((Rp.new sn pg ns).j).2.2.2), .slice D21.new.ad D21.new.n D21.new.c] (fun v6 H => ?_) (h1 := (by simp only [List.all_cons, List.all_nil, h4o, h5o, h6o, Bool.and_true, Bool.true_and] <;> rfl))
      refine x_b H [.m] <| x_nil <| x_then <| x_seq <| x_seq <| x_region <| x_b H [.m, .m] ?_
      refine x_nil <| x_then <| x_f (by kernel_rfl) <| x_skipc <| x_then <| x_seq <| x_seq ?_
      refine x_region <| x_b H [.m, .m, .m] <| x_nil <| x_then <| x_block ?_
      replace H := H.pk [1, 2, 3, 4, 5, 6, 7, 8, 9, 10, 11, 0, 12]
      refine x_loop (G := Nat × Rp × List Ent × Nat × Nat × D21) (fun gh a w' => match gh with | (k, x, ls, ra, qn, g) => ∃ uf1 : Nat → Value, a = frm 110 uf1 [(2, .slice ae nB cB), (3, .pointer (some ⟨g1, 0, none⟩)), (7, .pointer (some ⟨rp, 0, none⟩)), (8, .pointer (some ⟨g2, 0, none⟩)), (53, .slice ad nA cA), (54, .int .i64 (nA : Int)), (55, .int .i64 (k : Int))] [] ∧ Hs [] w0 w' [.blk rp #[.pointer (some ⟨p, 0, none⟩), .int .i64 x.j.1, .int .i64 x.j.2.1, .int .i64 x.j.2.2.1, .int .i64 x.j.2.2.2, .pointer (some ⟨q, 0, none⟩)] 74, .blk p #[.int .i64 r, .int .i64 s, .int .i64 b, .int .i64 o, .int .i64 c, .int .i64 y, .int .i64 z, .slice (some ⟨gl, 0, none⟩) sn cl, .slice (some ⟨gd, 0, none⟩) pg cd, .slice (some ⟨gs, 0, none⟩) ns cs, .int .i64 ((x.pu : Nat) : Int), .int .i64 ((x.ru : Nat) : Int)] 109, .row (.slice (some ⟨gl, 0, none⟩) sn cl) 3 1 sn (List.map (Value.int .i64) x.L), .row (.slice (some ⟨gd, 0, none⟩) pg cd) 4 1 pg (List.map Value.bool x.D), .row (.slice (some ⟨gs, 0, none⟩) ns cs) 3 1 ns (List.map (Value.int .i64) x.S), .blk q #[.slice (some ⟨gq, 0, none⟩) 256 cq, .int .i64 (ra : Int), .int .i64 (qn : Int)] 123, .row (.slice (some ⟨gq, 0, none⟩) 256 cq) 52 2 256 (List.flatMap entL ls), .row (lv) 3 1 pg (List.map (Value.int .i64) (layL y r b o pg)), .row (g.pv) 142 2 (List.length g.Pg) (List.flatMap entL g.Pg), .row (g.kv) 142 2 (List.length g.Rk) (List.flatMap entL g.Rk), .row (g.fv) 80 2 (List.length g.F) (List.flatMap entL g.F), .blk g2 #[.int .i64 r, .int .i64 s, .int .i64 b, .int .i64 o, .int .i64 c, .int .i64 y, .int .i64 z, lv, g.pv, g.kv, .int .i64 ((x.pu : Nat) : Int), .int .i64 ((x.ru : Nat) : Int), .int .i64 x.j.1, .int .i64 x.j.2.1, .int .i64 x.j.2.2.1, .int .i64 x.j.2.2.2, .slice g.ad g.n g.c] 39, .blk g1 #[.int .i64 r, .int .i64 s, .int .i64 b, .int .i64 o, .int .i64 c, .int .i64 y, .int .i64 z] 25] ∧ (k ≤ nA) ∧ (RpOk r s b o c z sn pg ns x) ∧ (RgOk ls ra qn x.Q) ∧ (D21.Ok pg sn ns x g) ∧ (g.Pg.length ≤ 0 + k) ∧ (g.Rk.length ≤ 0 + k) ∧ (x.Q.Nodup)) (fun gh => match gh with | (k, x, ls, ra, qn, g) => nA - k) (0, (Rp.new sn pg ns), (List.replicate 256 ((0, 0) : Ent)), 0, 0, D21.new) ⟨_, frm_of, H, (Nat.zero_le _), (RpOk.new hL), RgOk.new, (D21.new_ok pg sn ns), (Nat.zero_le _), (Nat.zero_le _), List.nodup_nil⟩ ?_
      clear H
      rintro ⟨k, x, ls, ra, qn, g⟩ _ v7 ⟨uf1, rfl, H, r1, r2, r3, r4, r5, r6, r7⟩
      have hx := r2
      have hk := r3
      have hg := r4
      have hQ := r7
      refine x_seq <| x_region <| x_b H [.v (.bool (decide ((k : Int) < (nA : Int))))] <| x_nil <| x_then <| x_seq ?_
      cases h7 : decide ((k : Int) < (nA : Int))
      · skip
        have h7p := of_decide_eq_false h7
        refine x_f (by kernel_rfl) <| x_exit <| x_then_exit <| x_then_exit <| x_blk_exit <| x_then <| x_seq ?_
        refine z_region_s H 9 [0, 1, 2, 3, 4, 5, 6, 7, 8, 9, 10, 11, 12] <| s_b [(0, .n 12 0 7 25), (1, .m)] 7 <| s_one 2 rfl (by kernel_rfl) rfl ?_
        clear H
        intro v8 H
        refine z_call (H.useEI [0, 1, 2, 3, 4, 5, 6] (fun h => State21 hL hx hk _ h)) ?_
        rintro _ v9 ⟨⟨zaa, zab, zac, zad⟩, rfl, H'⟩
        refine ⟨_, rfl, ?_⟩
        clear H
        have H := hsCast H' (L2 := [.blk rp #[.pointer (some ⟨p, 0, none⟩), .int .i64 x.j.1, .int .i64 x.j.2.1, .int .i64 x.j.2.2.1, .int .i64 x.j.2.2.2, .pointer (some ⟨q, 0, none⟩)] 74, .blk p #[.int .i64 r, .int .i64 s, .int .i64 b, .int .i64 o, .int .i64 c, .int .i64 y, .int .i64 z, .slice (some ⟨gl, 0, none⟩) sn cl, .slice (some ⟨gd, 0, none⟩) pg cd, .slice (some ⟨gs, 0, none⟩) ns cs, .int .i64 ((x.pu : Nat) : Int), .int .i64 ((x.ru : Nat) : Int)] 109, .row (.slice (some ⟨gl, 0, none⟩) sn cl) 3 1 sn (List.map (Value.int .i64) x.L), .row (.slice (some ⟨gd, 0, none⟩) pg cd) 4 1 pg (List.map Value.bool x.D), .row (.slice (some ⟨gs, 0, none⟩) ns cs) 3 1 ns (List.map (Value.int .i64) x.S), .blk q #[.slice (some ⟨gq, 0, none⟩) 256 cq, .int .i64 (ra : Int), .int .i64 (qn : Int)] 123, .row (.slice (some ⟨gq, 0, none⟩) 256 cq) 52 2 256 (List.flatMap entL ls), .row (zaa) 3 1 sn (List.map (Value.int .i64) x.L), .row (zab) 3 1 (List.length (deadL x.D pg)) (List.map (Value.int .i64) (deadL x.D pg)), .row (zac) 3 1 (List.length (spL x.S)) (List.map (Value.int .i64) (spL x.S)), .row (zad) 52 2 (List.length x.Q) (List.flatMap entL x.Q), .row (lv) 3 1 pg (List.map (Value.int .i64) (layL y r b o pg)), .row (g.pv) 142 2 (List.length g.Pg) (List.flatMap entL g.Pg), .row (g.kv) 142 2 (List.length g.Rk) (List.flatMap entL g.Rk), .row (g.fv) 80 2 (List.length g.F) (List.flatMap entL g.F), .blk g2 #[.int .i64 r, .int .i64 s, .int .i64 b, .int .i64 o, .int .i64 c, .int .i64 y, .int .i64 z, lv, g.pv, g.kv, .int .i64 ((x.pu : Nat) : Int), .int .i64 ((x.ru : Nat) : Int), .int .i64 x.j.1, .int .i64 x.j.2.1, .int .i64 x.j.2.2.1, .int .i64 x.j.2.2.2, .slice g.ad g.n g.c] 39, .blk g1 #[.int .i64 r, .int .i64 s, .int .i64 b, .int .i64 o, .int .i64 c, .int .i64 y, .int .i64 z] 25]) (by kernel_rfl)
        clear H'
        refine x_nil <| x_then <| z_next H [0, 1, 2, 3, 4, 5, 6, 11, 12, 13, 14, 15, 16] [0, 1, 2, 3, 4, 5, 6, 7, 8, 9, 10, 11, 12] rfl <| s_one 3 rfl (by kernel_rfl) rfl ?_
        clear H
        intro v10 H
        have hm := hx.v.m
        obtain ⟨⟨jb1, jb2⟩, ⟨jb3, jb4⟩, ⟨jb5, jb6⟩, ⟨jb7, jb8⟩⟩ := hx.job_bd hL
        have esp1 : (List.length (spL x.S)) = ns := by unfold spL; rw [List.length_map]; exact hx.v.m.hS
        rw [esp1] at H
        replace H := hsCast H (L2 := [.blk rp #[.pointer (some ⟨p, 0, none⟩), .int .i64 x.j.1, .int .i64 x.j.2.1, .int .i64 x.j.2.2.1, .int .i64 x.j.2.2.2, .pointer (some ⟨q, 0, none⟩)] 74, .blk p #[.int .i64 r, .int .i64 s, .int .i64 b, .int .i64 o, .int .i64 c, .int .i64 y, .int .i64 z, .slice (some ⟨gl, 0, none⟩) sn cl, .slice (some ⟨gd, 0, none⟩) pg cd, .slice (some ⟨gs, 0, none⟩) ns cs, .int .i64 ((x.pu : Nat) : Int), .int .i64 ((x.ru : Nat) : Int)] 109, .row (.slice (some ⟨gl, 0, none⟩) sn cl) 3 1 sn (List.map (Value.int .i64) x.L), .row (.slice (some ⟨gd, 0, none⟩) pg cd) 4 1 pg (List.map Value.bool x.D), .row (.slice (some ⟨gs, 0, none⟩) ns cs) 3 1 ns (List.map (Value.int .i64) x.S), .blk q #[.slice (some ⟨gq, 0, none⟩) 256 cq, .int .i64 (ra : Int), .int .i64 (qn : Int)] 123, .row (.slice (some ⟨gq, 0, none⟩) 256 cq) 52 2 256 (List.flatMap entL ls), .row (zaa) 3 1 sn (List.map (Value.int .i64) x.L), .row (zab) 3 1 (List.length (deadL x.D pg)) (List.map (Value.int .i64) (deadL x.D pg)), .row (zac) 3 1 ns (List.map (Value.int .i64) (spL x.S)), .row (zad) 52 2 (List.length x.Q) (List.flatMap entL x.Q), .row (lv) 3 1 pg (List.map (Value.int .i64) (layL y r b o pg)), .row (g.pv) 142 2 (List.length g.Pg) (List.flatMap entL g.Pg), .row (g.kv) 142 2 (List.length g.Rk) (List.flatMap entL g.Rk), .row (g.fv) 80 2 (List.length g.F) (List.flatMap entL g.F), .blk g2 #[.int .i64 r, .int .i64 s, .int .i64 b, .int .i64 o, .int .i64 c, .int .i64 y, .int .i64 z, lv, g.pv, g.kv, .int .i64 ((x.pu : Nat) : Int), .int .i64 ((x.ru : Nat) : Int), .int .i64 x.j.1, .int .i64 x.j.2.1, .int .i64 x.j.2.2.1, .int .i64 x.j.2.2.2, .slice g.ad g.n g.c] 39, .blk g1 #[.int .i64 r, .int .i64 s, .int .i64 b, .int .i64 o, .int .i64 c, .int .i64 y, .int .i64 z] 25]) (by kernel_rfl)
        obtain ⟨aL1, cL1, e_aL1, hIL1⟩ := intsRow (H.ok 7 _ rfl : World.ownsRow _ 0 _ 1 _ _ _)
        subst e_aL1
        obtain ⟨aD1, cD1, e_aD1, hID1⟩ := intsRow (H.ok 8 _ rfl : World.ownsRow _ 0 _ 1 _ _ _)
        subst e_aD1
        obtain ⟨aS1, cS1, e_aS1, hIS1⟩ := intsRow (H.ok 9 _ rfl : World.ownsRow _ 0 _ 1 _ _ _)
        subst e_aS1
        obtain ⟨aQ1, cQ1, e_aQ1, hAQ1⟩ := RAt.ofRow (f := entL) (d := ((0, 0) : Ent)) entLen (H.ok 10 _ rfl : World.ownsRow _ 0 _ 2 _ _ _) rfl
        subst e_aQ1
        refine z_call (Rst_yes hL hx.v hx.liv x.j (by omega) aL1 aD1 aS1 aQ1 cL1 cD1 cS1 (List.length x.Q) cQ1 (hx.fit hL) _ hIL1 hID1 hIS1 x.Q rfl hAQ1 (Nat.le_trans hx.ql (by decide)) ⟨hQ, hx.ql⟩) ?_
        rintro _ v11 ⟨⟨p2, gl2, cl2, gd2, cd2, gs2, cs2⟩, ⟨q2, gq2, cq2⟩, rp2, ⟨lsr2, rar2, qnr2⟩, rfl, hN', hkr2⟩
        refine ⟨_, rfl, ?_⟩
        replace H := hsCast (H.more hN') (L2 := [.blk rp2 #[.pointer (some ⟨p2, 0, none⟩), .int .i64 x.j.1, .int .i64 x.j.2.1, .int .i64 x.j.2.2.1, .int .i64 x.j.2.2.2, .pointer (some ⟨q2, 0, none⟩)] 74, .blk p2 #[.int .i64 r, .int .i64 s, .int .i64 b, .int .i64 o, .int .i64 c, .int .i64 y, .int .i64 z, .slice (some ⟨gl2, 0, none⟩) sn cl2, .slice (some ⟨gd2, 0, none⟩) pg cd2, .slice (some ⟨gs2, 0, none⟩) ns cs2, .int .i64 ((x.pu : Nat) : Int), .int .i64 ((x.ru : Nat) : Int)] 109, .row (.slice (some ⟨gl2, 0, none⟩) sn cl2) 3 1 sn (List.map (Value.int .i64) x.L), .row (.slice (some ⟨gd2, 0, none⟩) pg cd2) 4 1 pg (List.map Value.bool x.D), .row (.slice (some ⟨gs2, 0, none⟩) ns cs2) 3 1 ns (List.map (Value.int .i64) x.S), .blk q2 #[.slice (some ⟨gq2, 0, none⟩) 256 cq2, .int .i64 (rar2 : Int), .int .i64 (qnr2 : Int)] 123, .row (.slice (some ⟨gq2, 0, none⟩) 256 cq2) 52 2 256 (List.flatMap entL lsr2), .blk rp #[.pointer (some ⟨p, 0, none⟩), .int .i64 x.j.1, .int .i64 x.j.2.1, .int .i64 x.j.2.2.1, .int .i64 x.j.2.2.2, .pointer (some ⟨q, 0, none⟩)] 74, .blk p #[.int .i64 r, .int .i64 s, .int .i64 b, .int .i64 o, .int .i64 c, .int .i64 y, .int .i64 z, .slice (some ⟨gl, 0, none⟩) sn cl, .slice (some ⟨gd, 0, none⟩) pg cd, .slice (some ⟨gs, 0, none⟩) ns cs, .int .i64 ((x.pu : Nat) : Int), .int .i64 ((x.ru : Nat) : Int)] 109, .row (.slice (some ⟨gl, 0, none⟩) sn cl) 3 1 sn (List.map (Value.int .i64) x.L), .row (.slice (some ⟨gd, 0, none⟩) pg cd) 4 1 pg (List.map Value.bool x.D), .row (.slice (some ⟨gs, 0, none⟩) ns cs) 3 1 ns (List.map (Value.int .i64) x.S), .blk q #[.slice (some ⟨gq, 0, none⟩) 256 cq, .int .i64 (ra : Int), .int .i64 (qn : Int)] 123, .row (.slice (some ⟨gq, 0, none⟩) 256 cq) 52 2 256 (List.flatMap entL ls), .row (.slice aL1 sn cL1) 3 1 sn (List.map (Value.int .i64) x.L), .row (.slice aD1 (List.length (deadL x.D pg)) cD1) 3 1 (List.length (deadL x.D pg)) (List.map (Value.int .i64) (deadL x.D pg)), .row (.slice aS1 ns cS1) 3 1 ns (List.map (Value.int .i64) (spL x.S)), .row (.slice aQ1 (List.length x.Q) cQ1) 52 2 (List.length x.Q) (List.flatMap entL x.Q), .row (lv) 3 1 pg (List.map (Value.int .i64) (layL y r b o pg)), .row (g.pv) 142 2 (List.length g.Pg) (List.flatMap entL g.Pg), .row (g.kv) 142 2 (List.length g.Rk) (List.flatMap entL g.Rk), .row (g.fv) 80 2 (List.length g.F) (List.flatMap entL g.F), .blk g2 #[.int .i64 r, .int .i64 s, .int .i64 b, .int .i64 o, .int .i64 c, .int .i64 y, .int .i64 z, lv, g.pv, g.kv, .int .i64 ((x.pu : Nat) : Int), .int .i64 ((x.ru : Nat) : Int), .int .i64 x.j.1, .int .i64 x.j.2.1, .int .i64 x.j.2.2.1, .int .i64 x.j.2.2.2, .slice g.ad g.n g.c] 39, .blk g1 #[.int .i64 r, .int .i64 s, .int .i64 b, .int .i64 o, .int .i64 c, .int .i64 y, .int .i64 z] 25]) (by kernel_rfl)
        clear hN'
        replace hkr2 : RgOk lsr2 rar2 qnr2 x.Q := hkr2
        refine x_nil <| x_then <| z_next H [0, 1, 2, 3, 4, 5, 6, 7, 8, 9, 10, 11, 12, 13, 14, 15, 16, 17, 18, 19, 20, 21, 22, 23] [7, 8, 9, 10, 11, 12, 13, 18, 19, 20, 21, 22, 23] rfl <| s_b [(4, .m), (5, .m), (6, .m), (7, .m), (8, .m)] 0 <| s_done (by kernel_rfl) ?_
        clear H
        intro v12 H
        refine x_then <| x_seq <| x_seq <| x_region <| x_b H [.m, .m, .m, .m, .m, .m, .m, .m, .n 22 0 17 39] <| z_callH (v := .bool true) (H.useI [0, 1, 2, 3, 4, 5, 6, 18, 19, 20, 21] (fun h => repsame hL hx hkr2 hg (by omega) (by omega) _ h)) fun v13 H => x_b H [.m, .m] ?_
        refine x_nil <| x_then <| x_f (by kernel_rfl) <| x_skipc <| x_then <| x_seq <| x_seq ?_
        refine x_region <| x_b H [.m, .m, .m] <| x_nil <| x_then <| x_block ?_
        replace H := H.pk [0, 1, 2, 3, 4, 5, 6, 7, 8, 9, 10, 22, 23]
        refine x_loop (G := Nat × Rp × List Ent × Nat × Nat × D21) (fun gh a w' => match gh with | (k2, x2, ls2, ra2, qn2, gdd) => ∃ uf2 : Nat → Value, a = frm 110 uf2 [(8, .pointer (some ⟨g2, 0, none⟩)), (14, .pointer (some ⟨rp2, 0, none⟩)), (88, .slice ae nB cB), (89, .int .i64 (nB : Int)), (90, .int .i64 (k2 : Int))] [] ∧ Hs [] w0 w' [.blk rp2 #[.pointer (some ⟨p2, 0, none⟩), .int .i64 x2.j.1, .int .i64 x2.j.2.1, .int .i64 x2.j.2.2.1, .int .i64 x2.j.2.2.2, .pointer (some ⟨q2, 0, none⟩)] 74, .blk p2 #[.int .i64 r, .int .i64 s, .int .i64 b, .int .i64 o, .int .i64 c, .int .i64 y, .int .i64 z, .slice (some ⟨gl2, 0, none⟩) sn cl2, .slice (some ⟨gd2, 0, none⟩) pg cd2, .slice (some ⟨gs2, 0, none⟩) ns cs2, .int .i64 ((x2.pu : Nat) : Int), .int .i64 ((x2.ru : Nat) : Int)] 109, .row (.slice (some ⟨gl2, 0, none⟩) sn cl2) 3 1 sn (List.map (Value.int .i64) x2.L), .row (.slice (some ⟨gd2, 0, none⟩) pg cd2) 4 1 pg (List.map Value.bool x2.D), .row (.slice (some ⟨gs2, 0, none⟩) ns cs2) 3 1 ns (List.map (Value.int .i64) x2.S), .blk q2 #[.slice (some ⟨gq2, 0, none⟩) 256 cq2, .int .i64 (ra2 : Int), .int .i64 (qn2 : Int)] 123, .row (.slice (some ⟨gq2, 0, none⟩) 256 cq2) 52 2 256 (List.flatMap entL ls2), .row (lv) 3 1 pg (List.map (Value.int .i64) (layL y r b o pg)), .row (gdd.pv) 142 2 (List.length gdd.Pg) (List.flatMap entL gdd.Pg), .row (gdd.kv) 142 2 (List.length gdd.Rk) (List.flatMap entL gdd.Rk), .row (gdd.fv) 80 2 (List.length gdd.F) (List.flatMap entL gdd.F), .blk g2 #[.int .i64 r, .int .i64 s, .int .i64 b, .int .i64 o, .int .i64 c, .int .i64 y, .int .i64 z, lv, gdd.pv, gdd.kv, .int .i64 ((x2.pu : Nat) : Int), .int .i64 ((x2.ru : Nat) : Int), .int .i64 x2.j.1, .int .i64 x2.j.2.1, .int .i64 x2.j.2.2.1, .int .i64 x2.j.2.2.2, .slice gdd.ad gdd.n gdd.c] 39, .blk g1 #[.int .i64 r, .int .i64 s, .int .i64 b, .int .i64 o, .int .i64 c, .int .i64 y, .int .i64 z] 25] ∧ (k2 ≤ nB) ∧ (RpOk r s b o c z sn pg ns x2) ∧ (RgOk ls2 ra2 qn2 x2.Q) ∧ (D21.Ok pg sn ns x2 gdd) ∧ (gdd.Pg.length ≤ 40 + k2) ∧ (gdd.Rk.length ≤ 40 + k2)) (fun gh => match gh with | (k2, x2, ls2, ra2, qn2, gdd) => nB - k2) (0, x, lsr2, rar2, qnr2, g) ⟨_, frm_of, H, (Nat.zero_le _), hx, hkr2, hg, (by omega), (by omega)⟩ ?_
        clear H
        rintro ⟨k2, x2, ls2, ra2, qn2, gdd⟩ _ v14 ⟨uf2, rfl, H, r1, r2, r3, r4, r5, r6⟩
        have hx2 := r2
        have hk2 := r3
        have hg2 := r4
        refine x_seq <| x_region <| x_b H [.v (.bool (decide ((k2 : Int) < (nB : Int))))] <| x_nil <| x_then <| x_seq ?_
        cases h8 : decide ((k2 : Int) < (nB : Int))
        · skip
          have h8p := of_decide_eq_false h8
          refine x_f (by kernel_rfl) <| x_exit <| x_then_exit <| x_then_exit <| x_blk_exit <| x_then <| x_seq ?_
          refine x_region <| x_b H [.m] <| x_nil <| x_then <| x_retc <| x_ret (.bool true) (by kernel_rfl) (by kernel_rfl) ?_
          exact ⟨rfl, H.below⟩
        have h8p := of_decide_eq_true h8
        refine x_t (by kernel_rfl) <| x_skipc <| x_then <| x_seq <| x_block <| x_seq <| x_region ?_
        obtain ⟨ge, oe, hae, hcelb⟩ := hB (by omega)
        refine x_ixO (t := 26) hae k2 nB cB 54 3 (oe + k2 * 3) (by omega) (by omega) (by kernel_rfl) (by kernel_rfl) (by kernel_rfl) rfl (by kernel_rfl) <| x_loadcn (t := 54) ge (oe + k2 * 3) [.int .i64 ((l2.getD k2 (0, 0, 0)).1), .int .i64 ((l2.getD k2 (0, 0, 0)).2.1), .int .i64 ((l2.getD k2 (0, 0, 0)).2.2)] (hcelb _ H.below k2 (by omega)) (by kernel_rfl) rfl (by kernel_rfl) (by kernel_rfl) <| z_box H #[.int .i64 0, .int .i64 0, .int .i64 0] 54 (fun v15 g3 H => ?_)
        refine z_store H 0 0 [.int .i64 ((l2.getD k2 (0, 0, 0)).1), .int .i64 ((l2.getD k2 (0, 0, 0)).2.1), .int .i64 ((l2.getD k2 (0, 0, 0)).2.2)] (fun v16 H => ?_)
        refine x_nil <| x_then <| x_seq <| x_region <| x_b H [.m, .n 12 0 17 39, .n 0 0 3 54] ?_
        have hx1 := hx2.mv hL (l2.getD k2 (0, 0, 0))
        refine z_call (H.useEP [1, 2, 3, 4, 5, 6, 7, 8, 9, 10, 11] (fun h => lstep hL hx2 hk2 hg2 (by omega) (by omega) (l2.getD k2 (0, 0, 0)) _ h)) ?_
        rintro _ v17 ⟨⟨gn1, lsn1, ran1, qnn1⟩, rfl, H', hk1, hg1, ep1, er1⟩
        refine ⟨_, rfl, ?_⟩
        clear H
        have H := hsCast H' (L2 := [.blk rp2 #[.pointer (some ⟨p2, 0, none⟩), .int .i64 (((Rp.mv r s z sn pg ns b o c x2 (l2.getD k2 (0, 0, 0))).j).1), .int .i64 (((Rp.mv r s z sn pg ns b o c x2 (l2.getD k2 (0, 0, 0))).j).2.1), .int .i64 (((Rp.mv r s z sn pg ns b o c x2 (l2.getD k2 (0, 0, 0))).j).2.2.1), .int .i64 (((Rp.mv r s z sn pg ns b o c x2 (l2.getD k2 (0, 0, 0))).j).2.2.2), .pointer (some ⟨q2, 0, none⟩)] 74, .blk p2 #[.int .i64 r, .int .i64 s, .int .i64 b, .int .i64 o, .int .i64 c, .int .i64 y, .int .i64 z, .slice (some ⟨gl2, 0, none⟩) sn cl2, .slice (some ⟨gd2, 0, none⟩) pg cd2, .slice (some ⟨gs2, 0, none⟩) ns cs2, .int .i64 (((Rp.mv r s z sn pg ns b o c x2 (l2.getD k2 (0, 0, 0))).pu : Nat) : Int), .int .i64 (((Rp.mv r s z sn pg ns b o c x2 (l2.getD k2 (0, 0, 0))).ru : Nat) : Int)] 109, .row (.slice (some ⟨gl2, 0, none⟩) sn cl2) 3 1 sn (List.map (Value.int .i64) ((Rp.mv r s z sn pg ns b o c x2 (l2.getD k2 (0, 0, 0))).L)), .row (.slice (some ⟨gd2, 0, none⟩) pg cd2) 4 1 pg (List.map Value.bool ((Rp.mv r s z sn pg ns b o c x2 (l2.getD k2 (0, 0, 0))).D)), .row (.slice (some ⟨gs2, 0, none⟩) ns cs2) 3 1 ns (List.map (Value.int .i64) ((Rp.mv r s z sn pg ns b o c x2 (l2.getD k2 (0, 0, 0))).S)), .blk q2 #[.slice (some ⟨gq2, 0, none⟩) 256 cq2, .int .i64 (ran1 : Int), .int .i64 (qnn1 : Int)] 123, .row (.slice (some ⟨gq2, 0, none⟩) 256 cq2) 52 2 256 (List.flatMap entL lsn1), .row (lv) 3 1 pg (List.map (Value.int .i64) (layL y r b o pg)), .row (gn1.pv) 142 2 (List.length gn1.Pg) (List.flatMap entL gn1.Pg), .row (gn1.kv) 142 2 (List.length gn1.Rk) (List.flatMap entL gn1.Rk), .row (gn1.fv) 80 2 (List.length gn1.F) (List.flatMap entL gn1.F), .blk g3 #[.int .i64 ((l2.getD k2 (0, 0, 0)).1), .int .i64 ((l2.getD k2 (0, 0, 0)).2.1), .int .i64 ((l2.getD k2 (0, 0, 0)).2.2)] 54, .blk g2 #[.int .i64 r, .int .i64 s, .int .i64 b, .int .i64 o, .int .i64 c, .int .i64 y, .int .i64 z, lv, gdd.pv, gdd.kv, .int .i64 ((x2.pu : Nat) : Int), .int .i64 ((x2.ru : Nat) : Int), .int .i64 x2.j.1, .int .i64 x2.j.2.1, .int .i64 x2.j.2.2.1, .int .i64 x2.j.2.2.2, .slice gdd.ad gdd.n gdd.c] 39, .blk g1 #[.int .i64 r, .int .i64 s, .int .i64 b, .int .i64 o, .int .i64 c, .int .i64 y, .int .i64 z] 25]) (by kernel_rfl)
        clear H'
        replace hk1 : RgOk lsn1 ran1 qnn1 (Rp.mv r s z sn pg ns b o c x2 (l2.getD k2 (0, 0, 0))).Q := hk1
        replace hg1 : D21.Ok pg sn ns (Rp.mv r s z sn pg ns b o c x2 (l2.getD k2 (0, 0, 0))) gn1 := hg1
        replace ep1 : gn1.Pg.length ≤ gdd.Pg.length + 1 := ep1
        replace er1 : gn1.Rk.length ≤ gdd.Rk.length + 1 := er1
        refine x_b H [.m, .m, .m] ?_
        have h9o := H.rowOne 7 rfl
        have h10o := H.rowOne 8 rfl
        have h11o := H.rowOne 9 rfl
        refine z_store H 12 0 [.int .i64 r, .int .i64 s, .int .i64 b, .int .i64 o, .int .i64 c, .int .i64 y, .int .i64 z, lv, gn1.pv, gn1.kv, .int .i64 (((Rp.mv r s z sn pg ns b o c x2 (l2.getD k2 (0, 0, 0))).pu : Nat) : Int), .int .i64 (((Rp.mv r s z sn pg ns b o c x2 (l2.getD k2 (0, 0, 0))).ru : Nat) : Int), .int .i64 (((Rp.mv r s z sn pg ns b o c x2 (l2.getD k2 (0, 0, 0))).j).1), .int .i64 (((Rp.mv r s z sn pg ns b o c x2 (l2.getD k2 (0, 0, 0))).j).2.1), .int .i64 (((Rp.mv r s z sn pg ns b o c x2 (l2.getD k2 (0, 0, 0))).j).2.2.1), .int .i64 (((Rp.mv r s z sn pg ns b o c x2 (l2.getD k2 (0, 0, 0))).j).2.2.2), .slice gn1.ad gn1.n gn1.c] (fun v18 H => ?_) (h1 := (by simp only [List.all_cons, List.all_nil, h9o, h10o, h11o, Bool.and_true, Bool.true_and] <;> rfl))
        refine x_b H [.m] <| x_nil <| x_then <| x_seq <| x_region <| x_b H [.m, .m, .m, .m, .n 12 0 17 39] <| z_callH (v := .bool true) (H.useI [0, 1, 2, 3, 4, 5, 6, 7, 8, 9, 10] (fun h => repsame hL hx1 hk1 hg1 (by omega) (by omega) _ h)) fun v19 H => ?_
        refine x_b H [.m, .m] <| x_nil <| x_then <| x_f (by kernel_rfl) <| x_skipc <| x_blk <| x_then ?_
        refine x_region <| z_ar ((k2 : Int) + 1) <| x_b H [.m] <| x_nil <| x_then ?_
        replace H := H.pk [0, 1, 2, 3, 4, 5, 6, 7, 8, 9, 10, 12, 13]
        exact ⟨(k2 + 1, (Rp.mv r s z sn pg ns b o c x2 (l2.getD k2 (0, 0, 0))), lsn1, ran1, qnn1, gn1), (by dsimp only; omega), _, frm_of, H, (by omega), hx1, hk1, hg1, (by omega), (by omega)⟩
      have h7p := of_decide_eq_true h7
      refine x_t (by kernel_rfl) <| x_skipc <| x_then <| x_seq <| x_block <| x_seq <| x_region ?_
      obtain ⟨ga, oa, had, hcell⟩ := hA (by omega)
      refine x_ixO (t := 26) had k nA cA 54 3 (oa + k * 3) (by omega) (by omega) (by kernel_rfl) (by kernel_rfl) (by kernel_rfl) rfl (by kernel_rfl) <| x_loadcn (t := 54) ga (oa + k * 3) [.int .i64 ((l.getD k (0, 0, 0)).1), .int .i64 ((l.getD k (0, 0, 0)).2.1), .int .i64 ((l.getD k (0, 0, 0)).2.2)] (hcell _ H.below k (by omega)) (by kernel_rfl) rfl (by kernel_rfl) (by kernel_rfl) <| z_box H #[.int .i64 0, .int .i64 0, .int .i64 0] 54 (fun v20 g4 H => ?_)
      refine z_store H 0 0 [.int .i64 ((l.getD k (0, 0, 0)).1), .int .i64 ((l.getD k (0, 0, 0)).2.1), .int .i64 ((l.getD k (0, 0, 0)).2.2)] (fun v21 H => ?_)
      refine x_nil <| x_then <| x_seq <| x_region <| x_b H [.m, .n 12 0 17 39, .n 0 0 3 54] ?_
      have hx1 := hx.mv hL (l.getD k (0, 0, 0))
      refine z_call (H.useEP [1, 2, 3, 4, 5, 6, 7, 8, 9, 10, 11] (fun h => lstep hL hx hk hg (by omega) (by omega) (l.getD k (0, 0, 0)) _ h)) ?_
      rintro _ v22 ⟨⟨gn1, lsn1, ran1, qnn1⟩, rfl, H', hk1, hg1, ep1, er1⟩
      refine ⟨_, rfl, ?_⟩
      clear H
      have H := hsCast H' (L2 := [.blk rp #[.pointer (some ⟨p, 0, none⟩), .int .i64 (((Rp.mv r s z sn pg ns b o c x (l.getD k (0, 0, 0))).j).1), .int .i64 (((Rp.mv r s z sn pg ns b o c x (l.getD k (0, 0, 0))).j).2.1), .int .i64 (((Rp.mv r s z sn pg ns b o c x (l.getD k (0, 0, 0))).j).2.2.1), .int .i64 (((Rp.mv r s z sn pg ns b o c x (l.getD k (0, 0, 0))).j).2.2.2), .pointer (some ⟨q, 0, none⟩)] 74, .blk p #[.int .i64 r, .int .i64 s, .int .i64 b, .int .i64 o, .int .i64 c, .int .i64 y, .int .i64 z, .slice (some ⟨gl, 0, none⟩) sn cl, .slice (some ⟨gd, 0, none⟩) pg cd, .slice (some ⟨gs, 0, none⟩) ns cs, .int .i64 (((Rp.mv r s z sn pg ns b o c x (l.getD k (0, 0, 0))).pu : Nat) : Int), .int .i64 (((Rp.mv r s z sn pg ns b o c x (l.getD k (0, 0, 0))).ru : Nat) : Int)] 109, .row (.slice (some ⟨gl, 0, none⟩) sn cl) 3 1 sn (List.map (Value.int .i64) ((Rp.mv r s z sn pg ns b o c x (l.getD k (0, 0, 0))).L)), .row (.slice (some ⟨gd, 0, none⟩) pg cd) 4 1 pg (List.map Value.bool ((Rp.mv r s z sn pg ns b o c x (l.getD k (0, 0, 0))).D)), .row (.slice (some ⟨gs, 0, none⟩) ns cs) 3 1 ns (List.map (Value.int .i64) ((Rp.mv r s z sn pg ns b o c x (l.getD k (0, 0, 0))).S)), .blk q #[.slice (some ⟨gq, 0, none⟩) 256 cq, .int .i64 (ran1 : Int), .int .i64 (qnn1 : Int)] 123, .row (.slice (some ⟨gq, 0, none⟩) 256 cq) 52 2 256 (List.flatMap entL lsn1), .row (lv) 3 1 pg (List.map (Value.int .i64) (layL y r b o pg)), .row (gn1.pv) 142 2 (List.length gn1.Pg) (List.flatMap entL gn1.Pg), .row (gn1.kv) 142 2 (List.length gn1.Rk) (List.flatMap entL gn1.Rk), .row (gn1.fv) 80 2 (List.length gn1.F) (List.flatMap entL gn1.F), .blk g4 #[.int .i64 ((l.getD k (0, 0, 0)).1), .int .i64 ((l.getD k (0, 0, 0)).2.1), .int .i64 ((l.getD k (0, 0, 0)).2.2)] 54, .blk g2 #[.int .i64 r, .int .i64 s, .int .i64 b, .int .i64 o, .int .i64 c, .int .i64 y, .int .i64 z, lv, g.pv, g.kv, .int .i64 ((x.pu : Nat) : Int), .int .i64 ((x.ru : Nat) : Int), .int .i64 x.j.1, .int .i64 x.j.2.1, .int .i64 x.j.2.2.1, .int .i64 x.j.2.2.2, .slice g.ad g.n g.c] 39, .blk g1 #[.int .i64 r, .int .i64 s, .int .i64 b, .int .i64 o, .int .i64 c, .int .i64 y, .int .i64 z] 25]) (by kernel_rfl)
      clear H'
      replace hk1 : RgOk lsn1 ran1 qnn1 (Rp.mv r s z sn pg ns b o c x (l.getD k (0, 0, 0))).Q := hk1
      replace hg1 : D21.Ok pg sn ns (Rp.mv r s z sn pg ns b o c x (l.getD k (0, 0, 0))) gn1 := hg1
      replace ep1 : gn1.Pg.length ≤ g.Pg.length + 1 := ep1
      replace er1 : gn1.Rk.length ≤ g.Rk.length + 1 := er1
      refine x_b H [.m, .m, .m] ?_
      have h12o := H.rowOne 7 rfl
      have h13o := H.rowOne 8 rfl
      have h14o := H.rowOne 9 rfl
      refine z_store H 12 0 [.int .i64 r, .int .i64 s, .int .i64 b, .int .i64 o, .int .i64 c, .int .i64 y, .int .i64 z, lv, gn1.pv, gn1.kv, .int .i64 (((Rp.mv r s z sn pg ns b o c x (l.getD k (0, 0, 0))).pu : Nat) : Int), .int .i64 (((Rp.mv r s z sn pg ns b o c x (l.getD k (0, 0, 0))).ru : Nat) : Int), .int .i64 (((Rp.mv r s z sn pg ns b o c x (l.getD k (0, 0, 0))).j).1), .int .i64 (((Rp.mv r s z sn pg ns b o c x (l.getD k (0, 0, 0))).j).2.1), .int .i64 (((Rp.mv r s z sn pg ns b o c x (l.getD k (0, 0, 0))).j).2.2.1), .int .i64 (((Rp.mv r s z sn pg ns b o c x (l.getD k (0, 0, 0))).j).2.2.2), .slice gn1.ad gn1.n gn1.c] (fun v23 H => ?_) (h1 := (by simp only [List.all_cons, List.all_nil, h12o, h13o, h14o, Bool.and_true, Bool.true_and] <;> rfl))
      refine x_b H [.m] <| x_nil <| x_then <| x_seq <| x_region <| x_b H [.m, .m] <| x_nil ?_
      refine x_then <| x_f (by kernel_rfl) <| x_skipc <| x_blk <| x_then <| x_region <| z_ar ((k : Int) + 1) ?_
      refine x_b H [.m] <| x_nil <| x_then ?_
      replace H := H.pk [0, 1, 2, 3, 4, 5, 6, 7, 8, 9, 10, 12, 13]
      exact ⟨(k + 1, (Rp.mv r s z sn pg ns b o c x (l.getD k (0, 0, 0))), lsn1, ran1, qnn1, gn1), (by dsimp only; omega), _, frm_of, H, (by omega), hx1, hk1, hg1, (by omega), (by omega), (Qnd.mv hQ)⟩
    have h3p := of_decide_eq_true h3
    refine x_t (by kernel_rfl) <| x_seq <| x_region <| x_b H [.m] <| x_nil <| x_then <| x_retc ?_
    refine x_then_ret <| x_ret (.bool true) (by kernel_rfl) (by kernel_rfl) ?_
    exact ⟨rfl, H.below⟩
  have h2p := of_decide_eq_true h2
  refine x_b H [.k, .k, .k, .m] <| x_nil <| x_then <| x_t (by kernel_rfl) <| x_seq <| x_region <| x_b H [.m] ?_
  refine x_nil <| x_then <| x_retc <| x_then_ret <| x_ret (.bool true) (by kernel_rfl) (by kernel_rfl) ?_
  exact ⟨rfl, H.below⟩
end Go.Proofs.YtpmnnijjohlloaaGreat
