/- The law RepairCounts, walked. -/
import Derived.Test.YtpmnnijjohlloaaRprO
import Derived.Test.YtpmnnijjohlloaaPxZ
namespace Go.Proofs.Ytpmnnijjohlloaa
open Go Go.RowKit
set_option linter.unusedVariables false
set_option linter.unusedSimpArgs false
/-- A job that has gone on to a line. -/
def Rp.at_ (x : Rp) (m : Int) : Rp := { x with j := (x.j.1, x.j.2.1, x.j.2.2.1, m) }
section
variable {r s b o c y z : Int} {sn pg ns : Nat} {x : Rp}
theorem Rp.at_self (x : Rp) : x.at_ x.j.2.2.2 = x := rfl
theorem Rp.at_step (h0 : ¬ x.j.1 = 0) {m : Int} (h : ¬ m + 1 = Rp.cnt b o c x.j) : (Rp.step r s z sn pg ns b o c (x.at_ m)).1 = x.at_ (m + 1) := by
  unfold Rp.step
  rw [if_neg (show ¬ (x.at_ m).j.1 = 0 from h0), if_neg (show ¬ (x.at_ m).j.2.2.2 + 1 = Rp.cnt b o c (x.at_ m).j from h)]
  rfl
end
set_option maxRecDepth 100000 in
set_option maxHeartbeats 4000000 in
theorem rct21_no (r s b o c y z : Int) (ad : Option Addr) (nA cA : Nat) (hbd : r ≤ 9223372036854775807 ∧ b ≤ 9223372036854775807 ∧ o ≤ 9223372036854775807 ∧ c ≤ 9223372036854775807) (hok : layoutOk r s b o c y z = false) (w0 : World) :
    Calls Try.prog 11 #[.agg #[.int .i64 r, .int .i64 s, .int .i64 b, .int .i64 o, .int .i64 c, .int .i64 y, .int .i64 z], .slice ad nA cA] w0 fun e w' => e = .returned (.bool true) ∧ Below w0.heap.size w0 w' := by
  refine z_enter Try.func11 rfl ?_
  have H := Hs.nil w0
  obtain ⟨hb1, hb2, hb3, hb4⟩ := id hbd
  refine x_seq <| x_region <| z_box H #[.int .i64 r, .int .i64 s, .int .i64 b, .int .i64 o, .int .i64 c, .int .i64 y, .int .i64 z] 25 (fun v1 g1 H => ?_)
  refine x_b H [.m] <| x_nil <| x_then <| x_seq <| x_seq <| x_region <| z_callB H (anchor21 _) fun v2 H => ?_
  refine x_b H [.m] <| x_nil <| x_then <| x_f (by kernel_rfl) <| x_skipc <| x_then <| x_seq ?_
  refine x_seq <| x_region <| x_b H [.n 0 0 7 25] <| z_call (small21_any r s b o c y z (by omega) (by omega) (by omega) (by omega) _) ?_
  rintro _ v3 ⟨tS, rfl, hB⟩
  refine ⟨_, rfl, ?_⟩
  replace H := H.via hB
  clear hB
  refine x_b H [.v (.bool (!tS)), .v (.bool (!tS))] ?_
  cases h1 : tS
  · skip
    refine x_b H [.k, .k, .k, .m] <| x_nil <| x_then <| x_t (by kernel_rfl) <| x_seq <| x_region <| x_b H [.m] ?_
    refine x_nil <| x_then <| x_retc <| x_then_ret <| x_ret (.bool true) (by kernel_rfl) (by kernel_rfl) ?_
    exact ⟨rfl, H.below⟩
  refine x_b H [.m, .m, .v (.bool (decide (40 < (nA : Int)))), .v (.bool (decide (40 < (nA : Int))))] <| x_nil <| x_then ?_
  cases h2 : decide (40 < (nA : Int))
  · skip
    have h2p := of_decide_eq_false h2
    refine x_f (by kernel_rfl) <| x_skipc <| x_then <| x_seq <| x_region <| x_b H [.n 0 0 7 25] <| z_callB H (started_no r s b o c y z hbd hok _) fun v4 H => ?_
    refine x_b H [.m, .m, .m, .m] <| z_box H #[.int .i64 0, .int .i64 0, .int .i64 0, .int .i64 0, .int .i64 0, .int .i64 0, .int .i64 0, .slice none 0 0, .slice none 0 0, .slice none 0 0, .int .i64 0, .int .i64 0, .int .i64 0, .int .i64 0, .int .i64 0, .int .i64 0, .slice none 0 0] 68 (fun v5 g2 H => ?_)
    refine x_b H [.m] <| z_store H 0 0 [.int .i64 0, .int .i64 0, .int .i64 0, .int .i64 0, .int .i64 0, .int .i64 0, .int .i64 0, .slice none 0 0, .slice none 0 0, .slice none 0 0, .int .i64 0, .int .i64 0, .int .i64 0, .int .i64 0, .int .i64 0, .int .i64 0, .slice none 0 0] (fun v6 H => ?_)
    refine x_b H [.m] <| x_nil <| x_then <| x_seq <| x_seq <| x_region <| x_b H [.m, .m] ?_
    refine x_nil <| x_then <| x_t (by kernel_rfl) <| x_seq <| x_region <| x_b H [.m, .m, .m, .n 1 0 7 25] <| z_callB (v := .bool (layoutOk r s b o c y z)) H (lRight_any _ _ _ _ _ _ _ (by omega) (by omega) (by omega) (by omega) _) fun v7 H => ?_
    refine x_b H [.v (.bool (!(layoutOk r s b o c y z))), .v (.bool (!(layoutOk r s b o c y z))), .v (.bool (!(layoutOk r s b o c y z)))] <| x_nil <| x_then <| x_retc <| x_then_ret <| x_ret (.bool (!(layoutOk r s b o c y z))) (by kernel_rfl) (by kernel_rfl) ?_
    exact ⟨by rw [hok]; rfl, H.below⟩
  have h2p := of_decide_eq_true h2
  refine x_t (by kernel_rfl) <| x_seq <| x_region <| x_b H [.m] <| x_nil <| x_then <| x_retc ?_
  refine x_then_ret <| x_ret (.bool true) (by kernel_rfl) (by kernel_rfl) ?_
  exact ⟨rfl, H.below⟩
set_option maxRecDepth 100000 in
set_option maxHeartbeats 4000000 in
theorem rct21_yes {r s b o c y z : Int} {pg sn ns : Nat} (hL : Lay r s b o c y z pg sn ns) (ad : Option Addr) (nA cA : Nat) (l : List Int3) (w0 : World) (hA : RAt int3L 3 (0, 0, 0) w0 ad nA l) :
    Calls Try.prog 11 #[.agg #[.int .i64 r, .int .i64 s, .int .i64 b, .int .i64 o, .int .i64 c, .int .i64 y, .int .i64 z], .slice ad nA cA] w0 fun e w' => e = .returned (.bool true) ∧ Below w0.heap.size w0 w' := by
  refine z_enter Try.func11 rfl ?_
  have H := Hs.nil w0
  have hok := hL.ok
  obtain ⟨-, r1', r8, s0, s8, b1, b2, o1, o2, c1, c2, y0, y4, z0, z2, hpg, hsn, hns, sn1, pg2, ln0, ln2⟩ := id hL
  refine x_seq <| x_region <| z_box H #[.int .i64 r, .int .i64 s, .int .i64 b, .int .i64 o, .int .i64 c, .int .i64 y, .int .i64 z] 25 (fun v1 g1 H => ?_)
  refine x_b H [.m] <| x_nil <| x_then <| x_seq <| x_seq <| x_region <| z_callB H (anchor21 _) fun v2 H => ?_
  refine x_b H [.m] <| x_nil <| x_then <| x_f (by kernel_rfl) <| x_skipc <| x_then <| x_seq ?_
  refine x_seq <| x_region <| x_b H [.n 0 0 7 25] <| z_call (small21_any r s b o c y z (by omega) (by omega) (by omega) (by omega) _) ?_
  rintro _ v3 ⟨tS, rfl, hB⟩
  refine ⟨_, rfl, ?_⟩
  replace H := H.via hB
  clear hB
  refine x_b H [.v (.bool (!tS)), .v (.bool (!tS))] ?_
  cases h1 : tS
  · skip
    refine x_b H [.k, .k, .k, .m] <| x_nil <| x_then <| x_t (by kernel_rfl) <| x_seq <| x_region <| x_b H [.m] ?_
    refine x_nil <| x_then <| x_retc <| x_then_ret <| x_ret (.bool true) (by kernel_rfl) (by kernel_rfl) ?_
    exact ⟨rfl, H.below⟩
  refine x_b H [.m, .m, .v (.bool (decide (40 < (nA : Int)))), .v (.bool (decide (40 < (nA : Int))))] <| x_nil <| x_then ?_
  cases h2 : decide (40 < (nA : Int))
  · skip
    have h2p := of_decide_eq_false h2
    refine x_f (by kernel_rfl) <| x_skipc <| x_then <| x_seq <| x_region <| x_b H [.n 0 0 7 25] <| z_call (started_yes hL _) ?_
    rintro _ v4 ⟨⟨p, gl, cl, gd, cd, gs, cs⟩, ⟨q, gq, cq⟩, rp, lv, rfl, hN'⟩
    refine ⟨_, rfl, ?_⟩
    replace H := hsCast (H.more hN') (L2 := [.blk rp #[.pointer (some ⟨p, 0, none⟩), .int .i64 (((Rp.new sn pg ns).j).1), .int .i64 (((Rp.new sn pg ns).j).2.1), .int .i64 (((Rp.new sn pg ns).j).2.2.1), .int .i64 (((Rp.new sn pg ns).j).2.2.2), .pointer (some ⟨q, 0, none⟩)] 133, .blk p #[.int .i64 r, .int .i64 s, .int .i64 b, .int .i64 o, .int .i64 c, .int .i64 y, .int .i64 z, .slice (some ⟨gl, 0, none⟩) sn cl, .slice (some ⟨gd, 0, none⟩) pg cd, .slice (some ⟨gs, 0, none⟩) ns cs, .int .i64 (((Rp.new sn pg ns).pu : Nat) : Int), .int .i64 (((Rp.new sn pg ns).ru : Nat) : Int)] 118, .row (.slice (some ⟨gl, 0, none⟩) sn cl) 3 1 sn (List.map (Value.int .i64) ((Rp.new sn pg ns).L)), .row (.slice (some ⟨gd, 0, none⟩) pg cd) 4 1 pg (List.map Value.bool ((Rp.new sn pg ns).D)), .row (.slice (some ⟨gs, 0, none⟩) ns cs) 3 1 ns (List.map (Value.int .i64) ((Rp.new sn pg ns).S)), .blk q #[.slice (some ⟨gq, 0, none⟩) 256 cq, .int .i64 ((0 : Nat) : Int), .int .i64 ((0 : Nat) : Int)] 170, .row (.slice (some ⟨gq, 0, none⟩) 256 cq) 72 2 256 (List.flatMap entL (List.replicate 256 ((0, 0) : Ent))), .row (lv) 3 1 pg (List.map (Value.int .i64) (layL y r b o pg)), .row (D21.new.pv) 156 2 (List.length D21.new.Pg) (List.flatMap entL D21.new.Pg), .row (D21.new.kv) 156 2 (List.length D21.new.Rk) (List.flatMap entL D21.new.Rk), .row (D21.new.fv) 147 2 (List.length D21.new.F) (List.flatMap entL D21.new.F), .blk g1 #[.int .i64 r, .int .i64 s, .int .i64 b, .int .i64 o, .int .i64 c, .int .i64 y, .int .i64 z] 25]) (by kernel_rfl)
    clear hN'
    refine x_b H [.m, .m, .m, .m] <| z_box H #[.int .i64 0, .int .i64 0, .int .i64 0, .int .i64 0, .int .i64 0, .int .i64 0, .int .i64 0, .slice none 0 0, .slice none 0 0, .slice none 0 0, .int .i64 0, .int .i64 0, .int .i64 0, .int .i64 0, .int .i64 0, .int .i64 0, .slice none 0 0] 68 (fun v5 g2 H => ?_)
    refine x_b H [.m] ?_
    have h3o := H.rowOne 8 rfl
    have h4o := H.rowOne 9 rfl
    have h5o := H.rowOne 10 rfl
    refine z_store H 0 0 [.int .i64 r, .int .i64 s, .int .i64 b, .int .i64 o, .int .i64 c, .int .i64 y, .int .i64 z, lv, D21.new.pv, D21.new.kv, .int .i64 (((Rp.new sn pg ns).pu : Nat) : Int), .int .i64 (((Rp.new sn pg ns).ru : Nat) : Int), .int .i64 (((Rp.new sn pg ns).j).1), .int .i64 (((Rp.new sn pg ns).j).2.1), .int .i64 (((Rp.new sn pg ns).j).2.2.1), .int .i64 (((Rp.new sn pg ns).j).2.2.2), .slice D21.new.ad D21.new.n D21.new.c] (fun v6 H => ?_) (h1 := (by simp only [List.all_cons, List.all_nil, h3o, h4o, h5o, Bool.and_true, Bool.true_and] <;> rfl))
    refine x_b H [.m] <| x_nil <| x_then <| x_seq <| x_seq <| x_region <| x_b H [.m, .m] ?_
    refine x_nil <| x_then <| x_f (by kernel_rfl) <| x_skipc <| x_then <| x_seq <| x_seq ?_
    refine x_region <| x_b H [.m, .m, .m] <| x_nil <| x_then <| x_block ?_
    replace H := H.pk [1, 2, 3, 4, 5, 6, 7, 8, 9, 10, 11, 0, 12]
    refine x_loop (G := Nat × Rp × List Ent × Nat × Nat × D21) (fun gh a w' => match gh with | (k, x, ls, ra, qn, g) => ∃ uf1 : Nat → Value, a = frm 177 uf1 [(1, .slice ad nA cA), (2, .pointer (some ⟨g1, 0, none⟩)), (5, .pointer (some ⟨rp, 0, none⟩)), (6, .pointer (some ⟨g2, 0, none⟩)), (48, .slice ad nA cA), (49, .int .i64 (nA : Int)), (50, .int .i64 (k : Int))] [] ∧ Hs [] w0 w' [.blk rp #[.pointer (some ⟨p, 0, none⟩), .int .i64 x.j.1, .int .i64 x.j.2.1, .int .i64 x.j.2.2.1, .int .i64 x.j.2.2.2, .pointer (some ⟨q, 0, none⟩)] 133, .blk p #[.int .i64 r, .int .i64 s, .int .i64 b, .int .i64 o, .int .i64 c, .int .i64 y, .int .i64 z, .slice (some ⟨gl, 0, none⟩) sn cl, .slice (some ⟨gd, 0, none⟩) pg cd, .slice (some ⟨gs, 0, none⟩) ns cs, .int .i64 ((x.pu : Nat) : Int), .int .i64 ((x.ru : Nat) : Int)] 118, .row (.slice (some ⟨gl, 0, none⟩) sn cl) 3 1 sn (List.map (Value.int .i64) x.L), .row (.slice (some ⟨gd, 0, none⟩) pg cd) 4 1 pg (List.map Value.bool x.D), .row (.slice (some ⟨gs, 0, none⟩) ns cs) 3 1 ns (List.map (Value.int .i64) x.S), .blk q #[.slice (some ⟨gq, 0, none⟩) 256 cq, .int .i64 (ra : Int), .int .i64 (qn : Int)] 170, .row (.slice (some ⟨gq, 0, none⟩) 256 cq) 72 2 256 (List.flatMap entL ls), .row (lv) 3 1 pg (List.map (Value.int .i64) (layL y r b o pg)), .row (g.pv) 156 2 (List.length g.Pg) (List.flatMap entL g.Pg), .row (g.kv) 156 2 (List.length g.Rk) (List.flatMap entL g.Rk), .row (g.fv) 147 2 (List.length g.F) (List.flatMap entL g.F), .blk g2 #[.int .i64 r, .int .i64 s, .int .i64 b, .int .i64 o, .int .i64 c, .int .i64 y, .int .i64 z, lv, g.pv, g.kv, .int .i64 ((x.pu : Nat) : Int), .int .i64 ((x.ru : Nat) : Int), .int .i64 x.j.1, .int .i64 x.j.2.1, .int .i64 x.j.2.2.1, .int .i64 x.j.2.2.2, .slice g.ad g.n g.c] 68, .blk g1 #[.int .i64 r, .int .i64 s, .int .i64 b, .int .i64 o, .int .i64 c, .int .i64 y, .int .i64 z] 25] ∧ (k ≤ nA) ∧ (RpOk r s b o c z sn pg ns x) ∧ (RgOk ls ra qn x.Q) ∧ (D21.Ok pg sn ns x g) ∧ (g.Pg.length ≤ 0 + k) ∧ (g.Rk.length ≤ 0 + k) ∧ (Sinj ns x.S)) (fun gh => match gh with | (k, x, ls, ra, qn, g) => nA - k) (0, (Rp.new sn pg ns), (List.replicate 256 ((0, 0) : Ent)), 0, 0, D21.new) ⟨_, frm_of, H, (Nat.zero_le _), (RpOk.new hL), RgOk.new, (D21.new_ok pg sn ns), (Nat.zero_le _), (Nat.zero_le _), (Sinj.new ns)⟩ ?_
    clear H
    rintro ⟨k, x, ls, ra, qn, g⟩ _ v7 ⟨uf1, rfl, H, r1, r2, r3, r4, r5, r6, r7⟩
    have hx := r2
    have hk := r3
    have hg := r4
    have hi := r7
    refine x_seq <| x_region <| x_b H [.v (.bool (decide ((k : Int) < (nA : Int))))] <| x_nil <| x_then <| x_seq ?_
    cases h6 : decide ((k : Int) < (nA : Int))
    · skip
      have h6p := of_decide_eq_false h6
      refine x_f (by kernel_rfl) <| x_exit <| x_then_exit <| x_then_exit <| x_blk_exit <| x_then <| x_seq ?_
      refine x_region <| x_b H [.m] <| z_callB H (Job_of (x := x) _ (H.ro1 [0])) fun v8 H => z_box H #[.int .i64 0, .int .i64 0, .int .i64 0, .int .i64 0] 77 (fun v9 g3 H => ?_)
      refine z_store H 0 0 [.int .i64 x.j.1, .int .i64 x.j.2.1, .int .i64 x.j.2.2.1, .int .i64 x.j.2.2.2] (fun v10 H => ?_)
      refine x_nil <| x_then <| x_seq <| x_seq <| x_region <| x_b H [.m, .l 0 0, .v (.bool (decide (x.j.1 = 0)))] <| x_nil ?_
      refine x_then ?_
      cases h7 : decide (x.j.1 = 0)
      · skip
        have h7p := of_decide_eq_false h7
        obtain ⟨⟨hn0, hn1⟩, hkk⟩ := JobOk.next_ok hx h7p
        have hj0 := h7p
        have hjr := JobOk.right hL hx
        obtain ⟨hcb0, hcb1⟩ := cnt_bd (geom_of hL) x.j
        obtain ⟨⟨jb1, jb2⟩, ⟨jb3, jb4⟩, ⟨jb5, jb6⟩, ⟨jb7, jb8⟩⟩ := hx.job_bd hL
        have hjk2 : (x.j.1 = 1 ∧ 0 ≤ x.j.2.1 ∧ x.j.2.1 < (pg : Int)) ∨ (x.j.1 = 2 ∧ 0 ≤ x.j.2.1 ∧ x.j.2.1 < (ns : Int)) := by rcases hx.kind hL with e | e | e; exact absurd (by rw [e]) hj0; exact .inl ⟨e.1, e.2.1⟩; exact .inr ⟨e.1, e.2.1⟩
        have hjk : x.j.1 = 2 → 0 ≤ x.j.2.1 ∧ x.j.2.1 < (ns : Int) := by omega
        refine x_f (by kernel_rfl) <| x_skipc <| x_then <| x_seq <| x_region <| x_b H [.m] <| x_nil ?_
        refine x_then <| x_seq <| x_seq <| x_region <| x_b H [.n 0 0 4 77, .n 13 0 7 25] <| z_callB H (Count_any hL x.j _) fun v11 H => x_b H [.m] ?_
        refine x_nil <| x_then <| x_block ?_
        replace H := H.nilRow 3 1
        replace H := H.pk [0, 2, 3, 4, 5, 6, 7, 8, 1, 14]
        refine x_loop (G := Nat × Value) (fun gh a w' => match gh with | (k2, ov) => ∃ uf2 : Nat → Value, a = frm 177 uf2 [(1, .slice ad nA cA), (2, .pointer (some ⟨g1, 0, none⟩)), (5, .pointer (some ⟨rp, 0, none⟩)), (10, .pointer (some ⟨g3, 0, none⟩)), (11, ov), (71, .int .i64 (Rp.cnt b o c x.j)), (72, .int .i64 (k2 : Int))] [] ∧ Hs [] w0 w' [.row (ov) 3 1 (List.length (srcL y r b o c x.S x.j k2)) (List.map (Value.int .i64) (srcL y r b o c x.S x.j k2)), .blk rp #[.pointer (some ⟨p, 0, none⟩), .int .i64 x.j.1, .int .i64 x.j.2.1, .int .i64 x.j.2.2.1, .int .i64 x.j.2.2.2, .pointer (some ⟨q, 0, none⟩)] 133, .blk p #[.int .i64 r, .int .i64 s, .int .i64 b, .int .i64 o, .int .i64 c, .int .i64 y, .int .i64 z, .slice (some ⟨gl, 0, none⟩) sn cl, .slice (some ⟨gd, 0, none⟩) pg cd, .slice (some ⟨gs, 0, none⟩) ns cs, .int .i64 ((x.pu : Nat) : Int), .int .i64 ((x.ru : Nat) : Int)] 118, .row (.slice (some ⟨gl, 0, none⟩) sn cl) 3 1 sn (List.map (Value.int .i64) x.L), .row (.slice (some ⟨gd, 0, none⟩) pg cd) 4 1 pg (List.map Value.bool x.D), .row (.slice (some ⟨gs, 0, none⟩) ns cs) 3 1 ns (List.map (Value.int .i64) x.S), .blk q #[.slice (some ⟨gq, 0, none⟩) 256 cq, .int .i64 (ra : Int), .int .i64 (qn : Int)] 170, .row (.slice (some ⟨gq, 0, none⟩) 256 cq) 72 2 256 (List.flatMap entL ls), .blk g3 #[.int .i64 x.j.1, .int .i64 x.j.2.1, .int .i64 x.j.2.2.1, .int .i64 x.j.2.2.2] 77, .blk g1 #[.int .i64 r, .int .i64 s, .int .i64 b, .int .i64 o, .int .i64 c, .int .i64 y, .int .i64 z] 25] ∧ ((k2 : Int) ≤ (Rp.cnt b o c x.j))) (fun gh => match gh with | (k2, ov) => (Rp.cnt b o c x.j).toNat - k2) (0, .slice none 0 0) ⟨_, frm_of, H, (by omega)⟩ ?_
        clear H
        rintro ⟨k2, ov⟩ _ v12 ⟨uf2, rfl, H, r1⟩
        have hsl := srcL_len (y := y) (r := r) (b := b) (o := o) (c := c) x.S x.j k2
        refine x_seq <| x_region <| x_b H [.v (.bool (decide ((k2 : Int) < (Rp.cnt b o c x.j))))] <| x_nil <| x_then <| x_seq ?_
        cases h8 : decide ((k2 : Int) < (Rp.cnt b o c x.j))
        · skip
          have h8p := of_decide_eq_false h8
          refine x_f (by kernel_rfl) <| x_exit <| x_then_exit <| x_then_exit <| x_blk_exit <| x_then <| x_seq ?_
          refine x_seq <| x_region <| x_b H [.m, .l 8 3, .m] <| x_nil <| x_then <| x_block ?_
          have hk2N : k2 = (Rp.cnt b o c x.j).toNat := by omega
          rw [hk2N] at H hsl
          replace H := H.pk [0, 1, 2, 3, 4, 5, 6, 7, 8, 9]
          refine x_loop (G := Rp × List Ent × Nat × Nat × Int) (fun gh a w' => match gh with | (x3, ls3, ra3, qn3, m) => ∃ uf3 : Nat → Value, a = frm 177 uf3 [(1, .slice ad nA cA), (2, .pointer (some ⟨g1, 0, none⟩)), (5, .pointer (some ⟨rp, 0, none⟩)), (10, .pointer (some ⟨g3, 0, none⟩)), (11, ov), (15, .int .i64 m)] [] ∧ Hs [] w0 w' [.row (ov) 3 1 (List.length (srcL y r b o c x.S x.j (Rp.cnt b o c x.j).toNat)) (List.map (Value.int .i64) (srcL y r b o c x.S x.j (Rp.cnt b o c x.j).toNat)), .blk rp #[.pointer (some ⟨p, 0, none⟩), .int .i64 x3.j.1, .int .i64 x3.j.2.1, .int .i64 x3.j.2.2.1, .int .i64 x3.j.2.2.2, .pointer (some ⟨q, 0, none⟩)] 133, .blk p #[.int .i64 r, .int .i64 s, .int .i64 b, .int .i64 o, .int .i64 c, .int .i64 y, .int .i64 z, .slice (some ⟨gl, 0, none⟩) sn cl, .slice (some ⟨gd, 0, none⟩) pg cd, .slice (some ⟨gs, 0, none⟩) ns cs, .int .i64 ((x3.pu : Nat) : Int), .int .i64 ((x3.ru : Nat) : Int)] 118, .row (.slice (some ⟨gl, 0, none⟩) sn cl) 3 1 sn (List.map (Value.int .i64) x3.L), .row (.slice (some ⟨gd, 0, none⟩) pg cd) 4 1 pg (List.map Value.bool x3.D), .row (.slice (some ⟨gs, 0, none⟩) ns cs) 3 1 ns (List.map (Value.int .i64) x3.S), .blk q #[.slice (some ⟨gq, 0, none⟩) 256 cq, .int .i64 (ra3 : Int), .int .i64 (qn3 : Int)] 170, .row (.slice (some ⟨gq, 0, none⟩) 256 cq) 72 2 256 (List.flatMap entL ls3), .blk g3 #[.int .i64 x.j.1, .int .i64 x.j.2.1, .int .i64 x.j.2.2.1, .int .i64 x.j.2.2.2] 77, .blk g1 #[.int .i64 r, .int .i64 s, .int .i64 b, .int .i64 o, .int .i64 c, .int .i64 y, .int .i64 z] 25] ∧ (x.j.2.2.2 ≤ m) ∧ (m ≤ (Rp.cnt b o c x.j)) ∧ (RpOk r s b o c z sn pg ns x3) ∧ (RgOk ls3 ra3 qn3 x3.Q) ∧ (Sinj ns x3.S) ∧ (m < (Rp.cnt b o c x.j) → x3 = x.at_ m) ∧ (m = (Rp.cnt b o c x.j) → Gone ns x.S x.j x3)) (fun gh => match gh with | (x3, ls3, ra3, qn3, m) => ((Rp.cnt b o c x.j) - m).toNat) (x, ls, ra, qn, x.j.2.2.2) ⟨_, frm_of, H, (Int.le_refl _), (by omega), hx, hk, hi, (fun _ => (Rp.at_self x).symm), (fun h => by omega)⟩ ?_
          clear H
          rintro ⟨x3, ls3, ra3, qn3, m⟩ _ v13 ⟨uf3, rfl, H, r1, r2, r3, r4, r5, r6, r7⟩
          have hx3 := r3
          have hk3 := r4
          have hi3 := r5
          refine x_seq <| x_seq <| x_region <| x_b H [.m, .n 8 0 4 77, .n 9 0 7 25] <| z_callB H (Count_any hL x.j _) fun v14 H => x_b H [.v (.bool (decide (m < (Rp.cnt b o c x.j))))] <| x_nil ?_
          refine x_then ?_
          cases h9 : decide (m < (Rp.cnt b o c x.j))
          · skip
            have h9p := of_decide_eq_false h9
            have hot := Gone.other hL hx3 (r7 (by omega)) hkk
            refine x_f (by kernel_rfl) <| x_exit <| x_then_exit <| x_then_exit <| x_blk_exit <| x_then <| x_span1 (fun a w' => ∃ uf4 : Nat → Value, a = frm 177 uf4 [(1, .slice ad nA cA), (2, .pointer (some ⟨g1, 0, none⟩)), (5, .pointer (some ⟨rp, 0, none⟩)), (11, ov)] [] ∧ Hs [] w0 w' [.row (ov) 3 1 (List.length (srcL y r b o c x.S x.j (Rp.cnt b o c x.j).toNat)) (List.map (Value.int .i64) (srcL y r b o c x.S x.j (Rp.cnt b o c x.j).toNat)), .blk rp #[.pointer (some ⟨p, 0, none⟩), .int .i64 x3.j.1, .int .i64 x3.j.2.1, .int .i64 x3.j.2.2.1, .int .i64 x3.j.2.2.2, .pointer (some ⟨q, 0, none⟩)] 133, .blk p #[.int .i64 r, .int .i64 s, .int .i64 b, .int .i64 o, .int .i64 c, .int .i64 y, .int .i64 z, .slice (some ⟨gl, 0, none⟩) sn cl, .slice (some ⟨gd, 0, none⟩) pg cd, .slice (some ⟨gs, 0, none⟩) ns cs, .int .i64 ((x3.pu : Nat) : Int), .int .i64 ((x3.ru : Nat) : Int)] 118, .row (.slice (some ⟨gl, 0, none⟩) sn cl) 3 1 sn (List.map (Value.int .i64) x3.L), .row (.slice (some ⟨gd, 0, none⟩) pg cd) 4 1 pg (List.map Value.bool x3.D), .row (.slice (some ⟨gs, 0, none⟩) ns cs) 3 1 ns (List.map (Value.int .i64) x3.S), .blk q #[.slice (some ⟨gq, 0, none⟩) 256 cq, .int .i64 (ra3 : Int), .int .i64 (qn3 : Int)] 170, .row (.slice (some ⟨gq, 0, none⟩) 256 cq) 72 2 256 (List.flatMap entL ls3), .blk g3 #[.int .i64 x.j.1, .int .i64 x.j.2.1, .int .i64 x.j.2.2.1, .int .i64 x.j.2.2.2] 77, .blk g1 #[.int .i64 r, .int .i64 s, .int .i64 b, .int .i64 o, .int .i64 c, .int .i64 y, .int .i64 z] 25]) ?_ (fun hSp1 => ?_)
            · skip
              clear H
              rintro _ v15 ⟨uf4, rfl, H⟩
              refine x_seq <| x_seq <| x_region <| x_b H [.m, .m, .m] <| x_nil <| x_then <| x_block ?_
              have hm : m = (Rp.cnt b o c x.j) := by omega
              have hG3 := r7 hm
              replace H := H.pk [0, 1, 2, 3, 4, 5, 6, 7, 8, 9]
              refine x_loop (G := Nat × Rp × List Ent × Nat × Nat) (fun gh a w' => match gh with | (k4, x4, ls4, ra4, qn4) => ∃ uf5 : Nat → Value, a = frm 177 uf5 [(2, .pointer (some ⟨g1, 0, none⟩)), (5, .pointer (some ⟨rp, 0, none⟩)), (11, ov), (140, .slice ad nA cA), (141, .int .i64 (nA : Int)), (142, .int .i64 (k4 : Int))] [] ∧ Hs [] w0 w' [.row (ov) 3 1 (List.length (srcL y r b o c x.S x.j (Rp.cnt b o c x.j).toNat)) (List.map (Value.int .i64) (srcL y r b o c x.S x.j (Rp.cnt b o c x.j).toNat)), .blk rp #[.pointer (some ⟨p, 0, none⟩), .int .i64 x4.j.1, .int .i64 x4.j.2.1, .int .i64 x4.j.2.2.1, .int .i64 x4.j.2.2.2, .pointer (some ⟨q, 0, none⟩)] 133, .blk p #[.int .i64 r, .int .i64 s, .int .i64 b, .int .i64 o, .int .i64 c, .int .i64 y, .int .i64 z, .slice (some ⟨gl, 0, none⟩) sn cl, .slice (some ⟨gd, 0, none⟩) pg cd, .slice (some ⟨gs, 0, none⟩) ns cs, .int .i64 ((x4.pu : Nat) : Int), .int .i64 ((x4.ru : Nat) : Int)] 118, .row (.slice (some ⟨gl, 0, none⟩) sn cl) 3 1 sn (List.map (Value.int .i64) x4.L), .row (.slice (some ⟨gd, 0, none⟩) pg cd) 4 1 pg (List.map Value.bool x4.D), .row (.slice (some ⟨gs, 0, none⟩) ns cs) 3 1 ns (List.map (Value.int .i64) x4.S), .blk q #[.slice (some ⟨gq, 0, none⟩) 256 cq, .int .i64 (ra4 : Int), .int .i64 (qn4 : Int)] 170, .row (.slice (some ⟨gq, 0, none⟩) 256 cq) 72 2 256 (List.flatMap entL ls4), .blk g3 #[.int .i64 x.j.1, .int .i64 x.j.2.1, .int .i64 x.j.2.2.1, .int .i64 x.j.2.2.2] 77, .blk g1 #[.int .i64 r, .int .i64 s, .int .i64 b, .int .i64 o, .int .i64 c, .int .i64 y, .int .i64 z] 25] ∧ (k4 ≤ nA) ∧ (RpOk r s b o c z sn pg ns x4) ∧ (RgOk ls4 ra4 qn4 x4.Q) ∧ (Sinj ns x4.S) ∧ (Gone ns x.S x.j x4)) (fun gh => match gh with | (k4, x4, ls4, ra4, qn4) => nA - k4) (0, x3, ls3, ra3, qn3) ⟨_, frm_of, H, (Nat.zero_le _), hx3, hk3, hi3, hG3⟩ ?_
              clear H
              rintro ⟨k4, x4, ls4, ra4, qn4⟩ _ v16 ⟨uf5, rfl, H, r1, r2, r3, r4, r5⟩
              have hx4 := r2
              have hk4 := r3
              have hi4 := r4
              have hG4 := r5
              refine x_seq <| x_region <| x_b H [.v (.bool (decide ((k4 : Int) < (nA : Int))))] <| x_nil <| x_then <| x_seq ?_
              cases h10 : decide ((k4 : Int) < (nA : Int))
              · skip
                have h10p := of_decide_eq_false h10
                refine x_f (by kernel_rfl) <| x_exit <| x_then_exit <| x_then_exit <| x_blk_exit <| x_then <| x_seq ?_
                refine x_region <| x_b H [.m] <| x_nil <| x_then <| x_retc <| x_ret (.bool true) (by kernel_rfl) (by kernel_rfl) ?_
                exact ⟨rfl, H.below⟩
              have h10p := of_decide_eq_true h10
              refine x_t (by kernel_rfl) <| x_skipc <| x_then <| x_seq <| x_block <| x_seq <| x_region ?_
              obtain ⟨ga, oa, had, hcell⟩ := hA (by omega)
              refine x_ixO (t := 62) had k4 nA cA 74 3 (oa + k4 * 3) (by omega) (by omega) (by kernel_rfl) (by kernel_rfl) (by kernel_rfl) rfl (by kernel_rfl) <| x_loadcn (t := 74) ga (oa + k4 * 3) [.int .i64 ((l.getD k4 (0, 0, 0)).1), .int .i64 ((l.getD k4 (0, 0, 0)).2.1), .int .i64 ((l.getD k4 (0, 0, 0)).2.2)] (hcell _ H.below k4 (by omega)) (by kernel_rfl) rfl (by kernel_rfl) (by kernel_rfl) <| z_box H #[.int .i64 0, .int .i64 0, .int .i64 0] 74 (fun v17 g4 H => ?_)
              refine z_store H 0 0 [.int .i64 ((l.getD k4 (0, 0, 0)).1), .int .i64 ((l.getD k4 (0, 0, 0)).2.1), .int .i64 ((l.getD k4 (0, 0, 0)).2.2)] (fun v18 H => ?_)
              refine x_nil <| x_then <| x_seq <| x_seq <| x_region <| x_b H [.m, .l 0 0, .v (.bool (decide (((l.getD k4 (0, 0, 0)).1) = 1)))] <| x_nil ?_
              refine x_then ?_
              cases h11 : decide (((l.getD k4 (0, 0, 0)).1) = 1)
              · skip
                have h11p := of_decide_eq_false h11
                refine x_f (by kernel_rfl) <| x_skipc <| x_then <| x_seq <| x_region <| x_b H [.m] ?_
                have hx6 := hx4.step hL
                have hi6 := Sinj.step hL hx4 hi4
                have hG6 := Gone.step hL hx4 hG4 hjk
                refine z_call (H.useEP [2, 3, 4, 5, 6, 7, 8] (fun h => step_of hL hx4 hk4 _ h)) ?_
                rintro _ v19 ⟨⟨ev6, lsn6, ran6, qnn6⟩, rfl, H', hk6⟩
                refine ⟨_, rfl, ?_⟩
                clear H
                have H := hsCast H' (L2 := [.row (ev6) 81 3 (List.length (((Rp.step r s z sn pg ns b o c x4)).2)) (List.flatMap int3L (((Rp.step r s z sn pg ns b o c x4)).2)), .blk rp #[.pointer (some ⟨p, 0, none⟩), .int .i64 (((((Rp.step r s z sn pg ns b o c x4)).1).j).1), .int .i64 (((((Rp.step r s z sn pg ns b o c x4)).1).j).2.1), .int .i64 (((((Rp.step r s z sn pg ns b o c x4)).1).j).2.2.1), .int .i64 (((((Rp.step r s z sn pg ns b o c x4)).1).j).2.2.2), .pointer (some ⟨q, 0, none⟩)] 133, .blk p #[.int .i64 r, .int .i64 s, .int .i64 b, .int .i64 o, .int .i64 c, .int .i64 y, .int .i64 z, .slice (some ⟨gl, 0, none⟩) sn cl, .slice (some ⟨gd, 0, none⟩) pg cd, .slice (some ⟨gs, 0, none⟩) ns cs, .int .i64 (((((Rp.step r s z sn pg ns b o c x4)).1).pu : Nat) : Int), .int .i64 (((((Rp.step r s z sn pg ns b o c x4)).1).ru : Nat) : Int)] 118, .row (.slice (some ⟨gl, 0, none⟩) sn cl) 3 1 sn (List.map (Value.int .i64) ((((Rp.step r s z sn pg ns b o c x4)).1).L)), .row (.slice (some ⟨gd, 0, none⟩) pg cd) 4 1 pg (List.map Value.bool ((((Rp.step r s z sn pg ns b o c x4)).1).D)), .row (.slice (some ⟨gs, 0, none⟩) ns cs) 3 1 ns (List.map (Value.int .i64) ((((Rp.step r s z sn pg ns b o c x4)).1).S)), .blk q #[.slice (some ⟨gq, 0, none⟩) 256 cq, .int .i64 (ran6 : Int), .int .i64 (qnn6 : Int)] 170, .row (.slice (some ⟨gq, 0, none⟩) 256 cq) 72 2 256 (List.flatMap entL lsn6), .blk g4 #[.int .i64 ((l.getD k4 (0, 0, 0)).1), .int .i64 ((l.getD k4 (0, 0, 0)).2.1), .int .i64 ((l.getD k4 (0, 0, 0)).2.2)] 74, .row (ov) 3 1 (List.length (srcL y r b o c x.S x.j (Rp.cnt b o c x.j).toNat)) (List.map (Value.int .i64) (srcL y r b o c x.S x.j (Rp.cnt b o c x.j).toNat)), .blk g3 #[.int .i64 x.j.1, .int .i64 x.j.2.1, .int .i64 x.j.2.2.1, .int .i64 x.j.2.2.2] 77, .blk g1 #[.int .i64 r, .int .i64 s, .int .i64 b, .int .i64 o, .int .i64 c, .int .i64 y, .int .i64 z] 25]) (by kernel_rfl)
                clear H'
                replace hk6 : RgOk lsn6 ran6 qnn6 ((Rp.step r s z sn pg ns b o c x4)).1.Q := hk6
                refine x_nil <| x_then <| x_seq <| x_region <| x_b H [.n 11 0 7 25] <| z_callB H (lines_of hL _) fun v20 H => x_b H [.m] ?_
                refine x_nil <| x_then <| x_block <| x_loop (G := Nat) (fun (j : Nat) a w' => ∃ uf6 : Nat → Value, a = frm 177 uf6 [(2, .pointer (some ⟨g1, 0, none⟩)), (5, .pointer (some ⟨rp, 0, none⟩)), (11, ov), (140, .slice ad nA cA), (141, .int .i64 (nA : Int)), (142, .int .i64 (k4 : Int)), (156, .int .i64 ((sn : Int) * c)), (157, .int .i64 (j : Int))] [] ∧ Hs [] w0 w' [.row (ev6) 81 3 (List.length (((Rp.step r s z sn pg ns b o c x4)).2)) (List.flatMap int3L (((Rp.step r s z sn pg ns b o c x4)).2)), .blk rp #[.pointer (some ⟨p, 0, none⟩), .int .i64 (((((Rp.step r s z sn pg ns b o c x4)).1).j).1), .int .i64 (((((Rp.step r s z sn pg ns b o c x4)).1).j).2.1), .int .i64 (((((Rp.step r s z sn pg ns b o c x4)).1).j).2.2.1), .int .i64 (((((Rp.step r s z sn pg ns b o c x4)).1).j).2.2.2), .pointer (some ⟨q, 0, none⟩)] 133, .blk p #[.int .i64 r, .int .i64 s, .int .i64 b, .int .i64 o, .int .i64 c, .int .i64 y, .int .i64 z, .slice (some ⟨gl, 0, none⟩) sn cl, .slice (some ⟨gd, 0, none⟩) pg cd, .slice (some ⟨gs, 0, none⟩) ns cs, .int .i64 (((((Rp.step r s z sn pg ns b o c x4)).1).pu : Nat) : Int), .int .i64 (((((Rp.step r s z sn pg ns b o c x4)).1).ru : Nat) : Int)] 118, .row (.slice (some ⟨gl, 0, none⟩) sn cl) 3 1 sn (List.map (Value.int .i64) ((((Rp.step r s z sn pg ns b o c x4)).1).L)), .row (.slice (some ⟨gd, 0, none⟩) pg cd) 4 1 pg (List.map Value.bool ((((Rp.step r s z sn pg ns b o c x4)).1).D)), .row (.slice (some ⟨gs, 0, none⟩) ns cs) 3 1 ns (List.map (Value.int .i64) ((((Rp.step r s z sn pg ns b o c x4)).1).S)), .blk q #[.slice (some ⟨gq, 0, none⟩) 256 cq, .int .i64 (ran6 : Int), .int .i64 (qnn6 : Int)] 170, .row (.slice (some ⟨gq, 0, none⟩) 256 cq) 72 2 256 (List.flatMap entL lsn6), .blk g4 #[.int .i64 ((l.getD k4 (0, 0, 0)).1), .int .i64 ((l.getD k4 (0, 0, 0)).2.1), .int .i64 ((l.getD k4 (0, 0, 0)).2.2)] 74, .row (ov) 3 1 (List.length (srcL y r b o c x.S x.j (Rp.cnt b o c x.j).toNat)) (List.map (Value.int .i64) (srcL y r b o c x.S x.j (Rp.cnt b o c x.j).toNat)), .blk g3 #[.int .i64 x.j.1, .int .i64 x.j.2.1, .int .i64 x.j.2.2.1, .int .i64 x.j.2.2.2] 77, .blk g1 #[.int .i64 r, .int .i64 s, .int .i64 b, .int .i64 o, .int .i64 c, .int .i64 y, .int .i64 z] 25] ∧ ((j : Int) ≤ (sn : Int) * c)) (fun (j : Nat) => ((sn : Int) * c).toNat - j) 0 ⟨_, frm_of, H, (by omega)⟩ ?_
                clear H
                rintro j _ v21 ⟨uf6, rfl, H, r1⟩
                refine x_seq <| x_region <| x_b H [.v (.bool (decide ((j : Int) < ((sn : Int) * c))))] <| x_nil <| x_then <| x_seq ?_
                cases h12 : decide ((j : Int) < ((sn : Int) * c))
                · skip
                  have h12p := of_decide_eq_false h12
                  refine x_f (by kernel_rfl) <| x_exit <| x_then_exit <| x_then_exit <| x_blk_exit <| x_blk <| x_then ?_
                  refine x_region <| z_ar ((k4 : Int) + 1) <| x_b H [.m] <| x_nil <| x_then ?_
                  replace H := H.pk [9, 1, 2, 3, 4, 5, 6, 7, 10, 11]
                  exact ⟨(k4 + 1, (((Rp.step r s z sn pg ns b o c x4)).1), lsn6, ran6, qnn6), (by dsimp only; omega), _, frm_of, H, (by omega), hx6, hk6, hi6, hG6⟩
                have h12p := of_decide_eq_true h12
                refine x_t (by kernel_rfl) <| x_skipc <| x_then <| x_seq <| x_block <| x_seq <| x_region ?_
                refine x_b H [.m, .m] <| x_nil <| x_then <| x_seq <| x_region <| x_b H [.m, .m] <| z_callB (v := .tuple #[.int .i64 (rtX y r b o c (((Rp.step r s z sn pg ns b o c x4)).1) (j : Int)), .int .i64 ((((Rp.step r s z sn pg ns b o c x4)).1).L.getD ((j : Int) / c).toNat 0), .int .i64 (pgAt y r b o ((((Rp.step r s z sn pg ns b o c x4)).1).L.getD ((j : Int) / c).toNat 0) / 16384), .int .i64 0]) H (RRoute_of hL hx6 (j : Int) (show _ ∧ _ from ⟨by omega, by omega⟩) _ (H.ro1 [1, 2, 3, 4, 5])) fun v22 H => ?_
                refine x_b H [.m, .m, .m, .m, .m, .m, .m, .m, .m] <| x_nil <| x_then <| x_seq <| x_region <| x_b H [.m, .m, .m, .m, .m] <| z_callB (v := .bool (decide ((rtX y r b o c (((Rp.step r s z sn pg ns b o c x4)).1) (j : Int)) ∈ (srcL y r b o c x.S x.j (Rp.cnt b o c x.j).toNat)))) H (has21_any (srcL y r b o c x.S x.j (Rp.cnt b o c x.j).toNat) (by rw [srcL_len]; omega) (rtX y r b o c (((Rp.step r s z sn pg ns b o c x4)).1) (j : Int)) _ (H.ro1 [9])) fun v23 H => ?_
                refine x_b H [.v (.bool (decide ((rtX y r b o c (((Rp.step r s z sn pg ns b o c x4)).1) (j : Int)) ∈ (srcL y r b o c x.S x.j (Rp.cnt b o c x.j).toNat))))] <| x_nil <| x_then ?_
                cases h13 : decide ((rtX y r b o c (((Rp.step r s z sn pg ns b o c x4)).1) (j : Int)) ∈ (srcL y r b o c x.S x.j (Rp.cnt b o c x.j).toNat))
                · skip
                  have h13p := of_decide_eq_false h13
                  refine x_f (by kernel_rfl) <| x_skipc <| x_blk <| x_then <| x_region <| z_ar ((j : Int) + 1) <| x_b H [.m] ?_
                  refine x_nil <| x_then ?_
                  replace H := H.pk [0, 1, 2, 3, 4, 5, 6, 7, 8, 9, 10, 11]
                  exact ⟨(j + 1), (by omega), _, frm_of, H, (by omega)⟩
                have h13p := of_decide_eq_true h13
                exact absurd h13p (fun hm => by obtain ⟨i, hi0, e⟩ := srcL_mem hm; exact Gone.route hL hx6 hi6 hG6 hx.v hjk2 (by omega) (by omega) (by omega) (by omega) e)
              have h11p := of_decide_eq_true h11
              refine x_t (by kernel_rfl) <| x_region <| x_b H [.m, .m, .n 0 1 2 72] ?_
              have hx5 := hx4.ask hL (l.getD k4 (0, 0, 0)).2
              have hi5 := Sinj.ask (r := r) (s := s) (z := z) (sn := sn) (a := (l.getD k4 (0, 0, 0)).2) hL hi4
              have hG5 := Gone.ask (a := (l.getD k4 (0, 0, 0)).2) hL hG4
              refine z_call (H.useEP [2, 3, 4, 5, 6, 7, 8] (fun h => ask_of hL hx4 hk4 (l.getD k4 (0, 0, 0)).2 _ h)) ?_
              rintro _ v24 ⟨⟨ev5, lsn5, ran5, qnn5⟩, rfl, H', hk5⟩
              refine ⟨_, rfl, ?_⟩
              clear H
              have H := hsCast H' (L2 := [.row (ev5) 81 3 (List.length (Rp.askV r s z sn ns x4 (l.getD k4 (0, 0, 0)).2)) (List.flatMap int3L (Rp.askV r s z sn ns x4 (l.getD k4 (0, 0, 0)).2)), .blk rp #[.pointer (some ⟨p, 0, none⟩), .int .i64 (((Rp.ask r s z sn ns x4 (l.getD k4 (0, 0, 0)).2).j).1), .int .i64 (((Rp.ask r s z sn ns x4 (l.getD k4 (0, 0, 0)).2).j).2.1), .int .i64 (((Rp.ask r s z sn ns x4 (l.getD k4 (0, 0, 0)).2).j).2.2.1), .int .i64 (((Rp.ask r s z sn ns x4 (l.getD k4 (0, 0, 0)).2).j).2.2.2), .pointer (some ⟨q, 0, none⟩)] 133, .blk p #[.int .i64 r, .int .i64 s, .int .i64 b, .int .i64 o, .int .i64 c, .int .i64 y, .int .i64 z, .slice (some ⟨gl, 0, none⟩) sn cl, .slice (some ⟨gd, 0, none⟩) pg cd, .slice (some ⟨gs, 0, none⟩) ns cs, .int .i64 (((Rp.ask r s z sn ns x4 (l.getD k4 (0, 0, 0)).2).pu : Nat) : Int), .int .i64 (((Rp.ask r s z sn ns x4 (l.getD k4 (0, 0, 0)).2).ru : Nat) : Int)] 118, .row (.slice (some ⟨gl, 0, none⟩) sn cl) 3 1 sn (List.map (Value.int .i64) ((Rp.ask r s z sn ns x4 (l.getD k4 (0, 0, 0)).2).L)), .row (.slice (some ⟨gd, 0, none⟩) pg cd) 4 1 pg (List.map Value.bool ((Rp.ask r s z sn ns x4 (l.getD k4 (0, 0, 0)).2).D)), .row (.slice (some ⟨gs, 0, none⟩) ns cs) 3 1 ns (List.map (Value.int .i64) ((Rp.ask r s z sn ns x4 (l.getD k4 (0, 0, 0)).2).S)), .blk q #[.slice (some ⟨gq, 0, none⟩) 256 cq, .int .i64 (ran5 : Int), .int .i64 (qnn5 : Int)] 170, .row (.slice (some ⟨gq, 0, none⟩) 256 cq) 72 2 256 (List.flatMap entL lsn5), .blk g4 #[.int .i64 ((l.getD k4 (0, 0, 0)).1), .int .i64 ((l.getD k4 (0, 0, 0)).2.1), .int .i64 ((l.getD k4 (0, 0, 0)).2.2)] 74, .row (ov) 3 1 (List.length (srcL y r b o c x.S x.j (Rp.cnt b o c x.j).toNat)) (List.map (Value.int .i64) (srcL y r b o c x.S x.j (Rp.cnt b o c x.j).toNat)), .blk g3 #[.int .i64 x.j.1, .int .i64 x.j.2.1, .int .i64 x.j.2.2.1, .int .i64 x.j.2.2.2] 77, .blk g1 #[.int .i64 r, .int .i64 s, .int .i64 b, .int .i64 o, .int .i64 c, .int .i64 y, .int .i64 z] 25]) (by kernel_rfl)
              clear H'
              replace hk5 : RgOk lsn5 ran5 qnn5 (Rp.ask r s z sn ns x4 (l.getD k4 (0, 0, 0)).2).Q := hk5
              refine x_nil <| x_then <| x_seq <| x_region <| x_b H [.m] ?_
              have hx6 := hx5.step hL
              have hi6 := Sinj.step hL hx5 hi5
              have hG6 := Gone.step hL hx5 hG5 hjk
              refine z_call (H.useEP [1, 2, 3, 4, 5, 6, 7] (fun h => step_of hL hx5 hk5 _ h)) ?_
              rintro _ v25 ⟨⟨ev6, lsn6, ran6, qnn6⟩, rfl, H', hk6⟩
              refine ⟨_, rfl, ?_⟩
              clear H
              have H := hsCast H' (L2 := [.row (ev6) 81 3 (List.length (((Rp.step r s z sn pg ns b o c (Rp.ask r s z sn ns x4 (l.getD k4 (0, 0, 0)).2))).2)) (List.flatMap int3L (((Rp.step r s z sn pg ns b o c (Rp.ask r s z sn ns x4 (l.getD k4 (0, 0, 0)).2))).2)), .blk rp #[.pointer (some ⟨p, 0, none⟩), .int .i64 (((((Rp.step r s z sn pg ns b o c (Rp.ask r s z sn ns x4 (l.getD k4 (0, 0, 0)).2))).1).j).1), .int .i64 (((((Rp.step r s z sn pg ns b o c (Rp.ask r s z sn ns x4 (l.getD k4 (0, 0, 0)).2))).1).j).2.1), .int .i64 (((((Rp.step r s z sn pg ns b o c (Rp.ask r s z sn ns x4 (l.getD k4 (0, 0, 0)).2))).1).j).2.2.1), .int .i64 (((((Rp.step r s z sn pg ns b o c (Rp.ask r s z sn ns x4 (l.getD k4 (0, 0, 0)).2))).1).j).2.2.2), .pointer (some ⟨q, 0, none⟩)] 133, .blk p #[.int .i64 r, .int .i64 s, .int .i64 b, .int .i64 o, .int .i64 c, .int .i64 y, .int .i64 z, .slice (some ⟨gl, 0, none⟩) sn cl, .slice (some ⟨gd, 0, none⟩) pg cd, .slice (some ⟨gs, 0, none⟩) ns cs, .int .i64 (((((Rp.step r s z sn pg ns b o c (Rp.ask r s z sn ns x4 (l.getD k4 (0, 0, 0)).2))).1).pu : Nat) : Int), .int .i64 (((((Rp.step r s z sn pg ns b o c (Rp.ask r s z sn ns x4 (l.getD k4 (0, 0, 0)).2))).1).ru : Nat) : Int)] 118, .row (.slice (some ⟨gl, 0, none⟩) sn cl) 3 1 sn (List.map (Value.int .i64) ((((Rp.step r s z sn pg ns b o c (Rp.ask r s z sn ns x4 (l.getD k4 (0, 0, 0)).2))).1).L)), .row (.slice (some ⟨gd, 0, none⟩) pg cd) 4 1 pg (List.map Value.bool ((((Rp.step r s z sn pg ns b o c (Rp.ask r s z sn ns x4 (l.getD k4 (0, 0, 0)).2))).1).D)), .row (.slice (some ⟨gs, 0, none⟩) ns cs) 3 1 ns (List.map (Value.int .i64) ((((Rp.step r s z sn pg ns b o c (Rp.ask r s z sn ns x4 (l.getD k4 (0, 0, 0)).2))).1).S)), .blk q #[.slice (some ⟨gq, 0, none⟩) 256 cq, .int .i64 (ran6 : Int), .int .i64 (qnn6 : Int)] 170, .row (.slice (some ⟨gq, 0, none⟩) 256 cq) 72 2 256 (List.flatMap entL lsn6), .row (ev5) 81 3 (List.length (Rp.askV r s z sn ns x4 (l.getD k4 (0, 0, 0)).2)) (List.flatMap int3L (Rp.askV r s z sn ns x4 (l.getD k4 (0, 0, 0)).2)), .blk g4 #[.int .i64 ((l.getD k4 (0, 0, 0)).1), .int .i64 ((l.getD k4 (0, 0, 0)).2.1), .int .i64 ((l.getD k4 (0, 0, 0)).2.2)] 74, .row (ov) 3 1 (List.length (srcL y r b o c x.S x.j (Rp.cnt b o c x.j).toNat)) (List.map (Value.int .i64) (srcL y r b o c x.S x.j (Rp.cnt b o c x.j).toNat)), .blk g3 #[.int .i64 x.j.1, .int .i64 x.j.2.1, .int .i64 x.j.2.2.1, .int .i64 x.j.2.2.2] 77, .blk g1 #[.int .i64 r, .int .i64 s, .int .i64 b, .int .i64 o, .int .i64 c, .int .i64 y, .int .i64 z] 25]) (by kernel_rfl)
              clear H'
              replace hk6 : RgOk lsn6 ran6 qnn6 ((Rp.step r s z sn pg ns b o c (Rp.ask r s z sn ns x4 (l.getD k4 (0, 0, 0)).2))).1.Q := hk6
              refine x_nil <| x_then <| x_seq <| x_region <| x_b H [.n 12 0 7 25] <| z_callB H (lines_of hL _) fun v26 H => x_b H [.m] ?_
              refine x_nil <| x_then <| x_block <| x_loop (G := Nat) (fun (j : Nat) a w' => ∃ uf7 : Nat → Value, a = frm 177 uf7 [(2, .pointer (some ⟨g1, 0, none⟩)), (5, .pointer (some ⟨rp, 0, none⟩)), (11, ov), (140, .slice ad nA cA), (141, .int .i64 (nA : Int)), (142, .int .i64 (k4 : Int)), (156, .int .i64 ((sn : Int) * c)), (157, .int .i64 (j : Int))] [] ∧ Hs [] w0 w' [.row (ev6) 81 3 (List.length (((Rp.step r s z sn pg ns b o c (Rp.ask r s z sn ns x4 (l.getD k4 (0, 0, 0)).2))).2)) (List.flatMap int3L (((Rp.step r s z sn pg ns b o c (Rp.ask r s z sn ns x4 (l.getD k4 (0, 0, 0)).2))).2)), .blk rp #[.pointer (some ⟨p, 0, none⟩), .int .i64 (((((Rp.step r s z sn pg ns b o c (Rp.ask r s z sn ns x4 (l.getD k4 (0, 0, 0)).2))).1).j).1), .int .i64 (((((Rp.step r s z sn pg ns b o c (Rp.ask r s z sn ns x4 (l.getD k4 (0, 0, 0)).2))).1).j).2.1), .int .i64 (((((Rp.step r s z sn pg ns b o c (Rp.ask r s z sn ns x4 (l.getD k4 (0, 0, 0)).2))).1).j).2.2.1), .int .i64 (((((Rp.step r s z sn pg ns b o c (Rp.ask r s z sn ns x4 (l.getD k4 (0, 0, 0)).2))).1).j).2.2.2), .pointer (some ⟨q, 0, none⟩)] 133, .blk p #[.int .i64 r, .int .i64 s, .int .i64 b, .int .i64 o, .int .i64 c, .int .i64 y, .int .i64 z, .slice (some ⟨gl, 0, none⟩) sn cl, .slice (some ⟨gd, 0, none⟩) pg cd, .slice (some ⟨gs, 0, none⟩) ns cs, .int .i64 (((((Rp.step r s z sn pg ns b o c (Rp.ask r s z sn ns x4 (l.getD k4 (0, 0, 0)).2))).1).pu : Nat) : Int), .int .i64 (((((Rp.step r s z sn pg ns b o c (Rp.ask r s z sn ns x4 (l.getD k4 (0, 0, 0)).2))).1).ru : Nat) : Int)] 118, .row (.slice (some ⟨gl, 0, none⟩) sn cl) 3 1 sn (List.map (Value.int .i64) ((((Rp.step r s z sn pg ns b o c (Rp.ask r s z sn ns x4 (l.getD k4 (0, 0, 0)).2))).1).L)), .row (.slice (some ⟨gd, 0, none⟩) pg cd) 4 1 pg (List.map Value.bool ((((Rp.step r s z sn pg ns b o c (Rp.ask r s z sn ns x4 (l.getD k4 (0, 0, 0)).2))).1).D)), .row (.slice (some ⟨gs, 0, none⟩) ns cs) 3 1 ns (List.map (Value.int .i64) ((((Rp.step r s z sn pg ns b o c (Rp.ask r s z sn ns x4 (l.getD k4 (0, 0, 0)).2))).1).S)), .blk q #[.slice (some ⟨gq, 0, none⟩) 256 cq, .int .i64 (ran6 : Int), .int .i64 (qnn6 : Int)] 170, .row (.slice (some ⟨gq, 0, none⟩) 256 cq) 72 2 256 (List.flatMap entL lsn6), .row (ev5) 81 3 (List.length (Rp.askV r s z sn ns x4 (l.getD k4 (0, 0, 0)).2)) (List.flatMap int3L (Rp.askV r s z sn ns x4 (l.getD k4 (0, 0, 0)).2)), .blk g4 #[.int .i64 ((l.getD k4 (0, 0, 0)).1), .int .i64 ((l.getD k4 (0, 0, 0)).2.1), .int .i64 ((l.getD k4 (0, 0, 0)).2.2)] 74, .row (ov) 3 1 (List.length (srcL y r b o c x.S x.j (Rp.cnt b o c x.j).toNat)) (List.map (Value.int .i64) (srcL y r b o c x.S x.j (Rp.cnt b o c x.j).toNat)), .blk g3 #[.int .i64 x.j.1, .int .i64 x.j.2.1, .int .i64 x.j.2.2.1, .int .i64 x.j.2.2.2] 77, .blk g1 #[.int .i64 r, .int .i64 s, .int .i64 b, .int .i64 o, .int .i64 c, .int .i64 y, .int .i64 z] 25] ∧ ((j : Int) ≤ (sn : Int) * c)) (fun (j : Nat) => ((sn : Int) * c).toNat - j) 0 ⟨_, frm_of, H, (by omega)⟩ ?_
              clear H
              rintro j _ v27 ⟨uf7, rfl, H, r1⟩
              refine x_seq <| x_region <| x_b H [.v (.bool (decide ((j : Int) < ((sn : Int) * c))))] <| x_nil <| x_then <| x_seq ?_
              cases h14 : decide ((j : Int) < ((sn : Int) * c))
              · skip
                have h14p := of_decide_eq_false h14
                refine x_f (by kernel_rfl) <| x_exit <| x_then_exit <| x_then_exit <| x_blk_exit <| x_blk <| x_then ?_
                refine x_region <| z_ar ((k4 : Int) + 1) <| x_b H [.m] <| x_nil <| x_then ?_
                replace H := H.pk [10, 1, 2, 3, 4, 5, 6, 7, 11, 12]
                exact ⟨(k4 + 1, (((Rp.step r s z sn pg ns b o c (Rp.ask r s z sn ns x4 (l.getD k4 (0, 0, 0)).2))).1), lsn6, ran6, qnn6), (by dsimp only; omega), _, frm_of, H, (by omega), hx6, hk6, hi6, hG6⟩
              have h14p := of_decide_eq_true h14
              refine x_t (by kernel_rfl) <| x_skipc <| x_then <| x_seq <| x_block <| x_seq <| x_region ?_
              refine x_b H [.m, .m] <| x_nil <| x_then <| x_seq <| x_region <| x_b H [.m, .m] <| z_callB (v := .tuple #[.int .i64 (rtX y r b o c (((Rp.step r s z sn pg ns b o c (Rp.ask r s z sn ns x4 (l.getD k4 (0, 0, 0)).2))).1) (j : Int)), .int .i64 ((((Rp.step r s z sn pg ns b o c (Rp.ask r s z sn ns x4 (l.getD k4 (0, 0, 0)).2))).1).L.getD ((j : Int) / c).toNat 0), .int .i64 (pgAt y r b o ((((Rp.step r s z sn pg ns b o c (Rp.ask r s z sn ns x4 (l.getD k4 (0, 0, 0)).2))).1).L.getD ((j : Int) / c).toNat 0) / 16384), .int .i64 0]) H (RRoute_of hL hx6 (j : Int) (show _ ∧ _ from ⟨by omega, by omega⟩) _ (H.ro1 [1, 2, 3, 4, 5])) fun v28 H => ?_
              refine x_b H [.m, .m, .m, .m, .m, .m, .m, .m, .m] <| x_nil <| x_then <| x_seq <| x_region <| x_b H [.m, .m, .m, .m, .m] <| z_callB (v := .bool (decide ((rtX y r b o c (((Rp.step r s z sn pg ns b o c (Rp.ask r s z sn ns x4 (l.getD k4 (0, 0, 0)).2))).1) (j : Int)) ∈ (srcL y r b o c x.S x.j (Rp.cnt b o c x.j).toNat)))) H (has21_any (srcL y r b o c x.S x.j (Rp.cnt b o c x.j).toNat) (by rw [srcL_len]; omega) (rtX y r b o c (((Rp.step r s z sn pg ns b o c (Rp.ask r s z sn ns x4 (l.getD k4 (0, 0, 0)).2))).1) (j : Int)) _ (H.ro1 [10])) fun v29 H => ?_
              refine x_b H [.v (.bool (decide ((rtX y r b o c (((Rp.step r s z sn pg ns b o c (Rp.ask r s z sn ns x4 (l.getD k4 (0, 0, 0)).2))).1) (j : Int)) ∈ (srcL y r b o c x.S x.j (Rp.cnt b o c x.j).toNat))))] <| x_nil <| x_then ?_
              cases h15 : decide ((rtX y r b o c (((Rp.step r s z sn pg ns b o c (Rp.ask r s z sn ns x4 (l.getD k4 (0, 0, 0)).2))).1) (j : Int)) ∈ (srcL y r b o c x.S x.j (Rp.cnt b o c x.j).toNat))
              · skip
                have h15p := of_decide_eq_false h15
                refine x_f (by kernel_rfl) <| x_skipc <| x_blk <| x_then <| x_region <| z_ar ((j : Int) + 1) <| x_b H [.m] ?_
                refine x_nil <| x_then ?_
                replace H := H.pk [0, 1, 2, 3, 4, 5, 6, 7, 8, 9, 10, 11, 12]
                exact ⟨(j + 1), (by omega), _, frm_of, H, (by omega)⟩
              have h15p := of_decide_eq_true h15
              exact absurd h15p (fun hm => by obtain ⟨i, hi0, e⟩ := srcL_mem hm; exact Gone.route hL hx6 hi6 hG6 hx.v hjk2 (by omega) (by omega) (by omega) (by omega) e)
            · skip
              refine x_seq <| x_seq <| z_region_whole H <| q_b [.m] <| q_callR (.agg #[.int .i64 x3.j.1, .int .i64 x3.j.2.1, .int .i64 x3.j.2.2.1, .int .i64 x3.j.2.2.2]) (by kernel_rfl) (fun _ => by kernel_rfl) (fun _ H => (Job_of (x := x3) _ (H.ro1 [1]))) <| q_b [.n 8 0 4 77] <| q_val (.bool (decide ((x3.j.1 : Int) = x.j.1) && (decide ((x3.j.2.1 : Int) = x.j.2.1) && (decide ((x3.j.2.2.1 : Int) = x.j.2.2.1) && (decide ((x3.j.2.2.2 : Int) = x.j.2.2.2) && true))))) (by kernel_rfl) (fun _ => (run_eqS (t := 77) (x := .tmp 121) (y := .tmp 122) (xs := #[.int .i64 x3.j.1, .int .i64 x3.j.2.1, .int .i64 x3.j.2.2.1, .int .i64 x3.j.2.2.2]) (ys := #[.int .i64 x.j.1, .int .i64 x.j.2.1, .int .i64 x.j.2.2.1, .int .i64 x.j.2.2.2]) (B := decide ((x3.j.1 : Int) = x.j.1) && (decide ((x3.j.2.1 : Int) = x.j.2.1) && (decide ((x3.j.2.2.1 : Int) = x.j.2.2.1) && (decide ((x3.j.2.2.2 : Int) = x.j.2.2.2) && true)))) (by kernel_rfl) (by kernel_rfl) (by kernel_rfl))) ?_
              refine q_b [.v (.bool (decide ((x3.j.1 : Int) = x.j.1) && (decide ((x3.j.2.1 : Int) = x.j.2.1) && (decide ((x3.j.2.2.1 : Int) = x.j.2.2.1) && (decide ((x3.j.2.2.2 : Int) = x.j.2.2.2) && true)))))] ?_
              cases h16 : decide ((x3.j.1 : Int) = x.j.1) && (decide ((x3.j.2.1 : Int) = x.j.2.1) && (decide ((x3.j.2.2.1 : Int) = x.j.2.2.1) && (decide ((x3.j.2.2.2 : Int) = x.j.2.2.2) && true)))
              · skip
                refine q_b [.m] <| q_callR (.agg #[.int .i64 x3.j.1, .int .i64 x3.j.2.1, .int .i64 x3.j.2.2.1, .int .i64 x3.j.2.2.2]) (by kernel_rfl) (fun _ => by kernel_rfl) (fun _ H => (Job_of (x := x3) _ (H.ro1 [1]))) <| q_b [.m, .m, .l 8 0, .v (.bool (decide (x3.j.1 = x.j.1))), .v (.bool (decide (x3.j.1 = x.j.1)))] ?_
                cases h17 : decide (x3.j.1 = x.j.1)
                · skip
                  have h17p := of_decide_eq_false h17
                  refine q_b [.k, .k, .k, .k, .k, .k, .m, .m] <| q_nil ?_
                  clear H
                  intro v30 H
                  refine x_then <| x_f (by kernel_rfl) <| x_skipc <| x_then ?_
                  replace H := H.pk [0, 1, 2, 3, 4, 5, 6, 7, 8, 9]
                  exact hSp1 _ _ ⟨_, frm_of, H⟩
                have h17p := of_decide_eq_true h17
                refine q_b [.m] <| q_callR (.agg #[.int .i64 x3.j.1, .int .i64 x3.j.2.1, .int .i64 x3.j.2.2.1, .int .i64 x3.j.2.2.2]) (by kernel_rfl) (fun _ => by kernel_rfl) (fun _ H => (Job_of (x := x3) _ (H.ro1 [1]))) <| q_b [.m, .m, .l 8 1, .v (.bool (decide (x3.j.2.1 = x.j.2.1))), .v (.bool (decide (x3.j.2.1 = x.j.2.1))), .v (.bool (decide (x3.j.2.1 = x.j.2.1)))] <| q_nil ?_
                clear H
                intro v31 H
                refine x_then ?_
                cases h18 : decide (x3.j.2.1 = x.j.2.1)
                · skip
                  have h18p := of_decide_eq_false h18
                  refine x_f (by kernel_rfl) <| x_skipc <| x_then ?_
                  replace H := H.pk [0, 1, 2, 3, 4, 5, 6, 7, 8, 9]
                  exact hSp1 _ _ ⟨_, frm_of, H⟩
                have h18p := of_decide_eq_true h18
                exact absurd ⟨h17p, h18p⟩ hot
              have zz := h16; simp only [Bool.and_eq_true, decide_eq_true_eq] at zz; exact absurd ⟨zz.1, zz.2.1⟩ hot
          have h9p := of_decide_eq_true h9
          refine x_t (by kernel_rfl) <| x_skipc <| x_then <| x_seq <| x_block <| x_seq <| x_seq ?_
          refine z_region_whole H <| q_b [.m] <| q_callR (.agg #[.int .i64 x3.j.1, .int .i64 x3.j.2.1, .int .i64 x3.j.2.2.1, .int .i64 x3.j.2.2.2]) (by kernel_rfl) (fun _ => by kernel_rfl) (fun _ H => (Job_of (x := x3) _ (H.ro1 [1]))) <| q_b [.m, .m, .l 8 0, .v (.bool (!(decide (x3.j.1 = x.j.1)))), .v (.bool (!(decide (x3.j.1 = x.j.1))))] ?_
          cases h19 : decide (x3.j.1 = x.j.1)
          · skip
            have h19p := of_decide_eq_false h19
            exact absurd h19 (by rw [r6 (by omega)]; simp [Rp.at_])
          have h19p := of_decide_eq_true h19
          refine q_b [.m] <| q_callR (.agg #[.int .i64 x3.j.1, .int .i64 x3.j.2.1, .int .i64 x3.j.2.2.1, .int .i64 x3.j.2.2.2]) (by kernel_rfl) (fun _ => by kernel_rfl) (fun _ H => (Job_of (x := x3) _ (H.ro1 [1]))) <| q_b [.m, .m, .l 8 1, .v (.bool (!(decide (x3.j.2.1 = x.j.2.1)))), .v (.bool (!(decide (x3.j.2.1 = x.j.2.1)))), .v (.bool (!(decide (x3.j.2.1 = x.j.2.1))))] ?_
          cases h20 : decide (x3.j.2.1 = x.j.2.1)
          · skip
            have h20p := of_decide_eq_false h20
            exact absurd h20 (by rw [r6 (by omega)]; simp [Rp.at_])
          have h20p := of_decide_eq_true h20
          refine q_b [.m] <| q_callR (.agg #[.int .i64 x3.j.1, .int .i64 x3.j.2.1, .int .i64 x3.j.2.2.1, .int .i64 x3.j.2.2.2]) (by kernel_rfl) (fun _ => by kernel_rfl) (fun _ H => (Job_of (x := x3) _ (H.ro1 [1]))) <| q_b [.m, .m, .v (.bool (!(decide (x3.j.2.2.2 = m)))), .v (.bool (!(decide (x3.j.2.2.2 = m))))] <| q_nil ?_
          clear H
          intro v32 H
          refine x_then ?_
          cases h21 : decide (x3.j.2.2.2 = m)
          · skip
            have h21p := of_decide_eq_false h21
            exact absurd h21 (by rw [r6 (by omega)]; simp [Rp.at_])
          have h21p := of_decide_eq_true h21
          refine x_f (by kernel_rfl) <| x_skipc <| x_then <| x_region <| x_b H [.m] ?_
          have hx1' := hx3.step hL
          refine z_call (H.useEP [1, 2, 3, 4, 5, 6, 7] (fun h => step_of hL hx3 hk3 _ h)) ?_
          rintro _ v33 ⟨⟨evr, lsn1, ran1, qnn1⟩, rfl, H', hk1⟩
          refine ⟨_, rfl, ?_⟩
          clear H
          have H := hsCast H' (L2 := [.row (evr) 81 3 (List.length (((Rp.step r s z sn pg ns b o c x3)).2)) (List.flatMap int3L (((Rp.step r s z sn pg ns b o c x3)).2)), .blk rp #[.pointer (some ⟨p, 0, none⟩), .int .i64 (((((Rp.step r s z sn pg ns b o c x3)).1).j).1), .int .i64 (((((Rp.step r s z sn pg ns b o c x3)).1).j).2.1), .int .i64 (((((Rp.step r s z sn pg ns b o c x3)).1).j).2.2.1), .int .i64 (((((Rp.step r s z sn pg ns b o c x3)).1).j).2.2.2), .pointer (some ⟨q, 0, none⟩)] 133, .blk p #[.int .i64 r, .int .i64 s, .int .i64 b, .int .i64 o, .int .i64 c, .int .i64 y, .int .i64 z, .slice (some ⟨gl, 0, none⟩) sn cl, .slice (some ⟨gd, 0, none⟩) pg cd, .slice (some ⟨gs, 0, none⟩) ns cs, .int .i64 (((((Rp.step r s z sn pg ns b o c x3)).1).pu : Nat) : Int), .int .i64 (((((Rp.step r s z sn pg ns b o c x3)).1).ru : Nat) : Int)] 118, .row (.slice (some ⟨gl, 0, none⟩) sn cl) 3 1 sn (List.map (Value.int .i64) ((((Rp.step r s z sn pg ns b o c x3)).1).L)), .row (.slice (some ⟨gd, 0, none⟩) pg cd) 4 1 pg (List.map Value.bool ((((Rp.step r s z sn pg ns b o c x3)).1).D)), .row (.slice (some ⟨gs, 0, none⟩) ns cs) 3 1 ns (List.map (Value.int .i64) ((((Rp.step r s z sn pg ns b o c x3)).1).S)), .blk q #[.slice (some ⟨gq, 0, none⟩) 256 cq, .int .i64 (ran1 : Int), .int .i64 (qnn1 : Int)] 170, .row (.slice (some ⟨gq, 0, none⟩) 256 cq) 72 2 256 (List.flatMap entL lsn1), .row (ov) 3 1 (List.length (srcL y r b o c x.S x.j (Rp.cnt b o c x.j).toNat)) (List.map (Value.int .i64) (srcL y r b o c x.S x.j (Rp.cnt b o c x.j).toNat)), .blk g3 #[.int .i64 x.j.1, .int .i64 x.j.2.1, .int .i64 x.j.2.2.1, .int .i64 x.j.2.2.2] 77, .blk g1 #[.int .i64 r, .int .i64 s, .int .i64 b, .int .i64 o, .int .i64 c, .int .i64 y, .int .i64 z] 25]) (by kernel_rfl)
          clear H'
          replace hk1 : RgOk lsn1 ran1 qnn1 ((Rp.step r s z sn pg ns b o c x3)).1.Q := hk1
          refine x_nil <| x_blk <| x_then <| x_region <| x_b H [.m] <| z_ar (m + 1) <| x_b H [.m] ?_
          refine x_nil <| x_then ?_
          replace H := H.pk [8, 1, 2, 3, 4, 5, 6, 7, 9, 10]
          exact ⟨((((Rp.step r s z sn pg ns b o c x3)).1), lsn1, ran1, qnn1, m + 1), (by dsimp only; omega), _, frm_of, H, (by omega), (by omega), hx1', hk1, (Sinj.step hL hx3 hi3), (fun h => by rw [r6 (by omega)]; exact Rp.at_step hj0 (by omega)), (fun h => by have e := r6 (by omega); rw [e]; have hg := Gone.first hL (e ▸ hx3) (show ¬ (x.at_ m).j.1 = 0 from hj0) (show (x.at_ m).j.2.2.2 + 1 = Rp.cnt b o c (x.at_ m).j from h); exact ⟨hg.pg, hg.rk, hg.ext⟩)⟩
        have h8p := of_decide_eq_true h8
        refine x_t (by kernel_rfl) <| x_skipc <| x_then <| x_seq <| x_block <| x_seq <| x_region ?_
        refine x_b H [.m, .m] <| x_nil <| x_then <| x_seq <| z_region_whole H <| q_b [.n 8 0 4 77, .m] <| q_callR (.pointer (some ⟨p, 0, none⟩)) (by kernel_rfl) (fun _ => by kernel_rfl) (fun _ H => (Map_of (x := x) _ (H.ro1 [1]))) ?_
        refine q_b [.m] <| q_callR (.tuple #[.int .i64 (atI y r b o c x.S x.j.1 x.j.2.1 (k2 : Int)), .int .i64 0]) (by kernel_rfl) (fun _ => by kernel_rfl) (fun _ H => (Source_in hL hx.v x.j hjr (by omega) hkk (k2 : Int) (show _ ∧ _ from ⟨by omega, by omega⟩) _ (H.ro1 [2, 3, 4, 5]))) <| q_b [.m, .m, .m, .m, .m] <| q_nil ?_
        clear H
        intro v34 H
        refine x_then <| x_region <| x_b H [.m, .m] <| x_box' H #[.int .i64 (atI y r b o c x.S x.j.1 x.j.2.1 (k2 : Int))] 3 1 (by kernel_rfl) rfl (by kernel_rfl) ?_
        clear H
        intro v35 g5 H
        refine x_append H 1 (ov) 40 3 1 8 (List.length (srcL y r b o c x.S x.j k2)) (.int .i64 0) (List.map (Value.int .i64) (srcL y r b o c x.S x.j k2)) ⟨g5, 0, none⟩ 1 1 [.int .i64 (atI y r b o c x.S x.j.1 x.j.2.1 (k2 : Int))] rfl (by kernel_rfl) (by kernel_rfl) rfl (by decide) (by decide) rfl (fun j u hj => by rw [add_none]; exact cellOf (H.blk 0 rfl) (by simpa using hj)) (List.all_eq_true.1 (by kernel_rfl)) (by unfold maxLen; omega) (by omega) (by kernel_rfl) rfl (by kernel_rfl) ?_
        clear H
        intro v36 g6 c6 hc6 H
        rw [show (((List.length (srcL y r b o c x.S x.j k2)) + 1) : Nat) = (List.length (srcL y r b o c x.S x.j (k2 + 1))) from (by rw [srcL_succ, List.length_append]; rfl)] at H ⊢
        rw [show (List.map (Value.int .i64) (srcL y r b o c x.S x.j k2)) ++ [.int .i64 (atI y r b o c x.S x.j.1 x.j.2.1 (k2 : Int))] = (List.map (Value.int .i64) (srcL y r b o c x.S x.j (k2 + 1))) from (by rw [srcL_succ, List.map_append]; rfl)] at H
        replace H := H.pk [1, 2, 3, 4, 5, 6, 7, 8, 9, 10]
        refine x_b H [.m] <| x_nil <| x_blk <| x_then <| x_region <| z_ar ((k2 : Int) + 1) <| x_b H [.m] ?_
        refine x_nil <| x_then ?_
        replace H := H.pk [0, 1, 2, 3, 4, 5, 6, 7, 8, 9]
        exact ⟨(k2 + 1, .slice (some ⟨g6, 0, none⟩) (List.length (srcL y r b o c x.S x.j (k2 + 1))) c6), (by dsimp only; omega), _, frm_of, H, (by omega)⟩
      have h7p := of_decide_eq_true h7
      refine x_t (by kernel_rfl) <| x_seq <| x_region <| x_b H [.m] <| x_nil <| x_then <| x_retc ?_
      refine x_then_ret <| x_ret (.bool true) (by kernel_rfl) (by kernel_rfl) ?_
      exact ⟨rfl, H.below⟩
    have h6p := of_decide_eq_true h6
    refine x_t (by kernel_rfl) <| x_skipc <| x_then <| x_seq <| x_block <| x_seq <| x_region ?_
    obtain ⟨ga, oa, had, hcell⟩ := hA (by omega)
    refine x_ixO (t := 62) had k nA cA 74 3 (oa + k * 3) (by omega) (by omega) (by kernel_rfl) (by kernel_rfl) (by kernel_rfl) rfl (by kernel_rfl) <| x_loadcn (t := 74) ga (oa + k * 3) [.int .i64 ((l.getD k (0, 0, 0)).1), .int .i64 ((l.getD k (0, 0, 0)).2.1), .int .i64 ((l.getD k (0, 0, 0)).2.2)] (hcell _ H.below k (by omega)) (by kernel_rfl) rfl (by kernel_rfl) (by kernel_rfl) <| z_box H #[.int .i64 0, .int .i64 0, .int .i64 0] 74 (fun v37 g7 H => ?_)
    refine z_store H 0 0 [.int .i64 ((l.getD k (0, 0, 0)).1), .int .i64 ((l.getD k (0, 0, 0)).2.1), .int .i64 ((l.getD k (0, 0, 0)).2.2)] (fun v38 H => ?_)
    refine x_nil <| x_then <| x_seq <| x_region <| x_b H [.m, .n 12 0 17 68, .n 0 0 3 74] ?_
    have hx1 := hx.mv hL (l.getD k (0, 0, 0))
    refine z_call (H.useEP [1, 2, 3, 4, 5, 6, 7, 8, 9, 10, 11] (fun h => lstep hL hx hk hg (by omega) (by omega) (l.getD k (0, 0, 0)) _ h)) ?_
    rintro _ v39 ⟨⟨gn1, lsn1, ran1, qnn1⟩, rfl, H', hk1, hg1, ep1, er1⟩
    refine ⟨_, rfl, ?_⟩
    clear H
    have H := hsCast H' (L2 := [.blk rp #[.pointer (some ⟨p, 0, none⟩), .int .i64 (((Rp.mv r s z sn pg ns b o c x (l.getD k (0, 0, 0))).j).1), .int .i64 (((Rp.mv r s z sn pg ns b o c x (l.getD k (0, 0, 0))).j).2.1), .int .i64 (((Rp.mv r s z sn pg ns b o c x (l.getD k (0, 0, 0))).j).2.2.1), .int .i64 (((Rp.mv r s z sn pg ns b o c x (l.getD k (0, 0, 0))).j).2.2.2), .pointer (some ⟨q, 0, none⟩)] 133, .blk p #[.int .i64 r, .int .i64 s, .int .i64 b, .int .i64 o, .int .i64 c, .int .i64 y, .int .i64 z, .slice (some ⟨gl, 0, none⟩) sn cl, .slice (some ⟨gd, 0, none⟩) pg cd, .slice (some ⟨gs, 0, none⟩) ns cs, .int .i64 (((Rp.mv r s z sn pg ns b o c x (l.getD k (0, 0, 0))).pu : Nat) : Int), .int .i64 (((Rp.mv r s z sn pg ns b o c x (l.getD k (0, 0, 0))).ru : Nat) : Int)] 118, .row (.slice (some ⟨gl, 0, none⟩) sn cl) 3 1 sn (List.map (Value.int .i64) ((Rp.mv r s z sn pg ns b o c x (l.getD k (0, 0, 0))).L)), .row (.slice (some ⟨gd, 0, none⟩) pg cd) 4 1 pg (List.map Value.bool ((Rp.mv r s z sn pg ns b o c x (l.getD k (0, 0, 0))).D)), .row (.slice (some ⟨gs, 0, none⟩) ns cs) 3 1 ns (List.map (Value.int .i64) ((Rp.mv r s z sn pg ns b o c x (l.getD k (0, 0, 0))).S)), .blk q #[.slice (some ⟨gq, 0, none⟩) 256 cq, .int .i64 (ran1 : Int), .int .i64 (qnn1 : Int)] 170, .row (.slice (some ⟨gq, 0, none⟩) 256 cq) 72 2 256 (List.flatMap entL lsn1), .row (lv) 3 1 pg (List.map (Value.int .i64) (layL y r b o pg)), .row (gn1.pv) 156 2 (List.length gn1.Pg) (List.flatMap entL gn1.Pg), .row (gn1.kv) 156 2 (List.length gn1.Rk) (List.flatMap entL gn1.Rk), .row (gn1.fv) 147 2 (List.length gn1.F) (List.flatMap entL gn1.F), .blk g7 #[.int .i64 ((l.getD k (0, 0, 0)).1), .int .i64 ((l.getD k (0, 0, 0)).2.1), .int .i64 ((l.getD k (0, 0, 0)).2.2)] 74, .blk g2 #[.int .i64 r, .int .i64 s, .int .i64 b, .int .i64 o, .int .i64 c, .int .i64 y, .int .i64 z, lv, g.pv, g.kv, .int .i64 ((x.pu : Nat) : Int), .int .i64 ((x.ru : Nat) : Int), .int .i64 x.j.1, .int .i64 x.j.2.1, .int .i64 x.j.2.2.1, .int .i64 x.j.2.2.2, .slice g.ad g.n g.c] 68, .blk g1 #[.int .i64 r, .int .i64 s, .int .i64 b, .int .i64 o, .int .i64 c, .int .i64 y, .int .i64 z] 25]) (by kernel_rfl)
    clear H'
    replace hk1 : RgOk lsn1 ran1 qnn1 (Rp.mv r s z sn pg ns b o c x (l.getD k (0, 0, 0))).Q := hk1
    replace hg1 : D21.Ok pg sn ns (Rp.mv r s z sn pg ns b o c x (l.getD k (0, 0, 0))) gn1 := hg1
    replace ep1 : gn1.Pg.length ≤ g.Pg.length + 1 := ep1
    replace er1 : gn1.Rk.length ≤ g.Rk.length + 1 := er1
    refine x_b H [.m, .m, .m] ?_
    have h22o := H.rowOne 7 rfl
    have h23o := H.rowOne 8 rfl
    have h24o := H.rowOne 9 rfl
    refine z_store H 12 0 [.int .i64 r, .int .i64 s, .int .i64 b, .int .i64 o, .int .i64 c, .int .i64 y, .int .i64 z, lv, gn1.pv, gn1.kv, .int .i64 (((Rp.mv r s z sn pg ns b o c x (l.getD k (0, 0, 0))).pu : Nat) : Int), .int .i64 (((Rp.mv r s z sn pg ns b o c x (l.getD k (0, 0, 0))).ru : Nat) : Int), .int .i64 (((Rp.mv r s z sn pg ns b o c x (l.getD k (0, 0, 0))).j).1), .int .i64 (((Rp.mv r s z sn pg ns b o c x (l.getD k (0, 0, 0))).j).2.1), .int .i64 (((Rp.mv r s z sn pg ns b o c x (l.getD k (0, 0, 0))).j).2.2.1), .int .i64 (((Rp.mv r s z sn pg ns b o c x (l.getD k (0, 0, 0))).j).2.2.2), .slice gn1.ad gn1.n gn1.c] (fun v40 H => ?_) (h1 := (by simp only [List.all_cons, List.all_nil, h22o, h23o, h24o, Bool.and_true, Bool.true_and] <;> rfl))
    refine x_b H [.m] <| x_nil <| x_then <| x_seq <| x_region <| x_b H [.m, .m] <| x_nil ?_
    refine x_then <| x_f (by kernel_rfl) <| x_skipc <| x_blk <| x_then <| x_region <| z_ar ((k : Int) + 1) ?_
    refine x_b H [.m] <| x_nil <| x_then ?_
    replace H := H.pk [0, 1, 2, 3, 4, 5, 6, 7, 8, 9, 10, 12, 13]
    exact ⟨(k + 1, (Rp.mv r s z sn pg ns b o c x (l.getD k (0, 0, 0))), lsn1, ran1, qnn1, gn1), (by dsimp only; omega), _, frm_of, H, (by omega), hx1, hk1, hg1, (by omega), (by omega), (by unfold Rp.mv; split; exact Sinj.ask hL hi; split; exact Sinj.step hL hx hi; exact hi)⟩
  have h2p := of_decide_eq_true h2
  refine x_t (by kernel_rfl) <| x_seq <| x_region <| x_b H [.m] <| x_nil <| x_then <| x_retc ?_
  refine x_then_ret <| x_ret (.bool true) (by kernel_rfl) (by kernel_rfl) ?_
  exact ⟨rfl, H.below⟩
end Go.Proofs.Ytpmnnijjohlloaa
