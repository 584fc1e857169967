/- The law RepairStarts, walked. -/
import Derived.Test.YtpmnnijjohlloaaRprK
import Derived.Test.YtpmnnijjohlloaaPxZ
namespace Go.Proofs.Ytpmnnijjohlloaa
open Go Go.RowKit
set_option linter.unusedVariables false
set_option linter.unusedSimpArgs false
section
variable {r s z : Int} {sn ns : Nat} {x : Rp} {a : Ent}
theorem Rp.ask_void (hv : voidB sn ns x.pu x.D x.S x.j a = true) : Rp.ask r s z sn ns x a = x ∧ Rp.askV r s z sn ns x a = [] := by
  have h : Rp.void sn ns x a = true := hv
  exact ⟨by unfold Rp.ask; rw [if_pos h], by unfold Rp.askV; rw [if_pos h]⟩
theorem Rp.ask_idle (hj : x.j.1 = 0) (hv : voidB sn ns x.pu x.D x.S x.j a = false) : Rp.ask r s z sn ns x a = Rp.start r s z sn x a ∧ Rp.askV r s z sn ns x a = [Rp.startV r s z sn x a] := by
  have h : Rp.void sn ns x a = false := hv
  exact ⟨by unfold Rp.ask; rw [if_neg (by rw [h]; decide), if_pos hj], by unfold Rp.askV; rw [if_neg (by rw [h]; decide), if_pos hj]⟩
theorem Rp.askV_one (hj : x.j.1 = 0) (hv : voidB sn ns x.pu x.D x.S x.j a = false) : (Rp.askV r s z sn ns x a).length = 1 := by rw [(Rp.ask_idle hj hv).2]; rfl
theorem Rp.ask_none (hj : x.j.1 = 0) (hv : voidB sn ns x.pu x.D x.S x.j a = false) (h : (a.1 = 1 ∧ (x.pu : Int) = z) ∨ (a.1 = 2 ∧ (x.ru : Int) = s)) : Rp.ask r s z sn ns x a = x ∧ Rp.askV r s z sn ns x a = [(5, a.2, a.1 - 1)] := by
  rw [(Rp.ask_idle hj hv).1, (Rp.ask_idle hj hv).2]
  unfold Rp.start Rp.startV
  rcases h with ⟨h1, h2⟩ | ⟨h1, h2⟩
  · rw [if_pos h1, if_pos h2, if_pos h1, if_pos h2, h1]; exact ⟨rfl, rfl⟩
  · rw [if_neg (by omega), if_pos h2, if_neg (by omega), if_pos h2, h1]; exact ⟨rfl, rfl⟩
theorem Rp.ask_page (hj : x.j.1 = 0) (hv : voidB sn ns x.pu x.D x.S x.j a = false) (h1 : a.1 = 1) (h2 : ¬ (x.pu : Int) = z) : Rp.ask r s z sn ns x a = { x with pu := x.pu + 1, j := (1, a.2, (sn : Int) + x.pu, 0) } ∧ Rp.askV r s z sn ns x a = [(3, a.2, (sn : Int) + x.pu)] := by
  rw [(Rp.ask_idle hj hv).1, (Rp.ask_idle hj hv).2]
  unfold Rp.start Rp.startV
  rw [if_pos h1, if_neg h2, if_pos h1, if_neg h2]; exact ⟨rfl, rfl⟩
theorem Rp.ask_rank (hj : x.j.1 = 0) (hv : voidB sn ns x.pu x.D x.S x.j a = false) (h1 : a.1 = 2) (h2 : ¬ (x.ru : Int) = s) : Rp.ask r s z sn ns x a = { x with ru := x.ru + 1, j := (2, a.2, r + x.ru, 0) } ∧ Rp.askV r s z sn ns x a = [(4, a.2, r + x.ru)] := by
  rw [(Rp.ask_idle hj hv).1, (Rp.ask_idle hj hv).2]
  unfold Rp.start Rp.startV
  rw [if_neg (by omega), if_neg h2, if_neg (by omega), if_neg h2]; exact ⟨rfl, rfl⟩
end
set_option maxRecDepth 100000 in
set_option maxHeartbeats 4000000 in
theorem rst21_no (r s b o c y z : Int) (ad : Option Addr) (nA cA : Nat) (aq : Ent) (hbd : r ≤ 9223372036854775807 ∧ b ≤ 9223372036854775807 ∧ o ≤ 9223372036854775807 ∧ c ≤ 9223372036854775807) (hok : layoutOk r s b o c y z = false) (w0 : World) :
    Calls Try.prog 9 #[.agg #[.int .i64 r, .int .i64 s, .int .i64 b, .int .i64 o, .int .i64 c, .int .i64 y, .int .i64 z], .slice ad nA cA, .agg #[.int .i64 aq.1, .int .i64 aq.2]] w0 fun e w' => e = .returned (.bool true) ∧ Below w0.heap.size w0 w' := by
  refine z_enter Try.func9 rfl ?_
  have H := Hs.nil w0
  obtain ⟨hb1, hb2, hb3, hb4⟩ := id hbd
  refine x_seq <| x_region <| z_box H #[.int .i64 r, .int .i64 s, .int .i64 b, .int .i64 o, .int .i64 c, .int .i64 y, .int .i64 z] 25 (fun v1 g1 H => ?_)
  refine z_box H #[.int .i64 aq.1, .int .i64 aq.2] 72 (fun v2 g2 H => ?_)
  refine x_b H [.m] <| x_nil <| x_then <| x_seq <| x_seq <| x_region <| z_callB H (anchor21 _) fun v3 H => ?_
  refine x_b H [.m] <| x_nil <| x_then <| x_f (by kernel_rfl) <| x_skipc <| x_then <| x_seq ?_
  refine x_seq <| x_region <| x_b H [.n 1 0 7 25] <| z_call (small21_any r s b o c y z (by omega) (by omega) (by omega) (by omega) _) ?_
  rintro _ v4 ⟨tS, rfl, hB⟩
  refine ⟨_, rfl, ?_⟩
  replace H := H.via hB
  clear hB
  refine x_b H [.v (.bool (!tS)), .v (.bool (!tS))] ?_
  cases h1 : tS
  · skip
    refine x_b H [.k, .k, .k, .m] <| x_nil <| x_then <| x_t (by kernel_rfl) <| x_seq <| x_region <| x_b H [.m] ?_
    refine x_nil <| x_then <| x_retc <| x_then_ret <| x_ret (.bool true) (by kernel_rfl) (by kernel_rfl) ?_
    exact ⟨rfl, H.below⟩
  refine x_b H [.m, .m, .v (.bool (decide (40 < (nA : Int)))), .v (.bool (decide (40 < (nA : Int))))] <| x_nil <| x_then ?_
  cases h2 : decide (40 < (nA : Int))
  · skip
    have h2p := of_decide_eq_false h2
    refine x_f (by kernel_rfl) <| x_skipc <| x_then <| x_seq <| x_region <| x_b H [.n 1 0 7 25] <| z_callB H (started_no r s b o c y z hbd hok _) fun v5 H => ?_
    refine x_b H [.m, .m, .m, .m] <| z_box H #[.int .i64 0, .int .i64 0, .int .i64 0, .int .i64 0, .int .i64 0, .int .i64 0, .int .i64 0, .slice none 0 0, .slice none 0 0, .slice none 0 0, .int .i64 0, .int .i64 0, .int .i64 0, .int .i64 0, .int .i64 0, .int .i64 0, .slice none 0 0] 68 (fun v6 g3 H => ?_)
    refine x_b H [.m] <| z_store H 0 0 [.int .i64 0, .int .i64 0, .int .i64 0, .int .i64 0, .int .i64 0, .int .i64 0, .int .i64 0, .slice none 0 0, .slice none 0 0, .slice none 0 0, .int .i64 0, .int .i64 0, .int .i64 0, .int .i64 0, .int .i64 0, .int .i64 0, .slice none 0 0] (fun v7 H => ?_)
    refine x_b H [.m] <| x_nil <| x_then <| x_seq <| x_seq <| x_region <| x_b H [.m, .m] ?_
    refine x_nil <| x_then <| x_t (by kernel_rfl) <| x_seq <| x_region <| x_b H [.m, .m, .m, .n 2 0 7 25] <| z_callB (v := .bool (layoutOk r s b o c y z)) H (lRight_any _ _ _ _ _ _ _ (by omega) (by omega) (by omega) (by omega) _) fun v8 H => ?_
    refine x_b H [.v (.bool (!(layoutOk r s b o c y z))), .v (.bool (!(layoutOk r s b o c y z))), .v (.bool (!(layoutOk r s b o c y z)))] <| x_nil <| x_then <| x_retc <| x_then_ret <| x_ret (.bool (!(layoutOk r s b o c y z))) (by kernel_rfl) (by kernel_rfl) ?_
    exact ⟨by rw [hok]; rfl, H.below⟩
  have h2p := of_decide_eq_true h2
  refine x_t (by kernel_rfl) <| x_seq <| x_region <| x_b H [.m] <| x_nil <| x_then <| x_retc ?_
  refine x_then_ret <| x_ret (.bool true) (by kernel_rfl) (by kernel_rfl) ?_
  exact ⟨rfl, H.below⟩
set_option maxRecDepth 100000 in
set_option maxHeartbeats 4000000 in
theorem rst21_yes {r s b o c y z : Int} {pg sn ns : Nat} (hL : Lay r s b o c y z pg sn ns) (ad : Option Addr) (nA cA : Nat) (aq : Ent) (l : List Int3) (w0 : World) (hA : RAt int3L 3 (0, 0, 0) w0 ad nA l) :
    Calls Try.prog 9 #[.agg #[.int .i64 r, .int .i64 s, .int .i64 b, .int .i64 o, .int .i64 c, .int .i64 y, .int .i64 z], .slice ad nA cA, .agg #[.int .i64 aq.1, .int .i64 aq.2]] w0 fun e w' => e = .returned (.bool true) ∧ Below w0.heap.size w0 w' := by
  refine z_enter Try.func9 rfl ?_
  have H := Hs.nil w0
  have hok := hL.ok
  obtain ⟨-, r1', r8, s0, s8, b1, b2, o1, o2, c1, c2, y0, y4, z0, z2, hpg, hsn, hns, sn1, pg2, ln0, ln2⟩ := id hL
  refine x_seq <| x_region <| z_box H #[.int .i64 r, .int .i64 s, .int .i64 b, .int .i64 o, .int .i64 c, .int .i64 y, .int .i64 z] 25 (fun v1 g1 H => ?_)
  refine z_box H #[.int .i64 aq.1, .int .i64 aq.2] 72 (fun v2 g2 H => ?_)
  refine x_b H [.m] <| x_nil <| x_then <| x_seq <| x_seq <| x_region <| z_callB H (anchor21 _) fun v3 H => ?_
  refine x_b H [.m] <| x_nil <| x_then <| x_f (by kernel_rfl) <| x_skipc <| x_then <| x_seq ?_
  refine x_seq <| x_region <| x_b H [.n 1 0 7 25] <| z_call (small21_any r s b o c y z (by omega) (by omega) (by omega) (by omega) _) ?_
  rintro _ v4 ⟨tS, rfl, hB⟩
  refine ⟨_, rfl, ?_⟩
  replace H := H.via hB
  clear hB
  refine x_b H [.v (.bool (!tS)), .v (.bool (!tS))] ?_
  cases h1 : tS
  · skip
    refine x_b H [.k, .k, .k, .m] <| x_nil <| x_then <| x_t (by kernel_rfl) <| x_seq <| x_region <| x_b H [.m] ?_
    refine x_nil <| x_then <| x_retc <| x_then_ret <| x_ret (.bool true) (by kernel_rfl) (by kernel_rfl) ?_
    exact ⟨rfl, H.below⟩
  refine x_b H [.m, .m, .v (.bool (decide (40 < (nA : Int)))), .v (.bool (decide (40 < (nA : Int))))] <| x_nil <| x_then ?_
  cases h2 : decide (40 < (nA : Int))
  · skip
    have h2p := of_decide_eq_false h2
    refine x_f (by kernel_rfl) <| x_skipc <| x_then <| x_seq <| x_region <| x_b H [.n 1 0 7 25] <| z_call (started_yes hL _) ?_
    rintro _ v5 ⟨⟨p, gl, cl, gd, cd, gs, cs⟩, ⟨q, gq, cq⟩, rp, lv, rfl, hN'⟩
    refine ⟨_, rfl, ?_⟩
    replace H := hsCast (H.more hN') (L2 := [.blk rp #[.pointer (some ⟨p, 0, none⟩), .int .i64 (((Rp.new sn pg ns).j).1), .int .i64 (((Rp.new sn pg ns).j).2.1), .int .i64 (((Rp.new sn pg ns).j).2.2.1), .int .i64 (((Rp.new sn pg ns).j).2.2.2), .pointer (some ⟨q, 0, none⟩)] 133, .blk p #[.int .i64 r, .int .i64 s, .int .i64 b, .int .i64 o, .int .i64 c, .int .i64 y, .int .i64 z, .slice (some ⟨gl, 0, none⟩) sn cl, .slice (some ⟨gd, 0, none⟩) pg cd, .slice (some ⟨gs, 0, none⟩) ns cs, .int .i64 (((Rp.new sn pg ns).pu : Nat) : Int), .int .i64 (((Rp.new sn pg ns).ru : Nat) : Int)] 118, .row (.slice (some ⟨gl, 0, none⟩) sn cl) 3 1 sn (List.map (Value.int .i64) ((Rp.new sn pg ns).L)), .row (.slice (some ⟨gd, 0, none⟩) pg cd) 4 1 pg (List.map Value.bool ((Rp.new sn pg ns).D)), .row (.slice (some ⟨gs, 0, none⟩) ns cs) 3 1 ns (List.map (Value.int .i64) ((Rp.new sn pg ns).S)), .blk q #[.slice (some ⟨gq, 0, none⟩) 256 cq, .int .i64 ((0 : Nat) : Int), .int .i64 ((0 : Nat) : Int)] 170, .row (.slice (some ⟨gq, 0, none⟩) 256 cq) 72 2 256 (List.flatMap entL (List.replicate 256 ((0, 0) : Ent))), .row (lv) 3 1 pg (List.map (Value.int .i64) (layL y r b o pg)), .row (D21.new.pv) 156 2 (List.length D21.new.Pg) (List.flatMap entL D21.new.Pg), .row (D21.new.kv) 156 2 (List.length D21.new.Rk) (List.flatMap entL D21.new.Rk), .row (D21.new.fv) 147 2 (List.length D21.new.F) (List.flatMap entL D21.new.F), .blk g2 #[.int .i64 aq.1, .int .i64 aq.2] 72, .blk g1 #[.int .i64 r, .int .i64 s, .int .i64 b, .int .i64 o, .int .i64 c, .int .i64 y, .int .i64 z] 25]) (by kernel_rfl)
    clear hN'
    refine x_b H [.m, .m, .m, .m] <| z_box H #[.int .i64 0, .int .i64 0, .int .i64 0, .int .i64 0, .int .i64 0, .int .i64 0, .int .i64 0, .slice none 0 0, .slice none 0 0, .slice none 0 0, .int .i64 0, .int .i64 0, .int .i64 0, .int .i64 0, .int .i64 0, .int .i64 0, .slice none 0 0] 68 (fun v6 g3 H => ?_)
    refine x_b H [.m] ?_
    have h3o := H.rowOne 8 rfl
    have h4o := H.rowOne 9 rfl
    have h5o := H.rowOne 10 rfl
    refine z_store H 0 0 [.int .i64 r, .int .i64 s, .int .i64 b, .int .i64 o, .int .i64 c, .int .i64 y, .int .i64 z, lv, D21.new.pv, D21.new.kv, .int .i64 (((Rp.new sn pg ns).pu : Nat) : Int), .int .i64 (((Rp.new sn pg ns).ru : Nat) : Int), .int .i64 (((Rp.new sn pg ns).j).1), .int .i64 (((Rp.new sn pg ns).j).2.1), .int .i64 (((Rp.new sn pg ns).j).2.2.1), .int .i64 (((Rp.new sn pg ns).j).2.2.2), .slice D21.new.ad D21.new.n D21.new.c] (fun v7 H => ?_) (h1 := (by simp only [List.all_cons, List.all_nil, h3o, h4o, h5o, Bool.and_true, Bool.true_and] <;> rfl))
    refine x_b H [.m] <| x_nil <| x_then <| x_seq <| x_seq <| x_region <| x_b H [.m, .m] ?_
    refine x_nil <| x_then <| x_f (by kernel_rfl) <| x_skipc <| x_then <| x_seq <| x_seq ?_
    refine x_region <| x_b H [.m, .m, .m] <| x_nil <| x_then <| x_block ?_
    replace H := H.pk [1, 2, 3, 4, 5, 6, 7, 8, 9, 10, 11, 0, 12, 13]
    refine x_loop (G := Nat × Rp × List Ent × Nat × Nat × D21) (fun gh a w' => match gh with | (k, x, ls, ra, qn, g) => ∃ uf1 : Nat → Value, a = frm 207 uf1 [(3, .pointer (some ⟨g1, 0, none⟩)), (5, .pointer (some ⟨g2, 0, none⟩)), (7, .pointer (some ⟨rp, 0, none⟩)), (8, .pointer (some ⟨g3, 0, none⟩)), (44, .slice ad nA cA), (45, .int .i64 (nA : Int)), (46, .int .i64 (k : Int))] [] ∧ Hs [] w0 w' [.blk rp #[.pointer (some ⟨p, 0, none⟩), .int .i64 x.j.1, .int .i64 x.j.2.1, .int .i64 x.j.2.2.1, .int .i64 x.j.2.2.2, .pointer (some ⟨q, 0, none⟩)] 133, .blk p #[.int .i64 r, .int .i64 s, .int .i64 b, .int .i64 o, .int .i64 c, .int .i64 y, .int .i64 z, .slice (some ⟨gl, 0, none⟩) sn cl, .slice (some ⟨gd, 0, none⟩) pg cd, .slice (some ⟨gs, 0, none⟩) ns cs, .int .i64 ((x.pu : Nat) : Int), .int .i64 ((x.ru : Nat) : Int)] 118, .row (.slice (some ⟨gl, 0, none⟩) sn cl) 3 1 sn (List.map (Value.int .i64) x.L), .row (.slice (some ⟨gd, 0, none⟩) pg cd) 4 1 pg (List.map Value.bool x.D), .row (.slice (some ⟨gs, 0, none⟩) ns cs) 3 1 ns (List.map (Value.int .i64) x.S), .blk q #[.slice (some ⟨gq, 0, none⟩) 256 cq, .int .i64 (ra : Int), .int .i64 (qn : Int)] 170, .row (.slice (some ⟨gq, 0, none⟩) 256 cq) 72 2 256 (List.flatMap entL ls), .row (lv) 3 1 pg (List.map (Value.int .i64) (layL y r b o pg)), .row (g.pv) 156 2 (List.length g.Pg) (List.flatMap entL g.Pg), .row (g.kv) 156 2 (List.length g.Rk) (List.flatMap entL g.Rk), .row (g.fv) 147 2 (List.length g.F) (List.flatMap entL g.F), .blk g3 #[.int .i64 r, .int .i64 s, .int .i64 b, .int .i64 o, .int .i64 c, .int .i64 y, .int .i64 z, lv, g.pv, g.kv, .int .i64 ((x.pu : Nat) : Int), .int .i64 ((x.ru : Nat) : Int), .int .i64 x.j.1, .int .i64 x.j.2.1, .int .i64 x.j.2.2.1, .int .i64 x.j.2.2.2, .slice g.ad g.n g.c] 68, .blk g2 #[.int .i64 aq.1, .int .i64 aq.2] 72, .blk g1 #[.int .i64 r, .int .i64 s, .int .i64 b, .int .i64 o, .int .i64 c, .int .i64 y, .int .i64 z] 25] ∧ (k ≤ nA) ∧ (RpOk r s b o c z sn pg ns x) ∧ (RgOk ls ra qn x.Q) ∧ (D21.Ok pg sn ns x g) ∧ (g.Pg.length ≤ 0 + k) ∧ (g.Rk.length ≤ 0 + k)) (fun gh => match gh with | (k, x, ls, ra, qn, g) => nA - k) (0, (Rp.new sn pg ns), (List.replicate 256 ((0, 0) : Ent)), 0, 0, D21.new) ⟨_, frm_of, H, (Nat.zero_le _), (RpOk.new hL), RgOk.new, (D21.new_ok pg sn ns), (Nat.zero_le _), (Nat.zero_le _)⟩ ?_
    clear H
    rintro ⟨k, x, ls, ra, qn, g⟩ _ v8 ⟨uf1, rfl, H, r1, r2, r3, r4, r5, r6⟩
    have hx := r2
    have hk := r3
    have hg := r4
    refine x_seq <| x_region <| x_b H [.v (.bool (decide ((k : Int) < (nA : Int))))] <| x_nil <| x_then <| x_seq ?_
    cases h6 : decide ((k : Int) < (nA : Int))
    · skip
      have h6p := of_decide_eq_false h6
      refine x_f (by kernel_rfl) <| x_exit <| x_then_exit <| x_then_exit <| x_blk_exit <| x_then <| x_seq ?_
      refine x_seq <| x_region <| x_b H [.m] <| x_nil <| x_then <| x_block ?_
      replace H := H.pk [0, 1, 2, 3, 4, 5, 6, 11, 12, 13]
      refine x_loop (G := Nat × Rp × List Ent × Nat × Nat) (fun gh a w' => match gh with | (k2, x2, ls2, ra2, qn2) => ∃ uf2 : Nat → Value, a = frm 207 uf2 [(3, .pointer (some ⟨g1, 0, none⟩)), (5, .pointer (some ⟨g2, 0, none⟩)), (7, .pointer (some ⟨rp, 0, none⟩)), (12, .int .i64 (k2 : Int))] [] ∧ Hs [] w0 w' [.blk rp #[.pointer (some ⟨p, 0, none⟩), .int .i64 x2.j.1, .int .i64 x2.j.2.1, .int .i64 x2.j.2.2.1, .int .i64 x2.j.2.2.2, .pointer (some ⟨q, 0, none⟩)] 133, .blk p #[.int .i64 r, .int .i64 s, .int .i64 b, .int .i64 o, .int .i64 c, .int .i64 y, .int .i64 z, .slice (some ⟨gl, 0, none⟩) sn cl, .slice (some ⟨gd, 0, none⟩) pg cd, .slice (some ⟨gs, 0, none⟩) ns cs, .int .i64 ((x2.pu : Nat) : Int), .int .i64 ((x2.ru : Nat) : Int)] 118, .row (.slice (some ⟨gl, 0, none⟩) sn cl) 3 1 sn (List.map (Value.int .i64) x2.L), .row (.slice (some ⟨gd, 0, none⟩) pg cd) 4 1 pg (List.map Value.bool x2.D), .row (.slice (some ⟨gs, 0, none⟩) ns cs) 3 1 ns (List.map (Value.int .i64) x2.S), .blk q #[.slice (some ⟨gq, 0, none⟩) 256 cq, .int .i64 (ra2 : Int), .int .i64 (qn2 : Int)] 170, .row (.slice (some ⟨gq, 0, none⟩) 256 cq) 72 2 256 (List.flatMap entL ls2), .blk g3 #[.int .i64 r, .int .i64 s, .int .i64 b, .int .i64 o, .int .i64 c, .int .i64 y, .int .i64 z, lv, g.pv, g.kv, .int .i64 ((x.pu : Nat) : Int), .int .i64 ((x.ru : Nat) : Int), .int .i64 x.j.1, .int .i64 x.j.2.1, .int .i64 x.j.2.2.1, .int .i64 x.j.2.2.2, .slice g.ad g.n g.c] 68, .blk g2 #[.int .i64 aq.1, .int .i64 aq.2] 72, .blk g1 #[.int .i64 r, .int .i64 s, .int .i64 b, .int .i64 o, .int .i64 c, .int .i64 y, .int .i64 z] 25] ∧ (k2 ≤ 2999) ∧ (RpOk r s b o c z sn pg ns x2) ∧ (RgOk ls2 ra2 qn2 x2.Q)) (fun gh => match gh with | (k2, x2, ls2, ra2, qn2) => 3000 - k2) (0, x, ls, ra, qn) ⟨_, frm_of, H, (by omega), hx, hk⟩ ?_
      clear H
      rintro ⟨k2, x2, ls2, ra2, qn2⟩ _ v9 ⟨uf2, rfl, H, r1, r2, r3⟩
      have hx2 := r2
      have hk2 := r3
      refine x_seq <| x_seq <| x_region <| x_b H [.m] <| z_callB H (Job_of (x := x2) _ (H.ro1 [0])) fun v10 H => x_b H [.m, .v (.bool (!(decide (x2.j.1 = 0)))), .v (.bool (!(decide (x2.j.1 = 0))))] ?_
      cases h7 : decide (x2.j.1 = 0)
      · skip
        have h7p := of_decide_eq_false h7
        refine x_b H [.m, .v (.bool (decide ((k2 : Int) < 3000))), .v (.bool (decide ((k2 : Int) < 3000)))] <| x_nil <| x_then ?_
        cases h8 : decide ((k2 : Int) < 3000)
        · skip
          have h8p := of_decide_eq_false h8
          exact absurd h8p (by omega)
        have h8p := of_decide_eq_true h8
        refine x_t (by kernel_rfl) <| x_skipc <| x_then <| x_seq <| x_block <| x_seq <| x_region ?_
        refine x_b H [.m] ?_
        have hx2' := hx2.step hL
        refine z_call (H.useEP [0, 1, 2, 3, 4, 5, 6] (fun h => step_of hL hx2 hk2 _ h)) ?_
        rintro _ v11 ⟨⟨evr, lsn2, ran2, qnn2⟩, rfl, H', hk2'⟩
        refine ⟨_, rfl, ?_⟩
        clear H
        have H := hsCast H' (L2 := [.row (evr) 81 3 (List.length (((Rp.step r s z sn pg ns b o c x2)).2)) (List.flatMap int3L (((Rp.step r s z sn pg ns b o c x2)).2)), .blk rp #[.pointer (some ⟨p, 0, none⟩), .int .i64 (((((Rp.step r s z sn pg ns b o c x2)).1).j).1), .int .i64 (((((Rp.step r s z sn pg ns b o c x2)).1).j).2.1), .int .i64 (((((Rp.step r s z sn pg ns b o c x2)).1).j).2.2.1), .int .i64 (((((Rp.step r s z sn pg ns b o c x2)).1).j).2.2.2), .pointer (some ⟨q, 0, none⟩)] 133, .blk p #[.int .i64 r, .int .i64 s, .int .i64 b, .int .i64 o, .int .i64 c, .int .i64 y, .int .i64 z, .slice (some ⟨gl, 0, none⟩) sn cl, .slice (some ⟨gd, 0, none⟩) pg cd, .slice (some ⟨gs, 0, none⟩) ns cs, .int .i64 (((((Rp.step r s z sn pg ns b o c x2)).1).pu : Nat) : Int), .int .i64 (((((Rp.step r s z sn pg ns b o c x2)).1).ru : Nat) : Int)] 118, .row (.slice (some ⟨gl, 0, none⟩) sn cl) 3 1 sn (List.map (Value.int .i64) ((((Rp.step r s z sn pg ns b o c x2)).1).L)), .row (.slice (some ⟨gd, 0, none⟩) pg cd) 4 1 pg (List.map Value.bool ((((Rp.step r s z sn pg ns b o c x2)).1).D)), .row (.slice (some ⟨gs, 0, none⟩) ns cs) 3 1 ns (List.map (Value.int .i64) ((((Rp.step r s z sn pg ns b o c x2)).1).S)), .blk q #[.slice (some ⟨gq, 0, none⟩) 256 cq, .int .i64 (ran2 : Int), .int .i64 (qnn2 : Int)] 170, .row (.slice (some ⟨gq, 0, none⟩) 256 cq) 72 2 256 (List.flatMap entL lsn2), .blk g3 #[.int .i64 r, .int .i64 s, .int .i64 b, .int .i64 o, .int .i64 c, .int .i64 y, .int .i64 z, lv, g.pv, g.kv, .int .i64 ((x.pu : Nat) : Int), .int .i64 ((x.ru : Nat) : Int), .int .i64 x.j.1, .int .i64 x.j.2.1, .int .i64 x.j.2.2.1, .int .i64 x.j.2.2.2, .slice g.ad g.n g.c] 68, .blk g2 #[.int .i64 aq.1, .int .i64 aq.2] 72, .blk g1 #[.int .i64 r, .int .i64 s, .int .i64 b, .int .i64 o, .int .i64 c, .int .i64 y, .int .i64 z] 25]) (by kernel_rfl)
        clear H'
        replace hk2' : RgOk lsn2 ran2 qnn2 ((Rp.step r s z sn pg ns b o c x2)).1.Q := hk2'
        refine x_nil <| x_then <| x_seq <| x_region <| x_b H [.m, .v (.bool (decide ((k2 : Int) = 2999)))] <| x_nil <| x_then ?_
        cases h9 : decide ((k2 : Int) = 2999)
        · skip
          have h9p := of_decide_eq_false h9
          refine x_f (by kernel_rfl) <| x_skipc <| x_blk <| x_then <| x_region <| x_b H [.m] <| z_ar ((k2 : Int) + 1) ?_
          refine x_b H [.m] <| x_nil <| x_then ?_
          replace H := H.pk [1, 2, 3, 4, 5, 6, 7, 8, 9, 10]
          exact ⟨(k2 + 1, ((Rp.step r s z sn pg ns b o c x2)).1, lsn2, ran2, qnn2), (by dsimp only; omega), _, frm_of, H, (by omega), hx2', hk2'⟩
        have h9p := of_decide_eq_true h9
        refine x_t (by kernel_rfl) <| x_seq <| x_region <| x_b H [.m] <| x_nil <| x_then <| x_retc ?_
        refine x_blk_ret <| x_then_ret <| x_then_ret <| x_blk_ret <| x_then_ret <| x_ret (.bool true) (by kernel_rfl) (by kernel_rfl) ?_
        exact ⟨rfl, H.below⟩
      have h7p := of_decide_eq_true h7
      have hj0 : x2.j = (0, 0, 0, 0) := by rcases hx2.jb with e | e | e; exact e; all_goals omega
      have hm := hx2.v.m
      have hpu := hm.hp
      have hru := hm.hr
      refine x_b H [.k, .k, .m] <| x_nil <| x_then <| x_f (by kernel_rfl) <| x_exit <| x_then_exit <| x_then_exit ?_
      refine x_blk_exit <| x_then <| x_span3 (fun a w' => ∃ tp : Int, ∃ dp : Bool, ∃ fp : Bool, ∃ uf3 : Nat → Value, a = frm 207 uf3 [(3, .pointer (some ⟨g1, 0, none⟩)), (5, .pointer (some ⟨g2, 0, none⟩)), (7, .pointer (some ⟨rp, 0, none⟩)), (13, .int .i64 tp), (14, .bool fp), (15, .int .i64 3), (16, .int .i64 0), (17, .bool dp)] [] ∧ Hs [] w0 w' [.blk rp #[.pointer (some ⟨p, 0, none⟩), .int .i64 x2.j.1, .int .i64 x2.j.2.1, .int .i64 x2.j.2.2.1, .int .i64 x2.j.2.2.2, .pointer (some ⟨q, 0, none⟩)] 133, .blk p #[.int .i64 r, .int .i64 s, .int .i64 b, .int .i64 o, .int .i64 c, .int .i64 y, .int .i64 z, .slice (some ⟨gl, 0, none⟩) sn cl, .slice (some ⟨gd, 0, none⟩) pg cd, .slice (some ⟨gs, 0, none⟩) ns cs, .int .i64 ((x2.pu : Nat) : Int), .int .i64 ((x2.ru : Nat) : Int)] 118, .row (.slice (some ⟨gl, 0, none⟩) sn cl) 3 1 sn (List.map (Value.int .i64) x2.L), .row (.slice (some ⟨gd, 0, none⟩) pg cd) 4 1 pg (List.map Value.bool x2.D), .row (.slice (some ⟨gs, 0, none⟩) ns cs) 3 1 ns (List.map (Value.int .i64) x2.S), .blk q #[.slice (some ⟨gq, 0, none⟩) 256 cq, .int .i64 (ra2 : Int), .int .i64 (qn2 : Int)] 170, .row (.slice (some ⟨gq, 0, none⟩) 256 cq) 72 2 256 (List.flatMap entL ls2), .blk g3 #[.int .i64 r, .int .i64 s, .int .i64 b, .int .i64 o, .int .i64 c, .int .i64 y, .int .i64 z, lv, g.pv, g.kv, .int .i64 ((x.pu : Nat) : Int), .int .i64 ((x.ru : Nat) : Int), .int .i64 x.j.1, .int .i64 x.j.2.1, .int .i64 x.j.2.2.1, .int .i64 x.j.2.2.2, .slice g.ad g.n g.c] 68, .blk g2 #[.int .i64 aq.1, .int .i64 aq.2] 72, .blk g1 #[.int .i64 r, .int .i64 s, .int .i64 b, .int .i64 o, .int .i64 c, .int .i64 y, .int .i64 z] 25] ∧ (fp = (!(decide (((x2.pu : Nat) : Int) = z)))) ∧ (¬ ((x2.pu : Nat) : Int) = z → tp = (sn : Int) + x2.pu) ∧ (aq.1 = 1 → voidB sn ns x2.pu x2.D x2.S x2.j aq = dp)) ?_ (fun hSp1 => ?_)
      · skip
        clear H
        rintro _ v12 ⟨tp, dp, fp, uf3, rfl, H, r1, r2, r3⟩
        have hA0 := r1
        have hA1 := r2
        have hA2 := r3
        refine x_span1 (fun a w' => ∃ tt : Int, ∃ ff : Bool, ∃ kd : Int, ∃ fu : Int, ∃ dd : Bool, ∃ uf4 : Nat → Value, a = frm 207 uf4 [(5, .pointer (some ⟨g2, 0, none⟩)), (7, .pointer (some ⟨rp, 0, none⟩)), (13, .int .i64 tt), (14, .bool ff), (15, .int .i64 kd), (16, .int .i64 fu), (17, .bool dd)] [] ∧ Hs [] w0 w' [.blk rp #[.pointer (some ⟨p, 0, none⟩), .int .i64 x2.j.1, .int .i64 x2.j.2.1, .int .i64 x2.j.2.2.1, .int .i64 x2.j.2.2.2, .pointer (some ⟨q, 0, none⟩)] 133, .blk p #[.int .i64 r, .int .i64 s, .int .i64 b, .int .i64 o, .int .i64 c, .int .i64 y, .int .i64 z, .slice (some ⟨gl, 0, none⟩) sn cl, .slice (some ⟨gd, 0, none⟩) pg cd, .slice (some ⟨gs, 0, none⟩) ns cs, .int .i64 ((x2.pu : Nat) : Int), .int .i64 ((x2.ru : Nat) : Int)] 118, .row (.slice (some ⟨gl, 0, none⟩) sn cl) 3 1 sn (List.map (Value.int .i64) x2.L), .row (.slice (some ⟨gd, 0, none⟩) pg cd) 4 1 pg (List.map Value.bool x2.D), .row (.slice (some ⟨gs, 0, none⟩) ns cs) 3 1 ns (List.map (Value.int .i64) x2.S), .blk q #[.slice (some ⟨gq, 0, none⟩) 256 cq, .int .i64 (ra2 : Int), .int .i64 (qn2 : Int)] 170, .row (.slice (some ⟨gq, 0, none⟩) 256 cq) 72 2 256 (List.flatMap entL ls2), .blk g3 #[.int .i64 r, .int .i64 s, .int .i64 b, .int .i64 o, .int .i64 c, .int .i64 y, .int .i64 z, lv, g.pv, g.kv, .int .i64 ((x.pu : Nat) : Int), .int .i64 ((x.ru : Nat) : Int), .int .i64 x.j.1, .int .i64 x.j.2.1, .int .i64 x.j.2.2.1, .int .i64 x.j.2.2.2, .slice g.ad g.n g.c] 68, .blk g2 #[.int .i64 aq.1, .int .i64 aq.2] 72, .blk g1 #[.int .i64 r, .int .i64 s, .int .i64 b, .int .i64 o, .int .i64 c, .int .i64 y, .int .i64 z] 25] ∧ (aq.1 = 1 → kd = 3 ∧ fu = 0 ∧ ff = (!(decide (((x2.pu : Nat) : Int) = z))) ∧ (¬ ((x2.pu : Nat) : Int) = z → tt = (sn : Int) + x2.pu)) ∧ (aq.1 = 2 → kd = 4 ∧ fu = 1 ∧ ff = (!(decide (((x2.ru : Nat) : Int) = s))) ∧ (¬ ((x2.ru : Nat) : Int) = s → tt = r + x2.ru)) ∧ (aq.1 = 1 ∨ aq.1 = 2 → voidB sn ns x2.pu x2.D x2.S x2.j aq = dd)) ?_ (fun hSp2 => ?_)
        · skip
          clear H
          rintro _ v13 ⟨tt, ff, kd, fu, dd, uf4, rfl, H, r1, r2, r3⟩
          have hB1 := r1
          have hB2 := r2
          have hB3 := r3
          refine x_seq <| x_region <| x_b H [.m, .n 8 0 2 72] ?_
          have hx3 := hx2.ask hL aq
          refine z_call (H.useEP [0, 1, 2, 3, 4, 5, 6] (fun h => ask_of hL hx2 hk2 aq _ h)) ?_
          rintro _ v14 ⟨⟨eva, lsn3, ran3, qnn3⟩, rfl, H', hk3⟩
          refine ⟨_, rfl, ?_⟩
          clear H
          have H := hsCast H' (L2 := [.row (eva) 81 3 (List.length (Rp.askV r s z sn ns x2 aq)) (List.flatMap int3L (Rp.askV r s z sn ns x2 aq)), .blk rp #[.pointer (some ⟨p, 0, none⟩), .int .i64 (((Rp.ask r s z sn ns x2 aq).j).1), .int .i64 (((Rp.ask r s z sn ns x2 aq).j).2.1), .int .i64 (((Rp.ask r s z sn ns x2 aq).j).2.2.1), .int .i64 (((Rp.ask r s z sn ns x2 aq).j).2.2.2), .pointer (some ⟨q, 0, none⟩)] 133, .blk p #[.int .i64 r, .int .i64 s, .int .i64 b, .int .i64 o, .int .i64 c, .int .i64 y, .int .i64 z, .slice (some ⟨gl, 0, none⟩) sn cl, .slice (some ⟨gd, 0, none⟩) pg cd, .slice (some ⟨gs, 0, none⟩) ns cs, .int .i64 (((Rp.ask r s z sn ns x2 aq).pu : Nat) : Int), .int .i64 (((Rp.ask r s z sn ns x2 aq).ru : Nat) : Int)] 118, .row (.slice (some ⟨gl, 0, none⟩) sn cl) 3 1 sn (List.map (Value.int .i64) ((Rp.ask r s z sn ns x2 aq).L)), .row (.slice (some ⟨gd, 0, none⟩) pg cd) 4 1 pg (List.map Value.bool ((Rp.ask r s z sn ns x2 aq).D)), .row (.slice (some ⟨gs, 0, none⟩) ns cs) 3 1 ns (List.map (Value.int .i64) ((Rp.ask r s z sn ns x2 aq).S)), .blk q #[.slice (some ⟨gq, 0, none⟩) 256 cq, .int .i64 (ran3 : Int), .int .i64 (qnn3 : Int)] 170, .row (.slice (some ⟨gq, 0, none⟩) 256 cq) 72 2 256 (List.flatMap entL lsn3), .blk g3 #[.int .i64 r, .int .i64 s, .int .i64 b, .int .i64 o, .int .i64 c, .int .i64 y, .int .i64 z, lv, g.pv, g.kv, .int .i64 ((x.pu : Nat) : Int), .int .i64 ((x.ru : Nat) : Int), .int .i64 x.j.1, .int .i64 x.j.2.1, .int .i64 x.j.2.2.1, .int .i64 x.j.2.2.2, .slice g.ad g.n g.c] 68, .blk g2 #[.int .i64 aq.1, .int .i64 aq.2] 72, .blk g1 #[.int .i64 r, .int .i64 s, .int .i64 b, .int .i64 o, .int .i64 c, .int .i64 y, .int .i64 z] 25]) (by kernel_rfl)
          clear H'
          replace hk3 : RgOk lsn3 ran3 qnn3 (Rp.ask r s z sn ns x2 aq).Q := hk3
          obtain ⟨xa, exa⟩ : ∃ y, y = (Rp.ask r s z sn ns x2 aq) := ⟨_, rfl⟩
          rw [← exa] at H
          obtain ⟨E1, eE1⟩ : ∃ l : List Int3, l = (Rp.askV r s z sn ns x2 aq) := ⟨_, rfl⟩
          rw [← eE1] at H
          replace H := hsCast H (L2 := [.row (eva) 81 3 (List.length E1) (List.flatMap int3L E1), .blk rp #[.pointer (some ⟨p, 0, none⟩), .int .i64 xa.j.1, .int .i64 xa.j.2.1, .int .i64 xa.j.2.2.1, .int .i64 xa.j.2.2.2, .pointer (some ⟨q, 0, none⟩)] 133, .blk p #[.int .i64 r, .int .i64 s, .int .i64 b, .int .i64 o, .int .i64 c, .int .i64 y, .int .i64 z, .slice (some ⟨gl, 0, none⟩) sn cl, .slice (some ⟨gd, 0, none⟩) pg cd, .slice (some ⟨gs, 0, none⟩) ns cs, .int .i64 ((xa.pu : Nat) : Int), .int .i64 ((xa.ru : Nat) : Int)] 118, .row (.slice (some ⟨gl, 0, none⟩) sn cl) 3 1 sn (List.map (Value.int .i64) xa.L), .row (.slice (some ⟨gd, 0, none⟩) pg cd) 4 1 pg (List.map Value.bool xa.D), .row (.slice (some ⟨gs, 0, none⟩) ns cs) 3 1 ns (List.map (Value.int .i64) xa.S), .blk q #[.slice (some ⟨gq, 0, none⟩) 256 cq, .int .i64 (ran3 : Int), .int .i64 (qnn3 : Int)] 170, .row (.slice (some ⟨gq, 0, none⟩) 256 cq) 72 2 256 (List.flatMap entL lsn3), .blk g3 #[.int .i64 r, .int .i64 s, .int .i64 b, .int .i64 o, .int .i64 c, .int .i64 y, .int .i64 z, lv, g.pv, g.kv, .int .i64 ((x.pu : Nat) : Int), .int .i64 ((x.ru : Nat) : Int), .int .i64 x.j.1, .int .i64 x.j.2.1, .int .i64 x.j.2.2.1, .int .i64 x.j.2.2.2, .slice g.ad g.n g.c] 68, .blk g2 #[.int .i64 aq.1, .int .i64 aq.2] 72, .blk g1 #[.int .i64 r, .int .i64 s, .int .i64 b, .int .i64 o, .int .i64 c, .int .i64 y, .int .i64 z] 25]) (by kernel_rfl)
          refine x_b H [.m] <| x_nil <| x_then <| x_seq <| x_seq <| x_region <| x_b H [.m, .l 9 0, .v (.bool (!(decide (aq.1 = 1)))), .v (.bool (!(decide (aq.1 = 1))))] ?_
          cases h10 : decide (aq.1 = 1)
          · skip
            have h10p := of_decide_eq_false h10
            refine x_b H [.m, .l 9 0, .v (.bool (!(decide (aq.1 = 2)))), .v (.bool (!(decide (aq.1 = 2)))), .v (.bool (!(decide (aq.1 = 2))))] ?_
            cases h11 : decide (aq.1 = 2)
            · skip
              have h11p := of_decide_eq_false h11
              refine x_b H [.k, .m] <| x_nil <| x_then <| x_t (by kernel_rfl) <| x_seq <| x_region <| x_b H [.m] ?_
              refine x_lenR H 0 eva 75 81 3 (List.length E1) (List.flatMap int3L E1) rfl (by kernel_rfl) (by kernel_rfl) rfl (by kernel_rfl) <| x_b H [.v (.bool (decide ((((List.length E1) : Nat) : Int) = 0))), .v (.bool (decide ((((List.length E1) : Nat) : Int) = 0)))] ?_
              cases h12 : decide ((((List.length E1) : Nat) : Int) = 0)
              · skip
                have h12p := of_decide_eq_false h12
                exact absurd h12p (by rw [eE1, (Rp.ask_void (r := r) (s := s) (z := z) (sn := sn) (ns := ns) (x := x2) (a := aq) (by exact vb0 (by omega) (by omega))).2]; simp)
              have h12p := of_decide_eq_true h12
              refine x_b H [.m] <| z_callB H (Job_of (x := xa) _ (H.ro1 [1])) fun v15 H => x_b H [.m] <| x_val (.bool (decide ((xa.j.1 : Int) = 0) && (decide ((xa.j.2.1 : Int) = 0) && (decide ((xa.j.2.2.1 : Int) = 0) && (decide ((xa.j.2.2.2 : Int) = 0) && true))))) (by kernel_rfl) rfl (run_eqS (t := 77) (x := .tmp 157) (y := .tmp 158) (xs := #[.int .i64 xa.j.1, .int .i64 xa.j.2.1, .int .i64 xa.j.2.2.1, .int .i64 xa.j.2.2.2]) (ys := #[.int .i64 0, .int .i64 0, .int .i64 0, .int .i64 0]) (B := decide ((xa.j.1 : Int) = 0) && (decide ((xa.j.2.1 : Int) = 0) && (decide ((xa.j.2.2.1 : Int) = 0) && (decide ((xa.j.2.2.2 : Int) = 0) && true)))) (by kernel_rfl) (by kernel_rfl) (by kernel_rfl)) <| x_b H [.v (.bool (decide ((xa.j.1 : Int) = 0) && (decide ((xa.j.2.1 : Int) = 0) && (decide ((xa.j.2.2.1 : Int) = 0) && (decide ((xa.j.2.2.2 : Int) = 0) && true))))), .v (.bool (decide ((xa.j.1 : Int) = 0) && (decide ((xa.j.2.1 : Int) = 0) && (decide ((xa.j.2.2.1 : Int) = 0) && (decide ((xa.j.2.2.2 : Int) = 0) && true)))))] ?_
              refine x_nil <| x_then <| x_retc <| x_then_ret <| x_ret (.bool (decide ((xa.j.1 : Int) = 0) && (decide ((xa.j.2.1 : Int) = 0) && (decide ((xa.j.2.2.1 : Int) = 0) && (decide ((xa.j.2.2.2 : Int) = 0) && true))))) (by kernel_rfl) (by kernel_rfl) ?_
              have hak := Rp.ask_void (r := r) (s := s) (z := z) (sn := sn) (ns := ns) (x := x2) (a := aq) (by exact vb0 (by omega) (by omega))
              have ea1 := exa.trans hak.1
              have ea2 := eE1.trans hak.2
              have eb : ((decide ((xa.j.1 : Int) = 0) && (decide ((xa.j.2.1 : Int) = 0) && (decide ((xa.j.2.2.1 : Int) = 0) && (decide ((xa.j.2.2.2 : Int) = 0) && true))))) = true := by
                rw [ea1]
                simp [hj0] <;> omega
              exact ⟨by rw [eb], H.below⟩
            have h11p := of_decide_eq_true h11
            refine x_b H [.v (.bool dd), .v (.bool dd)] <| x_nil <| x_then ?_
            cases h13 : dd
            · skip
              have hkk : aq.1 = 1 ∨ aq.1 = 2 := by omega
              have hv : voidB sn ns x2.pu x2.D x2.S x2.j aq = false := (hB3 hkk).trans h13
              have hE1 : E1.length = 1 := by rw [eE1]; exact Rp.askV_one (by omega) hv
              rcases H.rowForm 0 rfl with ⟨rfl, hf0⟩ | ⟨gf1, cf1, rfl, hcf1, -⟩
              · exfalso; omega
              refine x_f (by kernel_rfl) <| x_skipc <| x_then <| x_seq <| x_seq <| x_region <| x_b H [.v (.bool ff), .v (.bool (!ff))] ?_
              refine x_nil <| x_then ?_
              cases h14 : ff
              · skip
                have hq := hB2 (by omega)
                have hq3 := hq.2.2.1.symm.trans h14
                have hn : ((x2.ru : Nat) : Int) = s := by simpa using hq3
                obtain ⟨e1, e2, -, -⟩ := hq
                have hak := Rp.ask_none (r := r) (s := s) (z := z) (sn := sn) (ns := ns) (x := x2) (a := aq) (by omega) hv (by omega)
                have ea1 := exa.trans hak.1
                have ea2 := eE1.trans hak.2
                refine x_t (by kernel_rfl) <| x_seq <| z_region_whole H <| q_b [.m, .m, .v (.bool (decide ((((List.length E1) : Nat) : Int) = 1))), .v (.bool (decide ((((List.length E1) : Nat) : Int) = 1)))] ?_
                cases h15 : decide ((((List.length E1) : Nat) : Int) = 1)
                · skip
                  have h15p := of_decide_eq_false h15
                  exact absurd h15p (by omega)
                have h15p := of_decide_eq_true h15
                refine q_b [.m] <| q_ix (t := 75) gf1 0 0 (List.length E1) cf1 81 3 (0 * 3) (by omega) (by omega) (by kernel_rfl) (by kernel_rfl) (by kernel_rfl) (fun _ => by kernel_rfl) <| q_loadcn (t := 81) gf1 (0 * 3) [.int .i64 ((E1.getD 0 (0, 0, 0)).1), .int .i64 ((E1.getD 0 (0, 0, 0)).2.1), .int .i64 ((E1.getD 0 (0, 0, 0)).2.2)] (fun _ H => H.rowCells 0 rfl (0 * 3) (flatAt int3Len (0, 0, 0) _ (by omega))) (by kernel_rfl) (by kernel_rfl) (by kernel_rfl) <| q_b [.m, .l 9 1, .m, .m] <| q_val (.bool (decide ((((E1.getD 0 (0, 0, 0)).1) : Int) = 5) && (decide ((((E1.getD 0 (0, 0, 0)).2.1) : Int) = aq.2) && (decide ((((E1.getD 0 (0, 0, 0)).2.2) : Int) = fu) && true)))) (by kernel_rfl) (fun _ => (run_eqS (t := 81) (x := .tmp 169) (y := .tmp 173) (xs := #[.int .i64 ((E1.getD 0 (0, 0, 0)).1), .int .i64 ((E1.getD 0 (0, 0, 0)).2.1), .int .i64 ((E1.getD 0 (0, 0, 0)).2.2)]) (ys := #[.int .i64 5, .int .i64 aq.2, .int .i64 fu]) (B := decide ((((E1.getD 0 (0, 0, 0)).1) : Int) = 5) && (decide ((((E1.getD 0 (0, 0, 0)).2.1) : Int) = aq.2) && (decide ((((E1.getD 0 (0, 0, 0)).2.2) : Int) = fu) && true))) (by kernel_rfl) (by kernel_rfl) (by kernel_rfl))) ?_
                refine q_b [.v (.bool (decide ((((E1.getD 0 (0, 0, 0)).1) : Int) = 5) && (decide ((((E1.getD 0 (0, 0, 0)).2.1) : Int) = aq.2) && (decide ((((E1.getD 0 (0, 0, 0)).2.2) : Int) = fu) && true)))), .v (.bool (decide ((((E1.getD 0 (0, 0, 0)).1) : Int) = 5) && (decide ((((E1.getD 0 (0, 0, 0)).2.1) : Int) = aq.2) && (decide ((((E1.getD 0 (0, 0, 0)).2.2) : Int) = fu) && true))))] ?_
                cases h16 : decide ((((E1.getD 0 (0, 0, 0)).1) : Int) = 5) && (decide ((((E1.getD 0 (0, 0, 0)).2.1) : Int) = aq.2) && (decide ((((E1.getD 0 (0, 0, 0)).2.2) : Int) = fu) && true))
                · skip
                  exact absurd h16 (by rw [ea2]; simp <;> omega)
                refine q_b [.m] <| q_callR (.agg #[.int .i64 xa.j.1, .int .i64 xa.j.2.1, .int .i64 xa.j.2.2.1, .int .i64 xa.j.2.2.2]) (by kernel_rfl) (fun _ => by kernel_rfl) (fun _ H => (Job_of (x := xa) _ (H.ro1 [1]))) <| q_b [.m] <| q_val (.bool (decide ((xa.j.1 : Int) = 0) && (decide ((xa.j.2.1 : Int) = 0) && (decide ((xa.j.2.2.1 : Int) = 0) && (decide ((xa.j.2.2.2 : Int) = 0) && true))))) (by kernel_rfl) (fun _ => (run_eqS (t := 77) (x := .tmp 178) (y := .tmp 179) (xs := #[.int .i64 xa.j.1, .int .i64 xa.j.2.1, .int .i64 xa.j.2.2.1, .int .i64 xa.j.2.2.2]) (ys := #[.int .i64 0, .int .i64 0, .int .i64 0, .int .i64 0]) (B := decide ((xa.j.1 : Int) = 0) && (decide ((xa.j.2.1 : Int) = 0) && (decide ((xa.j.2.2.1 : Int) = 0) && (decide ((xa.j.2.2.2 : Int) = 0) && true)))) (by kernel_rfl) (by kernel_rfl) (by kernel_rfl))) <| q_b [.v (.bool (decide ((xa.j.1 : Int) = 0) && (decide ((xa.j.2.1 : Int) = 0) && (decide ((xa.j.2.2.1 : Int) = 0) && (decide ((xa.j.2.2.2 : Int) = 0) && true))))), .v (.bool (decide ((xa.j.1 : Int) = 0) && (decide ((xa.j.2.1 : Int) = 0) && (decide ((xa.j.2.2.1 : Int) = 0) && (decide ((xa.j.2.2.2 : Int) = 0) && true)))))] ?_
                refine q_nil ?_
                clear H
                intro v16 H
                refine x_then <| x_retc <| x_then_ret <| x_ret (.bool (decide ((xa.j.1 : Int) = 0) && (decide ((xa.j.2.1 : Int) = 0) && (decide ((xa.j.2.2.1 : Int) = 0) && (decide ((xa.j.2.2.2 : Int) = 0) && true))))) (by kernel_rfl) (by kernel_rfl) ?_
                have eb : ((decide ((xa.j.1 : Int) = 0) && (decide ((xa.j.2.1 : Int) = 0) && (decide ((xa.j.2.2.1 : Int) = 0) && (decide ((xa.j.2.2.2 : Int) = 0) && true))))) = true := by
                  rw [ea1]
                  simp [hj0] <;> omega
                exact ⟨by rw [eb], H.below⟩
              have hq := hB2 (by omega)
              have hq3 := hq.2.2.1.symm.trans h14
              have hn : ¬ ((x2.ru : Nat) : Int) = s := by simpa using hq3
              obtain ⟨e1, e2, -, e4⟩ := hq
              have e5 := e4 hn
              have hak := Rp.ask_rank (r := r) (s := s) (z := z) (sn := sn) (ns := ns) (x := x2) (a := aq) (by omega) hv (by omega) hn
              have ea1 := exa.trans hak.1
              have ea2 := eE1.trans hak.2
              refine x_f (by kernel_rfl) <| x_skipc <| x_then <| x_seq <| z_region_whole H <| q_b [.m, .m, .v (.bool (decide ((((List.length E1) : Nat) : Int) = 1))), .v (.bool (decide ((((List.length E1) : Nat) : Int) = 1)))] ?_
              cases h17 : decide ((((List.length E1) : Nat) : Int) = 1)
              · skip
                have h17p := of_decide_eq_false h17
                exact absurd h17p (by omega)
              have h17p := of_decide_eq_true h17
              refine q_b [.m] <| q_ix (t := 75) gf1 0 0 (List.length E1) cf1 81 3 (0 * 3) (by omega) (by omega) (by kernel_rfl) (by kernel_rfl) (by kernel_rfl) (fun _ => by kernel_rfl) <| q_loadcn (t := 81) gf1 (0 * 3) [.int .i64 ((E1.getD 0 (0, 0, 0)).1), .int .i64 ((E1.getD 0 (0, 0, 0)).2.1), .int .i64 ((E1.getD 0 (0, 0, 0)).2.2)] (fun _ H => H.rowCells 0 rfl (0 * 3) (flatAt int3Len (0, 0, 0) _ (by omega))) (by kernel_rfl) (by kernel_rfl) (by kernel_rfl) <| q_b [.m, .m, .l 9 1, .m, .m] <| q_val (.bool (decide ((((E1.getD 0 (0, 0, 0)).1) : Int) = kd) && (decide ((((E1.getD 0 (0, 0, 0)).2.1) : Int) = aq.2) && (decide ((((E1.getD 0 (0, 0, 0)).2.2) : Int) = tt) && true)))) (by kernel_rfl) (fun _ => (run_eqS (t := 81) (x := .tmp 188) (y := .tmp 193) (xs := #[.int .i64 ((E1.getD 0 (0, 0, 0)).1), .int .i64 ((E1.getD 0 (0, 0, 0)).2.1), .int .i64 ((E1.getD 0 (0, 0, 0)).2.2)]) (ys := #[.int .i64 kd, .int .i64 aq.2, .int .i64 tt]) (B := decide ((((E1.getD 0 (0, 0, 0)).1) : Int) = kd) && (decide ((((E1.getD 0 (0, 0, 0)).2.1) : Int) = aq.2) && (decide ((((E1.getD 0 (0, 0, 0)).2.2) : Int) = tt) && true))) (by kernel_rfl) (by kernel_rfl) (by kernel_rfl))) ?_
              refine q_b [.v (.bool (decide ((((E1.getD 0 (0, 0, 0)).1) : Int) = kd) && (decide ((((E1.getD 0 (0, 0, 0)).2.1) : Int) = aq.2) && (decide ((((E1.getD 0 (0, 0, 0)).2.2) : Int) = tt) && true)))), .v (.bool (decide ((((E1.getD 0 (0, 0, 0)).1) : Int) = kd) && (decide ((((E1.getD 0 (0, 0, 0)).2.1) : Int) = aq.2) && (decide ((((E1.getD 0 (0, 0, 0)).2.2) : Int) = tt) && true))))] ?_
              cases h18 : decide ((((E1.getD 0 (0, 0, 0)).1) : Int) = kd) && (decide ((((E1.getD 0 (0, 0, 0)).2.1) : Int) = aq.2) && (decide ((((E1.getD 0 (0, 0, 0)).2.2) : Int) = tt) && true))
              · skip
                exact absurd h18 (by rw [ea2]; simp <;> omega)
              refine q_b [.m] <| q_callR (.agg #[.int .i64 xa.j.1, .int .i64 xa.j.2.1, .int .i64 xa.j.2.2.1, .int .i64 xa.j.2.2.2]) (by kernel_rfl) (fun _ => by kernel_rfl) (fun _ H => (Job_of (x := xa) _ (H.ro1 [1]))) <| q_b [.m, .l 9 0, .m, .l 9 1, .m, .m] <| q_val (.bool (decide ((xa.j.1 : Int) = aq.1) && (decide ((xa.j.2.1 : Int) = aq.2) && (decide ((xa.j.2.2.1 : Int) = tt) && (decide ((xa.j.2.2.2 : Int) = 0) && true))))) (by kernel_rfl) (fun _ => (run_eqS (t := 77) (x := .tmp 198) (y := .tmp 204) (xs := #[.int .i64 xa.j.1, .int .i64 xa.j.2.1, .int .i64 xa.j.2.2.1, .int .i64 xa.j.2.2.2]) (ys := #[.int .i64 aq.1, .int .i64 aq.2, .int .i64 tt, .int .i64 0]) (B := decide ((xa.j.1 : Int) = aq.1) && (decide ((xa.j.2.1 : Int) = aq.2) && (decide ((xa.j.2.2.1 : Int) = tt) && (decide ((xa.j.2.2.2 : Int) = 0) && true)))) (by kernel_rfl) (by kernel_rfl) (by kernel_rfl))) <| q_b [.v (.bool (decide ((xa.j.1 : Int) = aq.1) && (decide ((xa.j.2.1 : Int) = aq.2) && (decide ((xa.j.2.2.1 : Int) = tt) && (decide ((xa.j.2.2.2 : Int) = 0) && true))))), .v (.bool (decide ((xa.j.1 : Int) = aq.1) && (decide ((xa.j.2.1 : Int) = aq.2) && (decide ((xa.j.2.2.1 : Int) = tt) && (decide ((xa.j.2.2.2 : Int) = 0) && true)))))] ?_
              refine q_nil ?_
              clear H
              intro v17 H
              refine z_fr 207 [(6, .bool (decide ((xa.j.1 : Int) = aq.1) && (decide ((xa.j.2.1 : Int) = aq.2) && (decide ((xa.j.2.2.1 : Int) = tt) && (decide ((xa.j.2.2.2 : Int) = 0) && true)))))] [] fun uf5 => x_then <| x_retc <| x_ret (.bool (decide ((xa.j.1 : Int) = aq.1) && (decide ((xa.j.2.1 : Int) = aq.2) && (decide ((xa.j.2.2.1 : Int) = tt) && (decide ((xa.j.2.2.2 : Int) = 0) && true))))) (by kernel_rfl) (by kernel_rfl) ?_
              have eb : ((decide ((xa.j.1 : Int) = aq.1) && (decide ((xa.j.2.1 : Int) = aq.2) && (decide ((xa.j.2.2.1 : Int) = tt) && (decide ((xa.j.2.2.2 : Int) = 0) && true))))) = true := by
                rw [ea1]
                simp [hj0] <;> omega
              exact ⟨by rw [eb], H.below⟩
            refine x_t (by kernel_rfl) <| x_seq <| x_region <| x_b H [.m] <| x_lenR H 0 eva 75 81 3 (List.length E1) (List.flatMap int3L E1) rfl (by kernel_rfl) (by kernel_rfl) rfl (by kernel_rfl) <| x_b H [.v (.bool (decide ((((List.length E1) : Nat) : Int) = 0))), .v (.bool (decide ((((List.length E1) : Nat) : Int) = 0)))] ?_
            cases h19 : decide ((((List.length E1) : Nat) : Int) = 0)
            · skip
              have h19p := of_decide_eq_false h19
              exact absurd h19p (by rw [eE1, (Rp.ask_void (r := r) (s := s) (z := z) (sn := sn) (ns := ns) (x := x2) (a := aq) (by exact (hB3 (by omega)).trans h13)).2]; simp)
            have h19p := of_decide_eq_true h19
            refine x_b H [.m] <| z_callB H (Job_of (x := xa) _ (H.ro1 [1])) fun v18 H => x_b H [.m] <| x_val (.bool (decide ((xa.j.1 : Int) = 0) && (decide ((xa.j.2.1 : Int) = 0) && (decide ((xa.j.2.2.1 : Int) = 0) && (decide ((xa.j.2.2.2 : Int) = 0) && true))))) (by kernel_rfl) rfl (run_eqS (t := 77) (x := .tmp 157) (y := .tmp 158) (xs := #[.int .i64 xa.j.1, .int .i64 xa.j.2.1, .int .i64 xa.j.2.2.1, .int .i64 xa.j.2.2.2]) (ys := #[.int .i64 0, .int .i64 0, .int .i64 0, .int .i64 0]) (B := decide ((xa.j.1 : Int) = 0) && (decide ((xa.j.2.1 : Int) = 0) && (decide ((xa.j.2.2.1 : Int) = 0) && (decide ((xa.j.2.2.2 : Int) = 0) && true)))) (by kernel_rfl) (by kernel_rfl) (by kernel_rfl)) <| x_b H [.v (.bool (decide ((xa.j.1 : Int) = 0) && (decide ((xa.j.2.1 : Int) = 0) && (decide ((xa.j.2.2.1 : Int) = 0) && (decide ((xa.j.2.2.2 : Int) = 0) && true))))), .v (.bool (decide ((xa.j.1 : Int) = 0) && (decide ((xa.j.2.1 : Int) = 0) && (decide ((xa.j.2.2.1 : Int) = 0) && (decide ((xa.j.2.2.2 : Int) = 0) && true)))))] ?_
            refine x_nil <| x_then <| x_retc <| x_then_ret <| x_ret (.bool (decide ((xa.j.1 : Int) = 0) && (decide ((xa.j.2.1 : Int) = 0) && (decide ((xa.j.2.2.1 : Int) = 0) && (decide ((xa.j.2.2.2 : Int) = 0) && true))))) (by kernel_rfl) (by kernel_rfl) ?_
            have hak := Rp.ask_void (r := r) (s := s) (z := z) (sn := sn) (ns := ns) (x := x2) (a := aq) (by exact (hB3 (by omega)).trans h13)
            have ea1 := exa.trans hak.1
            have ea2 := eE1.trans hak.2
            have eb : ((decide ((xa.j.1 : Int) = 0) && (decide ((xa.j.2.1 : Int) = 0) && (decide ((xa.j.2.2.1 : Int) = 0) && (decide ((xa.j.2.2.2 : Int) = 0) && true))))) = true := by
              rw [ea1]
              simp [hj0] <;> omega
            exact ⟨by rw [eb], H.below⟩
          have h10p := of_decide_eq_true h10
          refine x_b H [.k, .k, .k, .m, .m, .v (.bool dd), .v (.bool dd)] <| x_nil <| x_then ?_
          cases h20 : dd
          · skip
            have hkk : aq.1 = 1 ∨ aq.1 = 2 := by omega
            have hv : voidB sn ns x2.pu x2.D x2.S x2.j aq = false := (hB3 hkk).trans h20
            have hE1 : E1.length = 1 := by rw [eE1]; exact Rp.askV_one (by omega) hv
            rcases H.rowForm 0 rfl with ⟨rfl, hf0⟩ | ⟨gf2, cf2, rfl, hcf2, -⟩
            · exfalso; omega
            refine x_f (by kernel_rfl) <| x_skipc <| x_then <| x_seq <| x_seq <| x_region <| x_b H [.v (.bool ff), .v (.bool (!ff))] ?_
            refine x_nil <| x_then ?_
            cases h21 : ff
            · skip
              have hq := hB1 (by omega)
              have hq3 := hq.2.2.1.symm.trans h21
              have hn : ((x2.pu : Nat) : Int) = z := by simpa using hq3
              obtain ⟨e1, e2, -, -⟩ := hq
              have hak := Rp.ask_none (r := r) (s := s) (z := z) (sn := sn) (ns := ns) (x := x2) (a := aq) (by omega) hv (by omega)
              have ea1 := exa.trans hak.1
              have ea2 := eE1.trans hak.2
              refine x_t (by kernel_rfl) <| x_seq <| z_region_whole H <| q_b [.m, .m, .v (.bool (decide ((((List.length E1) : Nat) : Int) = 1))), .v (.bool (decide ((((List.length E1) : Nat) : Int) = 1)))] ?_
              cases h22 : decide ((((List.length E1) : Nat) : Int) = 1)
              · skip
                have h22p := of_decide_eq_false h22
                exact absurd h22p (by omega)
              have h22p := of_decide_eq_true h22
              refine q_b [.m] <| q_ix (t := 75) gf2 0 0 (List.length E1) cf2 81 3 (0 * 3) (by omega) (by omega) (by kernel_rfl) (by kernel_rfl) (by kernel_rfl) (fun _ => by kernel_rfl) <| q_loadcn (t := 81) gf2 (0 * 3) [.int .i64 ((E1.getD 0 (0, 0, 0)).1), .int .i64 ((E1.getD 0 (0, 0, 0)).2.1), .int .i64 ((E1.getD 0 (0, 0, 0)).2.2)] (fun _ H => H.rowCells 0 rfl (0 * 3) (flatAt int3Len (0, 0, 0) _ (by omega))) (by kernel_rfl) (by kernel_rfl) (by kernel_rfl) <| q_b [.m, .l 9 1, .m, .m] <| q_val (.bool (decide ((((E1.getD 0 (0, 0, 0)).1) : Int) = 5) && (decide ((((E1.getD 0 (0, 0, 0)).2.1) : Int) = aq.2) && (decide ((((E1.getD 0 (0, 0, 0)).2.2) : Int) = fu) && true)))) (by kernel_rfl) (fun _ => (run_eqS (t := 81) (x := .tmp 169) (y := .tmp 173) (xs := #[.int .i64 ((E1.getD 0 (0, 0, 0)).1), .int .i64 ((E1.getD 0 (0, 0, 0)).2.1), .int .i64 ((E1.getD 0 (0, 0, 0)).2.2)]) (ys := #[.int .i64 5, .int .i64 aq.2, .int .i64 fu]) (B := decide ((((E1.getD 0 (0, 0, 0)).1) : Int) = 5) && (decide ((((E1.getD 0 (0, 0, 0)).2.1) : Int) = aq.2) && (decide ((((E1.getD 0 (0, 0, 0)).2.2) : Int) = fu) && true))) (by kernel_rfl) (by kernel_rfl) (by kernel_rfl))) ?_
              refine q_b [.v (.bool (decide ((((E1.getD 0 (0, 0, 0)).1) : Int) = 5) && (decide ((((E1.getD 0 (0, 0, 0)).2.1) : Int) = aq.2) && (decide ((((E1.getD 0 (0, 0, 0)).2.2) : Int) = fu) && true)))), .v (.bool (decide ((((E1.getD 0 (0, 0, 0)).1) : Int) = 5) && (decide ((((E1.getD 0 (0, 0, 0)).2.1) : Int) = aq.2) && (decide ((((E1.getD 0 (0, 0, 0)).2.2) : Int) = fu) && true))))] ?_
              cases h23 : decide ((((E1.getD 0 (0, 0, 0)).1) : Int) = 5) && (decide ((((E1.getD 0 (0, 0, 0)).2.1) : Int) = aq.2) && (decide ((((E1.getD 0 (0, 0, 0)).2.2) : Int) = fu) && true))
              · skip
                exact absurd h23 (by rw [ea2]; simp <;> omega)
              refine q_b [.m] <| q_callR (.agg #[.int .i64 xa.j.1, .int .i64 xa.j.2.1, .int .i64 xa.j.2.2.1, .int .i64 xa.j.2.2.2]) (by kernel_rfl) (fun _ => by kernel_rfl) (fun _ H => (Job_of (x := xa) _ (H.ro1 [1]))) <| q_b [.m] <| q_val (.bool (decide ((xa.j.1 : Int) = 0) && (decide ((xa.j.2.1 : Int) = 0) && (decide ((xa.j.2.2.1 : Int) = 0) && (decide ((xa.j.2.2.2 : Int) = 0) && true))))) (by kernel_rfl) (fun _ => (run_eqS (t := 77) (x := .tmp 178) (y := .tmp 179) (xs := #[.int .i64 xa.j.1, .int .i64 xa.j.2.1, .int .i64 xa.j.2.2.1, .int .i64 xa.j.2.2.2]) (ys := #[.int .i64 0, .int .i64 0, .int .i64 0, .int .i64 0]) (B := decide ((xa.j.1 : Int) = 0) && (decide ((xa.j.2.1 : Int) = 0) && (decide ((xa.j.2.2.1 : Int) = 0) && (decide ((xa.j.2.2.2 : Int) = 0) && true)))) (by kernel_rfl) (by kernel_rfl) (by kernel_rfl))) <| q_b [.v (.bool (decide ((xa.j.1 : Int) = 0) && (decide ((xa.j.2.1 : Int) = 0) && (decide ((xa.j.2.2.1 : Int) = 0) && (decide ((xa.j.2.2.2 : Int) = 0) && true))))), .v (.bool (decide ((xa.j.1 : Int) = 0) && (decide ((xa.j.2.1 : Int) = 0) && (decide ((xa.j.2.2.1 : Int) = 0) && (decide ((xa.j.2.2.2 : Int) = 0) && true)))))] ?_
              refine q_nil ?_
              clear H
              intro v19 H
              refine x_then <| x_retc <| x_then_ret <| x_ret (.bool (decide ((xa.j.1 : Int) = 0) && (decide ((xa.j.2.1 : Int) = 0) && (decide ((xa.j.2.2.1 : Int) = 0) && (decide ((xa.j.2.2.2 : Int) = 0) && true))))) (by kernel_rfl) (by kernel_rfl) ?_
              have eb : ((decide ((xa.j.1 : Int) = 0) && (decide ((xa.j.2.1 : Int) = 0) && (decide ((xa.j.2.2.1 : Int) = 0) && (decide ((xa.j.2.2.2 : Int) = 0) && true))))) = true := by
                rw [ea1]
                simp [hj0] <;> omega
              exact ⟨by rw [eb], H.below⟩
            have hq := hB1 (by omega)
            have hq3 := hq.2.2.1.symm.trans h21
            have hn : ¬ ((x2.pu : Nat) : Int) = z := by simpa using hq3
            obtain ⟨e1, e2, -, e4⟩ := hq
            have e5 := e4 hn
            have hak := Rp.ask_page (r := r) (s := s) (z := z) (sn := sn) (ns := ns) (x := x2) (a := aq) (by omega) hv (by omega) hn
            have ea1 := exa.trans hak.1
            have ea2 := eE1.trans hak.2
            refine x_f (by kernel_rfl) <| x_skipc <| x_then <| x_seq <| z_region_whole H <| q_b [.m, .m, .v (.bool (decide ((((List.length E1) : Nat) : Int) = 1))), .v (.bool (decide ((((List.length E1) : Nat) : Int) = 1)))] ?_
            cases h24 : decide ((((List.length E1) : Nat) : Int) = 1)
            · skip
              have h24p := of_decide_eq_false h24
              exact absurd h24p (by omega)
            have h24p := of_decide_eq_true h24
            refine q_b [.m] <| q_ix (t := 75) gf2 0 0 (List.length E1) cf2 81 3 (0 * 3) (by omega) (by omega) (by kernel_rfl) (by kernel_rfl) (by kernel_rfl) (fun _ => by kernel_rfl) <| q_loadcn (t := 81) gf2 (0 * 3) [.int .i64 ((E1.getD 0 (0, 0, 0)).1), .int .i64 ((E1.getD 0 (0, 0, 0)).2.1), .int .i64 ((E1.getD 0 (0, 0, 0)).2.2)] (fun _ H => H.rowCells 0 rfl (0 * 3) (flatAt int3Len (0, 0, 0) _ (by omega))) (by kernel_rfl) (by kernel_rfl) (by kernel_rfl) <| q_b [.m, .m, .l 9 1, .m, .m] <| q_val (.bool (decide ((((E1.getD 0 (0, 0, 0)).1) : Int) = kd) && (decide ((((E1.getD 0 (0, 0, 0)).2.1) : Int) = aq.2) && (decide ((((E1.getD 0 (0, 0, 0)).2.2) : Int) = tt) && true)))) (by kernel_rfl) (fun _ => (run_eqS (t := 81) (x := .tmp 188) (y := .tmp 193) (xs := #[.int .i64 ((E1.getD 0 (0, 0, 0)).1), .int .i64 ((E1.getD 0 (0, 0, 0)).2.1), .int .i64 ((E1.getD 0 (0, 0, 0)).2.2)]) (ys := #[.int .i64 kd, .int .i64 aq.2, .int .i64 tt]) (B := decide ((((E1.getD 0 (0, 0, 0)).1) : Int) = kd) && (decide ((((E1.getD 0 (0, 0, 0)).2.1) : Int) = aq.2) && (decide ((((E1.getD 0 (0, 0, 0)).2.2) : Int) = tt) && true))) (by kernel_rfl) (by kernel_rfl) (by kernel_rfl))) ?_
            refine q_b [.v (.bool (decide ((((E1.getD 0 (0, 0, 0)).1) : Int) = kd) && (decide ((((E1.getD 0 (0, 0, 0)).2.1) : Int) = aq.2) && (decide ((((E1.getD 0 (0, 0, 0)).2.2) : Int) = tt) && true)))), .v (.bool (decide ((((E1.getD 0 (0, 0, 0)).1) : Int) = kd) && (decide ((((E1.getD 0 (0, 0, 0)).2.1) : Int) = aq.2) && (decide ((((E1.getD 0 (0, 0, 0)).2.2) : Int) = tt) && true))))] ?_
            cases h25 : decide ((((E1.getD 0 (0, 0, 0)).1) : Int) = kd) && (decide ((((E1.getD 0 (0, 0, 0)).2.1) : Int) = aq.2) && (decide ((((E1.getD 0 (0, 0, 0)).2.2) : Int) = tt) && true))
            · skip
              exact absurd h25 (by rw [ea2]; simp <;> omega)
            refine q_b [.m] <| q_callR (.agg #[.int .i64 xa.j.1, .int .i64 xa.j.2.1, .int .i64 xa.j.2.2.1, .int .i64 xa.j.2.2.2]) (by kernel_rfl) (fun _ => by kernel_rfl) (fun _ H => (Job_of (x := xa) _ (H.ro1 [1]))) <| q_b [.m, .l 9 0, .m, .l 9 1, .m, .m] <| q_val (.bool (decide ((xa.j.1 : Int) = aq.1) && (decide ((xa.j.2.1 : Int) = aq.2) && (decide ((xa.j.2.2.1 : Int) = tt) && (decide ((xa.j.2.2.2 : Int) = 0) && true))))) (by kernel_rfl) (fun _ => (run_eqS (t := 77) (x := .tmp 198) (y := .tmp 204) (xs := #[.int .i64 xa.j.1, .int .i64 xa.j.2.1, .int .i64 xa.j.2.2.1, .int .i64 xa.j.2.2.2]) (ys := #[.int .i64 aq.1, .int .i64 aq.2, .int .i64 tt, .int .i64 0]) (B := decide ((xa.j.1 : Int) = aq.1) && (decide ((xa.j.2.1 : Int) = aq.2) && (decide ((xa.j.2.2.1 : Int) = tt) && (decide ((xa.j.2.2.2 : Int) = 0) && true)))) (by kernel_rfl) (by kernel_rfl) (by kernel_rfl))) <| q_b [.v (.bool (decide ((xa.j.1 : Int) = aq.1) && (decide ((xa.j.2.1 : Int) = aq.2) && (decide ((xa.j.2.2.1 : Int) = tt) && (decide ((xa.j.2.2.2 : Int) = 0) && true))))), .v (.bool (decide ((xa.j.1 : Int) = aq.1) && (decide ((xa.j.2.1 : Int) = aq.2) && (decide ((xa.j.2.2.1 : Int) = tt) && (decide ((xa.j.2.2.2 : Int) = 0) && true)))))] ?_
            refine q_nil ?_
            clear H
            intro v20 H
            refine z_fr 207 [(6, .bool (decide ((xa.j.1 : Int) = aq.1) && (decide ((xa.j.2.1 : Int) = aq.2) && (decide ((xa.j.2.2.1 : Int) = tt) && (decide ((xa.j.2.2.2 : Int) = 0) && true)))))] [] fun uf6 => x_then <| x_retc <| x_ret (.bool (decide ((xa.j.1 : Int) = aq.1) && (decide ((xa.j.2.1 : Int) = aq.2) && (decide ((xa.j.2.2.1 : Int) = tt) && (decide ((xa.j.2.2.2 : Int) = 0) && true))))) (by kernel_rfl) (by kernel_rfl) ?_
            have eb : ((decide ((xa.j.1 : Int) = aq.1) && (decide ((xa.j.2.1 : Int) = aq.2) && (decide ((xa.j.2.2.1 : Int) = tt) && (decide ((xa.j.2.2.2 : Int) = 0) && true))))) = true := by
              rw [ea1]
              simp [hj0] <;> omega
            exact ⟨by rw [eb], H.below⟩
          refine x_t (by kernel_rfl) <| x_seq <| x_region <| x_b H [.m] <| x_lenR H 0 eva 75 81 3 (List.length E1) (List.flatMap int3L E1) rfl (by kernel_rfl) (by kernel_rfl) rfl (by kernel_rfl) <| x_b H [.v (.bool (decide ((((List.length E1) : Nat) : Int) = 0))), .v (.bool (decide ((((List.length E1) : Nat) : Int) = 0)))] ?_
          cases h26 : decide ((((List.length E1) : Nat) : Int) = 0)
          · skip
            have h26p := of_decide_eq_false h26
            exact absurd h26p (by rw [eE1, (Rp.ask_void (r := r) (s := s) (z := z) (sn := sn) (ns := ns) (x := x2) (a := aq) (by exact (hB3 (by omega)).trans h20)).2]; simp)
          have h26p := of_decide_eq_true h26
          refine x_b H [.m] <| z_callB H (Job_of (x := xa) _ (H.ro1 [1])) fun v21 H => x_b H [.m] <| x_val (.bool (decide ((xa.j.1 : Int) = 0) && (decide ((xa.j.2.1 : Int) = 0) && (decide ((xa.j.2.2.1 : Int) = 0) && (decide ((xa.j.2.2.2 : Int) = 0) && true))))) (by kernel_rfl) rfl (run_eqS (t := 77) (x := .tmp 157) (y := .tmp 158) (xs := #[.int .i64 xa.j.1, .int .i64 xa.j.2.1, .int .i64 xa.j.2.2.1, .int .i64 xa.j.2.2.2]) (ys := #[.int .i64 0, .int .i64 0, .int .i64 0, .int .i64 0]) (B := decide ((xa.j.1 : Int) = 0) && (decide ((xa.j.2.1 : Int) = 0) && (decide ((xa.j.2.2.1 : Int) = 0) && (decide ((xa.j.2.2.2 : Int) = 0) && true)))) (by kernel_rfl) (by kernel_rfl) (by kernel_rfl)) <| x_b H [.v (.bool (decide ((xa.j.1 : Int) = 0) && (decide ((xa.j.2.1 : Int) = 0) && (decide ((xa.j.2.2.1 : Int) = 0) && (decide ((xa.j.2.2.2 : Int) = 0) && true))))), .v (.bool (decide ((xa.j.1 : Int) = 0) && (decide ((xa.j.2.1 : Int) = 0) && (decide ((xa.j.2.2.1 : Int) = 0) && (decide ((xa.j.2.2.2 : Int) = 0) && true)))))] ?_
          refine x_nil <| x_then <| x_retc <| x_then_ret <| x_ret (.bool (decide ((xa.j.1 : Int) = 0) && (decide ((xa.j.2.1 : Int) = 0) && (decide ((xa.j.2.2.1 : Int) = 0) && (decide ((xa.j.2.2.2 : Int) = 0) && true))))) (by kernel_rfl) (by kernel_rfl) ?_
          have hak := Rp.ask_void (r := r) (s := s) (z := z) (sn := sn) (ns := ns) (x := x2) (a := aq) (by exact (hB3 (by omega)).trans h20)
          have ea1 := exa.trans hak.1
          have ea2 := eE1.trans hak.2
          have eb : ((decide ((xa.j.1 : Int) = 0) && (decide ((xa.j.2.1 : Int) = 0) && (decide ((xa.j.2.2.1 : Int) = 0) && (decide ((xa.j.2.2.2 : Int) = 0) && true))))) = true := by
            rw [ea1]
            simp [hj0] <;> omega
          exact ⟨by rw [eb], H.below⟩
        · skip
          refine x_seq <| x_seq <| x_region <| x_b H [.m, .l 8 0, .v (.bool (decide (aq.1 = 2)))] <| x_nil <| x_then ?_
          cases h27 : decide (aq.1 = 2)
          · skip
            have h27p := of_decide_eq_false h27
            refine x_f (by kernel_rfl) <| x_skipc <| x_then ?_
            replace H := H.pk [0, 1, 2, 3, 4, 5, 6, 7, 8, 9]
            exact hSp2 _ _ ⟨tp, fp, 3, 0, dp, _, frm_of, H, (fun h => ⟨rfl, rfl, hA0, hA1⟩), (fun h => absurd h h27p), (fun h => h.elim hA2 (fun h => absurd h h27p))⟩
          have h27p := of_decide_eq_true h27
          refine x_t (by kernel_rfl) <| x_seq <| x_region <| x_b H [.m] <| z_callB H (Map_of (x := x2) _ (H.ro1 [0])) fun v22 H => ?_
          cases h28 : decide (((x2.ru : Nat) : Int) = s)
          · skip
            have h28p := of_decide_eq_false h28
            refine z_callB H (FreeSpare_yes hL hx2.v.m h28p _ (H.ro1 [1, 2, 3, 4])) fun v23 H => x_b H [.m, .m, .m, .m, .m] <| x_nil <| x_then <| x_seq <| x_region <| x_b H [.m, .m] ?_
            refine x_nil <| x_then <| x_seq <| z_region_whole H <| q_b [.m] <| q_callR (.pointer (some ⟨p, 0, none⟩)) (by kernel_rfl) (fun _ => by kernel_rfl) (fun _ H => (Map_of (x := x2) _ (H.ro1 [0]))) <| q_b [.m, .l 8 1] ?_
            cases h29 : decide (0 ≤ aq.2 ∧ aq.2 < (ns : Int))
            · skip
              have h29p := of_decide_eq_false h29
              refine q_callR (.tuple #[.int .i64 0, .bool false]) (by kernel_rfl) (fun _ => by kernel_rfl) (fun _ H => (by have h := Spare_any hL hx2.v aq.2 _ (H.ro1 [1, 2, 3, 4]); unfold spV spK at h; rw [h29, Bool.false_and] at h; exact h)) <| q_b [.m, .m, .m, .m] <| q_nil ?_
              clear H
              intro v24 H
              refine x_then <| x_region <| x_b H [.m, .m, .m, .l 8 1, .v (.bool (decide (aq.2 < 0))), .v (.bool (decide (aq.2 < 0))), .v (.bool (decide (aq.2 < 0)))] ?_
              cases h30 : decide (aq.2 < 0)
              · skip
                have h30p := of_decide_eq_false h30
                refine x_b H [.m, .l 8 1, .m, .m, .l 9 0, .v (.bool (decide (r ≤ aq.2))), .v (.bool (decide (r ≤ aq.2))), .v (.bool (decide (r ≤ aq.2)))] <| x_nil <| x_then ?_
                replace H := H.pk [0, 1, 2, 3, 4, 5, 6, 7, 8, 9]
                exact hSp2 _ _ ⟨r + ((x2.ru : Nat) : Int), true, 4, 1, (decide (r ≤ aq.2)), _, frm_of, H, (fun h => by omega), (fun h => ⟨rfl, rfl, by rw [h28]; rfl, fun h2 => by omega⟩), (fun _ => by have h2 := h27p; by_cases hh : (r ≤ aq.2); rw [decide_eq_true hh]; (first | exact vb2o h2 (by omega) | exact vb2s h2 (by omega) | exact vb2x h2 (by omega) (by omega) (by omega)); rw [decide_eq_false hh]; (first | exact vb2o h2 (by omega) | exact vb2s h2 (by omega) | exact vb2x h2 (by omega) (by omega) (by omega)))⟩
              have h30p := of_decide_eq_true h30
              refine x_b H [.k, .k, .k, .k, .k, .k, .m, .m] <| x_nil <| x_then ?_
              replace H := H.pk [0, 1, 2, 3, 4, 5, 6, 7, 8, 9]
              exact hSp2 _ _ ⟨r + ((x2.ru : Nat) : Int), true, 4, 1, true, _, frm_of, H, (fun h => by omega), (fun h => ⟨rfl, rfl, by rw [h28]; rfl, fun h2 => by omega⟩), (fun _ => by have h2 := h27p; first | exact vb2o h2 (by omega) | exact vb2s h2 (by omega) | exact vb2x h2 (by omega) (by omega) (by omega))⟩
            have h29p := of_decide_eq_true h29
            cases h31 : decide (x2.S.getD aq.2.toNat 0 = -1)
            · skip
              have h31p := of_decide_eq_false h31
              refine q_callR (.tuple #[.int .i64 (x2.S.getD aq.2.toNat 0), .bool true]) (by kernel_rfl) (fun _ => by kernel_rfl) (fun _ H => (by have h := Spare_any hL hx2.v aq.2 _ (H.ro1 [1, 2, 3, 4]); unfold spV spK at h; rw [h29, h31] at h; exact h)) <| q_b [.m, .m, .m, .m] <| q_nil ?_
              clear H
              intro v25 H
              refine x_then <| x_region <| x_b H [.m, .m, .k, .k, .k, .m, .m, .k, .k, .k, .k, .k, .k, .m, .m] <| x_nil <| x_then ?_
              replace H := H.pk [0, 1, 2, 3, 4, 5, 6, 7, 8, 9]
              exact hSp2 _ _ ⟨r + ((x2.ru : Nat) : Int), true, 4, 1, true, _, frm_of, H, (fun h => by omega), (fun h => ⟨rfl, rfl, by rw [h28]; rfl, fun h2 => by omega⟩), (fun _ => by have h2 := h27p; first | exact vb2o h2 (by omega) | exact vb2s h2 (by omega) | exact vb2x h2 (by omega) (by omega) (by omega))⟩
            have h31p := of_decide_eq_true h31
            refine q_callR (.tuple #[.int .i64 0, .bool false]) (by kernel_rfl) (fun _ => by kernel_rfl) (fun _ H => (by have h := Spare_any hL hx2.v aq.2 _ (H.ro1 [1, 2, 3, 4]); unfold spV spK at h; rw [h29, h31] at h; exact h)) <| q_b [.m, .m, .m, .m] <| q_nil ?_
            clear H
            intro v26 H
            refine x_then <| x_region <| x_b H [.m, .m, .m, .l 8 1, .v (.bool (decide (aq.2 < 0))), .v (.bool (decide (aq.2 < 0))), .v (.bool (decide (aq.2 < 0)))] ?_
            cases h32 : decide (aq.2 < 0)
            · skip
              have h32p := of_decide_eq_false h32
              refine x_b H [.m, .l 8 1, .m, .m, .l 9 0, .v (.bool (decide (r ≤ aq.2))), .v (.bool (decide (r ≤ aq.2))), .v (.bool (decide (r ≤ aq.2)))] <| x_nil <| x_then ?_
              replace H := H.pk [0, 1, 2, 3, 4, 5, 6, 7, 8, 9]
              exact hSp2 _ _ ⟨r + ((x2.ru : Nat) : Int), true, 4, 1, (decide (r ≤ aq.2)), _, frm_of, H, (fun h => by omega), (fun h => ⟨rfl, rfl, by rw [h28]; rfl, fun h2 => by omega⟩), (fun _ => by have h2 := h27p; by_cases hh : (r ≤ aq.2); rw [decide_eq_true hh]; (first | exact vb2o h2 (by omega) | exact vb2s h2 (by omega) | exact vb2x h2 (by omega) (by omega) (by omega)); rw [decide_eq_false hh]; (first | exact vb2o h2 (by omega) | exact vb2s h2 (by omega) | exact vb2x h2 (by omega) (by omega) (by omega)))⟩
            have h32p := of_decide_eq_true h32
            exfalso; have := h29p; omega
          have h28p := of_decide_eq_true h28
          refine z_callB H (FreeSpare_no hL hx2.v.m h28p _ (H.ro1 [1, 2, 3, 4])) fun v27 H => x_b H [.m, .m, .m, .m, .m] <| x_nil <| x_then <| x_seq <| x_region <| x_b H [.m, .m] ?_
          refine x_nil <| x_then <| x_seq <| z_region_whole H <| q_b [.m] <| q_callR (.pointer (some ⟨p, 0, none⟩)) (by kernel_rfl) (fun _ => by kernel_rfl) (fun _ H => (Map_of (x := x2) _ (H.ro1 [0]))) <| q_b [.m, .l 8 1] ?_
          cases h33 : decide (0 ≤ aq.2 ∧ aq.2 < (ns : Int))
          · skip
            have h33p := of_decide_eq_false h33
            refine q_callR (.tuple #[.int .i64 0, .bool false]) (by kernel_rfl) (fun _ => by kernel_rfl) (fun _ H => (by have h := Spare_any hL hx2.v aq.2 _ (H.ro1 [1, 2, 3, 4]); unfold spV spK at h; rw [h33, Bool.false_and] at h; exact h)) <| q_b [.m, .m, .m, .m] <| q_nil ?_
            clear H
            intro v28 H
            refine x_then <| x_region <| x_b H [.m, .m, .m, .l 8 1, .v (.bool (decide (aq.2 < 0))), .v (.bool (decide (aq.2 < 0))), .v (.bool (decide (aq.2 < 0)))] ?_
            cases h34 : decide (aq.2 < 0)
            · skip
              have h34p := of_decide_eq_false h34
              refine x_b H [.m, .l 8 1, .m, .m, .l 9 0, .v (.bool (decide (r ≤ aq.2))), .v (.bool (decide (r ≤ aq.2))), .v (.bool (decide (r ≤ aq.2)))] <| x_nil <| x_then ?_
              replace H := H.pk [0, 1, 2, 3, 4, 5, 6, 7, 8, 9]
              exact hSp2 _ _ ⟨0, false, 4, 1, (decide (r ≤ aq.2)), _, frm_of, H, (fun h => by omega), (fun h => ⟨rfl, rfl, by rw [h28]; rfl, fun h2 => absurd h28p h2⟩), (fun _ => by have h2 := h27p; by_cases hh : (r ≤ aq.2); rw [decide_eq_true hh]; (first | exact vb2o h2 (by omega) | exact vb2s h2 (by omega) | exact vb2x h2 (by omega) (by omega) (by omega)); rw [decide_eq_false hh]; (first | exact vb2o h2 (by omega) | exact vb2s h2 (by omega) | exact vb2x h2 (by omega) (by omega) (by omega)))⟩
            have h34p := of_decide_eq_true h34
            refine x_b H [.k, .k, .k, .k, .k, .k, .m, .m] <| x_nil <| x_then ?_
            replace H := H.pk [0, 1, 2, 3, 4, 5, 6, 7, 8, 9]
            exact hSp2 _ _ ⟨0, false, 4, 1, true, _, frm_of, H, (fun h => by omega), (fun h => ⟨rfl, rfl, by rw [h28]; rfl, fun h2 => absurd h28p h2⟩), (fun _ => by have h2 := h27p; first | exact vb2o h2 (by omega) | exact vb2s h2 (by omega) | exact vb2x h2 (by omega) (by omega) (by omega))⟩
          have h33p := of_decide_eq_true h33
          cases h35 : decide (x2.S.getD aq.2.toNat 0 = -1)
          · skip
            have h35p := of_decide_eq_false h35
            refine q_callR (.tuple #[.int .i64 (x2.S.getD aq.2.toNat 0), .bool true]) (by kernel_rfl) (fun _ => by kernel_rfl) (fun _ H => (by have h := Spare_any hL hx2.v aq.2 _ (H.ro1 [1, 2, 3, 4]); unfold spV spK at h; rw [h33, h35] at h; exact h)) <| q_b [.m, .m, .m, .m] <| q_nil ?_
            clear H
            intro v29 H
            refine x_then <| x_region <| x_b H [.m, .m, .k, .k, .k, .m, .m, .k, .k, .k, .k, .k, .k, .m, .m] <| x_nil <| x_then ?_
            replace H := H.pk [0, 1, 2, 3, 4, 5, 6, 7, 8, 9]
            exact hSp2 _ _ ⟨0, false, 4, 1, true, _, frm_of, H, (fun h => by omega), (fun h => ⟨rfl, rfl, by rw [h28]; rfl, fun h2 => absurd h28p h2⟩), (fun _ => by have h2 := h27p; first | exact vb2o h2 (by omega) | exact vb2s h2 (by omega) | exact vb2x h2 (by omega) (by omega) (by omega))⟩
          have h35p := of_decide_eq_true h35
          refine q_callR (.tuple #[.int .i64 0, .bool false]) (by kernel_rfl) (fun _ => by kernel_rfl) (fun _ H => (by have h := Spare_any hL hx2.v aq.2 _ (H.ro1 [1, 2, 3, 4]); unfold spV spK at h; rw [h33, h35] at h; exact h)) <| q_b [.m, .m, .m, .m] <| q_nil ?_
          clear H
          intro v30 H
          refine x_then <| x_region <| x_b H [.m, .m, .m, .l 8 1, .v (.bool (decide (aq.2 < 0))), .v (.bool (decide (aq.2 < 0))), .v (.bool (decide (aq.2 < 0)))] ?_
          cases h36 : decide (aq.2 < 0)
          · skip
            have h36p := of_decide_eq_false h36
            refine x_b H [.m, .l 8 1, .m, .m, .l 9 0, .v (.bool (decide (r ≤ aq.2))), .v (.bool (decide (r ≤ aq.2))), .v (.bool (decide (r ≤ aq.2)))] <| x_nil <| x_then ?_
            replace H := H.pk [0, 1, 2, 3, 4, 5, 6, 7, 8, 9]
            exact hSp2 _ _ ⟨0, false, 4, 1, (decide (r ≤ aq.2)), _, frm_of, H, (fun h => by omega), (fun h => ⟨rfl, rfl, by rw [h28]; rfl, fun h2 => absurd h28p h2⟩), (fun _ => by have h2 := h27p; by_cases hh : (r ≤ aq.2); rw [decide_eq_true hh]; (first | exact vb2o h2 (by omega) | exact vb2s h2 (by omega) | exact vb2x h2 (by omega) (by omega) (by omega)); rw [decide_eq_false hh]; (first | exact vb2o h2 (by omega) | exact vb2s h2 (by omega) | exact vb2x h2 (by omega) (by omega) (by omega)))⟩
          have h36p := of_decide_eq_true h36
          exfalso; have := h33p; omega
      · skip
        refine x_seq <| x_region <| x_b H [.m] <| z_callB H (Map_of (x := x2) _ (H.ro1 [0])) fun v31 H => ?_
        cases h37 : decide (((x2.pu : Nat) : Int) = z)
        · skip
          have h37p := of_decide_eq_false h37
          refine z_callB H (FreePage_yes hL hx2.v.m h37p _ (H.ro1 [1, 2, 3, 4])) fun v32 H => x_b H [.m, .m, .m, .m, .m] <| x_nil <| x_then <| x_seq <| x_region <| x_b H [.m, .m] ?_
          refine x_nil <| x_then <| x_seq <| z_region_whole H <| q_b [.m, .l 8 1, .v (.bool (decide (aq.2 < 0))), .v (.bool (decide (aq.2 < 0)))] ?_
          cases h38 : decide (aq.2 < 0)
          · skip
            have h38p := of_decide_eq_false h38
            refine q_b [.m, .l 8 1, .m, .n 9 0 5 23] <| q_callB (.int .i64 (pg : Int)) (by kernel_rfl) (fun _ => by kernel_rfl) (fun _ => (pages_of hL _)) <| q_b [.v (.bool (decide ((pg : Int) ≤ aq.2))), .v (.bool (decide ((pg : Int) ≤ aq.2))), .v (.bool (decide ((pg : Int) ≤ aq.2)))] ?_
            cases h39 : decide ((pg : Int) ≤ aq.2)
            · skip
              have h39p := of_decide_eq_false h39
              refine q_b [.m] <| q_callR (.pointer (some ⟨p, 0, none⟩)) (by kernel_rfl) (fun _ => by kernel_rfl) (fun _ H => (Map_of (x := x2) _ (H.ro1 [0]))) <| q_b [.m, .l 8 1] ?_
              cases h40 : x2.D.getD aq.2.toNat false
              · skip
                refine q_callR (.bool false) (by kernel_rfl) (fun _ => by kernel_rfl) (fun _ H => (by have h := Dead_any hL hx2.v aq.2 _ (H.ro1 [1, 2, 3, 4]); unfold ddV at h; rw [decide_eq_true (show 0 ≤ aq.2 ∧ aq.2 < (pg : Int) by omega), Bool.true_and, h40] at h; exact h)) <| q_b [.m, .m, .m, .m, .m, .l 8 1, .m, .v (.bool (decide (((sn : Int) + ((x2.pu : Nat) : Int)) ≤ aq.2))), .v (.bool (decide (((sn : Int) + ((x2.pu : Nat) : Int)) ≤ aq.2))), .v (.bool (decide (((sn : Int) + ((x2.pu : Nat) : Int)) ≤ aq.2))), .v (.bool (decide (((sn : Int) + ((x2.pu : Nat) : Int)) ≤ aq.2)))] <| q_nil ?_
                clear H
                intro v33 H
                refine z_fr 207 [(3, .pointer (some ⟨g1, 0, none⟩)), (5, .pointer (some ⟨g2, 0, none⟩)), (7, .pointer (some ⟨rp, 0, none⟩)), (13, .int .i64 ((sn : Int) + ((x2.pu : Nat) : Int))), (14, .bool true), (15, .int .i64 3), (16, .int .i64 0), (17, .bool (decide (((sn : Int) + ((x2.pu : Nat) : Int)) ≤ aq.2)))] [] fun uf7 => x_then ?_
                replace H := H.pk [0, 1, 2, 3, 4, 5, 6, 7, 8, 9]
                exact hSp1 _ _ ⟨(sn : Int) + ((x2.pu : Nat) : Int), (decide (((sn : Int) + ((x2.pu : Nat) : Int)) ≤ aq.2)), true, _, frm_of, H, (by rw [h37]; rfl), (fun h => by omega), (fun h1 => by by_cases hh : (((sn : Int) + ((x2.pu : Nat) : Int)) ≤ aq.2); rw [decide_eq_true hh]; (first | exact vb1o h1 (by omega) | exact vb1d h1 (by assumption) | exact vb1x h1 (by omega) (by assumption) (by omega)); rw [decide_eq_false hh]; (first | exact vb1o h1 (by omega) | exact vb1d h1 (by assumption) | exact vb1x h1 (by omega) (by assumption) (by omega)))⟩
              refine q_callR (.bool true) (by kernel_rfl) (fun _ => by kernel_rfl) (fun _ H => (by have h := Dead_any hL hx2.v aq.2 _ (H.ro1 [1, 2, 3, 4]); unfold ddV at h; rw [decide_eq_true (show 0 ≤ aq.2 ∧ aq.2 < (pg : Int) by omega), Bool.true_and, h40] at h; exact h)) <| q_b [.m, .m, .k, .k, .k, .k, .k, .k, .k, .m, .m] <| q_nil ?_
              clear H
              intro v34 H
              refine z_fr 207 [(3, .pointer (some ⟨g1, 0, none⟩)), (5, .pointer (some ⟨g2, 0, none⟩)), (7, .pointer (some ⟨rp, 0, none⟩)), (13, .int .i64 ((sn : Int) + ((x2.pu : Nat) : Int))), (14, .bool true), (15, .int .i64 3), (16, .int .i64 0), (17, .bool true)] [] fun uf8 => x_then ?_
              replace H := H.pk [0, 1, 2, 3, 4, 5, 6, 7, 8, 9]
              exact hSp1 _ _ ⟨(sn : Int) + ((x2.pu : Nat) : Int), true, true, _, frm_of, H, (by rw [h37]; rfl), (fun h => by omega), (fun h1 => by first | exact vb1o h1 (by omega) | exact vb1d h1 (by assumption) | exact vb1x h1 (by omega) (by assumption) (by omega))⟩
            have h39p := of_decide_eq_true h39
            refine q_b [.k, .k, .k, .k, .k, .m, .m, .k, .k, .k, .k, .k, .k, .k, .m, .m] <| q_nil ?_
            clear H
            intro v35 H
            refine z_fr 207 [(3, .pointer (some ⟨g1, 0, none⟩)), (5, .pointer (some ⟨g2, 0, none⟩)), (7, .pointer (some ⟨rp, 0, none⟩)), (13, .int .i64 ((sn : Int) + ((x2.pu : Nat) : Int))), (14, .bool true), (15, .int .i64 3), (16, .int .i64 0), (17, .bool true)] [] fun uf9 => x_then ?_
            replace H := H.pk [0, 1, 2, 3, 4, 5, 6, 7, 8, 9]
            exact hSp1 _ _ ⟨(sn : Int) + ((x2.pu : Nat) : Int), true, true, _, frm_of, H, (by rw [h37]; rfl), (fun h => by omega), (fun h1 => by first | exact vb1o h1 (by omega) | exact vb1d h1 (by assumption) | exact vb1x h1 (by omega) (by assumption) (by omega))⟩
          have h38p := of_decide_eq_true h38
          refine q_b [.k, .k, .k, .k, .k, .k, .m, .m, .k, .k, .k, .k, .k, .m, .m, .k, .k, .k, .k, .k, .k, .k, .m, .m] <| q_nil ?_
          clear H
          intro v36 H
          refine z_fr 207 [(3, .pointer (some ⟨g1, 0, none⟩)), (5, .pointer (some ⟨g2, 0, none⟩)), (7, .pointer (some ⟨rp, 0, none⟩)), (13, .int .i64 ((sn : Int) + ((x2.pu : Nat) : Int))), (14, .bool true), (15, .int .i64 3), (16, .int .i64 0), (17, .bool true)] [] fun uf10 => x_then ?_
          replace H := H.pk [0, 1, 2, 3, 4, 5, 6, 7, 8, 9]
          exact hSp1 _ _ ⟨(sn : Int) + ((x2.pu : Nat) : Int), true, true, _, frm_of, H, (by rw [h37]; rfl), (fun h => by omega), (fun h1 => by first | exact vb1o h1 (by omega) | exact vb1d h1 (by assumption) | exact vb1x h1 (by omega) (by assumption) (by omega))⟩
        have h37p := of_decide_eq_true h37
        refine z_callB H (FreePage_no hL hx2.v.m h37p _ (H.ro1 [1, 2, 3, 4])) fun v37 H => x_b H [.m, .m, .m, .m, .m] <| x_nil <| x_then <| x_seq <| x_region <| x_b H [.m, .m] ?_
        refine x_nil <| x_then <| x_seq <| z_region_whole H <| q_b [.m, .l 8 1, .v (.bool (decide (aq.2 < 0))), .v (.bool (decide (aq.2 < 0)))] ?_
        cases h41 : decide (aq.2 < 0)
        · skip
          have h41p := of_decide_eq_false h41
          refine q_b [.m, .l 8 1, .m, .n 9 0 5 23] <| q_callB (.int .i64 (pg : Int)) (by kernel_rfl) (fun _ => by kernel_rfl) (fun _ => (pages_of hL _)) <| q_b [.v (.bool (decide ((pg : Int) ≤ aq.2))), .v (.bool (decide ((pg : Int) ≤ aq.2))), .v (.bool (decide ((pg : Int) ≤ aq.2)))] ?_
          cases h42 : decide ((pg : Int) ≤ aq.2)
          · skip
            have h42p := of_decide_eq_false h42
            refine q_b [.m] <| q_callR (.pointer (some ⟨p, 0, none⟩)) (by kernel_rfl) (fun _ => by kernel_rfl) (fun _ H => (Map_of (x := x2) _ (H.ro1 [0]))) <| q_b [.m, .l 8 1] ?_
            cases h43 : x2.D.getD aq.2.toNat false
            · skip
              refine q_callR (.bool false) (by kernel_rfl) (fun _ => by kernel_rfl) (fun _ H => (by have h := Dead_any hL hx2.v aq.2 _ (H.ro1 [1, 2, 3, 4]); unfold ddV at h; rw [decide_eq_true (show 0 ≤ aq.2 ∧ aq.2 < (pg : Int) by omega), Bool.true_and, h43] at h; exact h)) <| q_b [.m, .m, .m, .m, .k, .k, .k, .k, .m, .m, .m] <| q_nil ?_
              clear H
              intro v38 H
              refine z_fr 207 [(3, .pointer (some ⟨g1, 0, none⟩)), (5, .pointer (some ⟨g2, 0, none⟩)), (7, .pointer (some ⟨rp, 0, none⟩)), (13, .int .i64 0), (14, .bool false), (15, .int .i64 3), (16, .int .i64 0), (17, .bool false)] [] fun uf11 => x_then ?_
              replace H := H.pk [0, 1, 2, 3, 4, 5, 6, 7, 8, 9]
              exact hSp1 _ _ ⟨0, false, false, _, frm_of, H, (by rw [h37]; rfl), (fun h => absurd h37p h), (fun h1 => by first | exact vb1o h1 (by omega) | exact vb1d h1 (by assumption) | exact vb1x h1 (by omega) (by assumption) (by omega))⟩
            refine q_callR (.bool true) (by kernel_rfl) (fun _ => by kernel_rfl) (fun _ H => (by have h := Dead_any hL hx2.v aq.2 _ (H.ro1 [1, 2, 3, 4]); unfold ddV at h; rw [decide_eq_true (show 0 ≤ aq.2 ∧ aq.2 < (pg : Int) by omega), Bool.true_and, h43] at h; exact h)) <| q_b [.m, .m, .k, .k, .k, .k, .k, .k, .k, .m, .m] <| q_nil ?_
            clear H
            intro v39 H
            refine z_fr 207 [(3, .pointer (some ⟨g1, 0, none⟩)), (5, .pointer (some ⟨g2, 0, none⟩)), (7, .pointer (some ⟨rp, 0, none⟩)), (13, .int .i64 0), (14, .bool false), (15, .int .i64 3), (16, .int .i64 0), (17, .bool true)] [] fun uf12 => x_then ?_
            replace H := H.pk [0, 1, 2, 3, 4, 5, 6, 7, 8, 9]
            exact hSp1 _ _ ⟨0, true, false, _, frm_of, H, (by rw [h37]; rfl), (fun h => absurd h37p h), (fun h1 => by first | exact vb1o h1 (by omega) | exact vb1d h1 (by assumption) | exact vb1x h1 (by omega) (by assumption) (by omega))⟩
          have h42p := of_decide_eq_true h42
          refine q_b [.k, .k, .k, .k, .k, .m, .m, .k, .k, .k, .k, .k, .k, .k, .m, .m] <| q_nil ?_
          clear H
          intro v40 H
          refine z_fr 207 [(3, .pointer (some ⟨g1, 0, none⟩)), (5, .pointer (some ⟨g2, 0, none⟩)), (7, .pointer (some ⟨rp, 0, none⟩)), (13, .int .i64 0), (14, .bool false), (15, .int .i64 3), (16, .int .i64 0), (17, .bool true)] [] fun uf13 => x_then ?_
          replace H := H.pk [0, 1, 2, 3, 4, 5, 6, 7, 8, 9]
          exact hSp1 _ _ ⟨0, true, false, _, frm_of, H, (by rw [h37]; rfl), (fun h => absurd h37p h), (fun h1 => by first | exact vb1o h1 (by omega) | exact vb1d h1 (by assumption) | exact vb1x h1 (by omega) (by assumption) (by omega))⟩
        have h41p := of_decide_eq_true h41
        refine q_b [.k, .k, .k, .k, .k, .k, .m, .m, .k, .k, .k, .k, .k, .m, .m, .k, .k, .k, .k, .k, .k, .k, .m, .m] <| q_nil ?_
        clear H
        intro v41 H
        refine z_fr 207 [(3, .pointer (some ⟨g1, 0, none⟩)), (5, .pointer (some ⟨g2, 0, none⟩)), (7, .pointer (some ⟨rp, 0, none⟩)), (13, .int .i64 0), (14, .bool false), (15, .int .i64 3), (16, .int .i64 0), (17, .bool true)] [] fun uf14 => x_then ?_
        replace H := H.pk [0, 1, 2, 3, 4, 5, 6, 7, 8, 9]
        exact hSp1 _ _ ⟨0, true, false, _, frm_of, H, (by rw [h37]; rfl), (fun h => absurd h37p h), (fun h1 => by first | exact vb1o h1 (by omega) | exact vb1d h1 (by assumption) | exact vb1x h1 (by omega) (by assumption) (by omega))⟩
    have h6p := of_decide_eq_true h6
    refine x_t (by kernel_rfl) <| x_skipc <| x_then <| x_seq <| x_block <| x_seq <| x_region ?_
    obtain ⟨ga, oa, had, hcell⟩ := hA (by omega)
    refine x_ixO (t := 62) had k nA cA 74 3 (oa + k * 3) (by omega) (by omega) (by kernel_rfl) (by kernel_rfl) (by kernel_rfl) rfl (by kernel_rfl) <| x_loadcn (t := 74) ga (oa + k * 3) [.int .i64 ((l.getD k (0, 0, 0)).1), .int .i64 ((l.getD k (0, 0, 0)).2.1), .int .i64 ((l.getD k (0, 0, 0)).2.2)] (hcell _ H.below k (by omega)) (by kernel_rfl) rfl (by kernel_rfl) (by kernel_rfl) <| z_box H #[.int .i64 0, .int .i64 0, .int .i64 0] 74 (fun v42 g4 H => ?_)
    refine z_store H 0 0 [.int .i64 ((l.getD k (0, 0, 0)).1), .int .i64 ((l.getD k (0, 0, 0)).2.1), .int .i64 ((l.getD k (0, 0, 0)).2.2)] (fun v43 H => ?_)
    refine x_nil <| x_then <| x_seq <| x_region <| x_b H [.m, .n 12 0 17 68, .n 0 0 3 74] ?_
    have hx1 := hx.mv hL (l.getD k (0, 0, 0))
    refine z_call (H.useEP [1, 2, 3, 4, 5, 6, 7, 8, 9, 10, 11] (fun h => lstep hL hx hk hg (by omega) (by omega) (l.getD k (0, 0, 0)) _ h)) ?_
    rintro _ v44 ⟨⟨gn1, lsn1, ran1, qnn1⟩, rfl, H', hk1, hg1, ep1, er1⟩
    refine ⟨_, rfl, ?_⟩
    clear H
    have H := hsCast H' (L2 := [.blk rp #[.pointer (some ⟨p, 0, none⟩), .int .i64 (((Rp.mv r s z sn pg ns b o c x (l.getD k (0, 0, 0))).j).1), .int .i64 (((Rp.mv r s z sn pg ns b o c x (l.getD k (0, 0, 0))).j).2.1), .int .i64 (((Rp.mv r s z sn pg ns b o c x (l.getD k (0, 0, 0))).j).2.2.1), .int .i64 (((Rp.mv r s z sn pg ns b o c x (l.getD k (0, 0, 0))).j).2.2.2), .pointer (some ⟨q, 0, none⟩)] 133, .blk p #[.int .i64 r, .int .i64 s, .int .i64 b, .int .i64 o, .int .i64 c, .int .i64 y, .int .i64 z, .slice (some ⟨gl, 0, none⟩) sn cl, .slice (some ⟨gd, 0, none⟩) pg cd, .slice (some ⟨gs, 0, none⟩) ns cs, .int .i64 (((Rp.mv r s z sn pg ns b o c x (l.getD k (0, 0, 0))).pu : Nat) : Int), .int .i64 (((Rp.mv r s z sn pg ns b o c x (l.getD k (0, 0, 0))).ru : Nat) : Int)] 118, .row (.slice (some ⟨gl, 0, none⟩) sn cl) 3 1 sn (List.map (Value.int .i64) ((Rp.mv r s z sn pg ns b o c x (l.getD k (0, 0, 0))).L)), .row (.slice (some ⟨gd, 0, none⟩) pg cd) 4 1 pg (List.map Value.bool ((Rp.mv r s z sn pg ns b o c x (l.getD k (0, 0, 0))).D)), .row (.slice (some ⟨gs, 0, none⟩) ns cs) 3 1 ns (List.map (Value.int .i64) ((Rp.mv r s z sn pg ns b o c x (l.getD k (0, 0, 0))).S)), .blk q #[.slice (some ⟨gq, 0, none⟩) 256 cq, .int .i64 (ran1 : Int), .int .i64 (qnn1 : Int)] 170, .row (.slice (some ⟨gq, 0, none⟩) 256 cq) 72 2 256 (List.flatMap entL lsn1), .row (lv) 3 1 pg (List.map (Value.int .i64) (layL y r b o pg)), .row (gn1.pv) 156 2 (List.length gn1.Pg) (List.flatMap entL gn1.Pg), .row (gn1.kv) 156 2 (List.length gn1.Rk) (List.flatMap entL gn1.Rk), .row (gn1.fv) 147 2 (List.length gn1.F) (List.flatMap entL gn1.F), .blk g4 #[.int .i64 ((l.getD k (0, 0, 0)).1), .int .i64 ((l.getD k (0, 0, 0)).2.1), .int .i64 ((l.getD k (0, 0, 0)).2.2)] 74, .blk g3 #[.int .i64 r, .int .i64 s, .int .i64 b, .int .i64 o, .int .i64 c, .int .i64 y, .int .i64 z, lv, g.pv, g.kv, .int .i64 ((x.pu : Nat) : Int), .int .i64 ((x.ru : Nat) : Int), .int .i64 x.j.1, .int .i64 x.j.2.1, .int .i64 x.j.2.2.1, .int .i64 x.j.2.2.2, .slice g.ad g.n g.c] 68, .blk g2 #[.int .i64 aq.1, .int .i64 aq.2] 72, .blk g1 #[.int .i64 r, .int .i64 s, .int .i64 b, .int .i64 o, .int .i64 c, .int .i64 y, .int .i64 z] 25]) (by kernel_rfl)
    clear H'
    replace hk1 : RgOk lsn1 ran1 qnn1 (Rp.mv r s z sn pg ns b o c x (l.getD k (0, 0, 0))).Q := hk1
    replace hg1 : D21.Ok pg sn ns (Rp.mv r s z sn pg ns b o c x (l.getD k (0, 0, 0))) gn1 := hg1
    replace ep1 : gn1.Pg.length ≤ g.Pg.length + 1 := ep1
    replace er1 : gn1.Rk.length ≤ g.Rk.length + 1 := er1
    refine x_b H [.m, .m, .m] ?_
    have h44o := H.rowOne 7 rfl
    have h45o := H.rowOne 8 rfl
    have h46o := H.rowOne 9 rfl
    refine z_store H 12 0 [.int .i64 r, .int .i64 s, .int .i64 b, .int .i64 o, .int .i64 c, .int .i64 y, .int .i64 z, lv, gn1.pv, gn1.kv, .int .i64 (((Rp.mv r s z sn pg ns b o c x (l.getD k (0, 0, 0))).pu : Nat) : Int), .int .i64 (((Rp.mv r s z sn pg ns b o c x (l.getD k (0, 0, 0))).ru : Nat) : Int), .int .i64 (((Rp.mv r s z sn pg ns b o c x (l.getD k (0, 0, 0))).j).1), .int .i64 (((Rp.mv r s z sn pg ns b o c x (l.getD k (0, 0, 0))).j).2.1), .int .i64 (((Rp.mv r s z sn pg ns b o c x (l.getD k (0, 0, 0))).j).2.2.1), .int .i64 (((Rp.mv r s z sn pg ns b o c x (l.getD k (0, 0, 0))).j).2.2.2), .slice gn1.ad gn1.n gn1.c] (fun v45 H => ?_) (h1 := (by simp only [List.all_cons, List.all_nil, h44o, h45o, h46o, Bool.and_true, Bool.true_and] <;> rfl))
    refine x_b H [.m] <| x_nil <| x_then <| x_seq <| x_region <| x_b H [.m, .m] <| x_nil ?_
    refine x_then <| x_f (by kernel_rfl) <| x_skipc <| x_blk <| x_then <| x_region <| z_ar ((k : Int) + 1) ?_
    refine x_b H [.m] <| x_nil <| x_then ?_
    replace H := H.pk [0, 1, 2, 3, 4, 5, 6, 7, 8, 9, 10, 12, 13, 14]
    exact ⟨(k + 1, (Rp.mv r s z sn pg ns b o c x (l.getD k (0, 0, 0))), lsn1, ran1, qnn1, gn1), (by dsimp only; omega), _, frm_of, H, (by omega), hx1, hk1, hg1, (by omega), (by omega)⟩
  have h2p := of_decide_eq_true h2
  refine x_t (by kernel_rfl) <| x_seq <| x_region <| x_b H [.m] <| x_nil <| x_then <| x_retc ?_
  refine x_then_ret <| x_ret (.bool true) (by kernel_rfl) (by kernel_rfl) ?_
  exact ⟨rfl, H.below⟩
end Go.Proofs.Ytpmnnijjohlloaa
