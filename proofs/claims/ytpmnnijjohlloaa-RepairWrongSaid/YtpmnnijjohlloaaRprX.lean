/- The law RepairWrong, walked. -/
import Derived.Test.YtpmnnijjohlloaaRprW
import Derived.Test.YtpmnnijjohlloaaRemapX
import Derived.Test.YtpmnnijjohlloaaRemapY
import Derived.Test.YtpmnnijjohlloaaRemapC
import Derived.Test.YtpmnnijjohlloaaRemapE
import Derived.Test.YtpmnnijjohlloaaRat3
import Derived.Test.YtpmnnijjohlloaaRemapRs
import Derived.Test.YtpmnnijjohlloaaPxS
import Derived.Test.YtpmnnijjohlloaaPxZ
namespace Go.Proofs.Ytpmnnijjohlloaa
open Go Go.RowKit
set_option linter.unusedVariables false
set_option linter.unusedSimpArgs false
set_option maxRecDepth 100000 in
set_option maxHeartbeats 4000000 in
theorem rwr21_no (r s b o c y z : Int) (ad : Option Addr) (nA cA : Nat) (j : Job4) (aq : Ent) (hbd : r ≤ 9223372036854775807 ∧ b ≤ 9223372036854775807 ∧ o ≤ 9223372036854775807 ∧ c ≤ 9223372036854775807) (hok : layoutOk r s b o c y z = false) (w0 : World) :
    Calls Try.prog 13 #[.agg #[.int .i64 r, .int .i64 s, .int .i64 b, .int .i64 o, .int .i64 c, .int .i64 y, .int .i64 z], .slice ad nA cA, .agg #[.int .i64 j.1, .int .i64 j.2.1, .int .i64 j.2.2.1, .int .i64 j.2.2.2], .agg #[.int .i64 aq.1, .int .i64 aq.2]] w0 fun e w' => e = .returned (.bool true) ∧ Below w0.heap.size w0 w' := by
  refine z_enter Try.func13 rfl ?_
  have H := Hs.nil w0
  obtain ⟨hb1, hb2, hb3, hb4⟩ := id hbd
  refine x_seq <| x_region <| z_box H #[.int .i64 r, .int .i64 s, .int .i64 b, .int .i64 o, .int .i64 c, .int .i64 y, .int .i64 z] 25 (fun v1 g1 H => ?_)
  refine z_box H #[.int .i64 j.1, .int .i64 j.2.1, .int .i64 j.2.2.1, .int .i64 j.2.2.2] 77 (fun v2 g2 H => ?_)
  refine z_box H #[.int .i64 aq.1, .int .i64 aq.2] 72 (fun v3 g3 H => ?_)
  refine x_b H [.m] <| x_nil <| x_then <| x_seq <| x_seq <| x_region <| z_callB H (anchor21 _) fun v4 H => ?_
  refine x_b H [.m] <| x_nil <| x_then <| x_f (by kernel_rfl) <| x_skipc <| x_then <| x_seq ?_
  refine x_seq <| x_region <| x_b H [.n 2 0 7 25] <| z_call (small21_any r s b o c y z (by omega) (by omega) (by omega) (by omega) _) ?_
  rintro _ v5 ⟨tS, rfl, hB⟩
  refine ⟨_, rfl, ?_⟩
  replace H := H.via hB
  clear hB
  refine x_b H [.v (.bool (!tS)), .v (.bool (!tS))] ?_
  cases h1 : tS
  · skip
    refine x_b H [.k, .k, .k, .m] <| x_nil <| x_then <| x_t (by kernel_rfl) <| x_seq <| x_region <| x_b H [.m] ?_
    refine x_nil <| x_then <| x_retc <| x_then_ret <| x_ret (.bool true) (by kernel_rfl) (by kernel_rfl) ?_
    exact ⟨rfl, H.below⟩
  refine x_b H [.m, .m, .v (.bool (decide (40 < (nA : Int)))), .v (.bool (decide (40 < (nA : Int))))] <| x_nil <| x_then ?_
  cases h2 : decide (40 < (nA : Int))
  · skip
    have h2p := of_decide_eq_false h2
    refine x_f (by kernel_rfl) <| x_skipc <| x_then <| x_seq <| x_region <| x_b H [.n 2 0 7 25] <| z_callB H (started_no r s b o c y z hbd hok _) fun v6 H => ?_
    refine x_b H [.m, .m, .m, .m] <| z_box H #[.int .i64 0, .int .i64 0, .int .i64 0, .int .i64 0, .int .i64 0, .int .i64 0, .int .i64 0, .slice none 0 0, .slice none 0 0, .slice none 0 0, .int .i64 0, .int .i64 0, .int .i64 0, .int .i64 0, .int .i64 0, .int .i64 0, .slice none 0 0] 68 (fun v7 g4 H => ?_)
    refine x_b H [.m] <| z_store H 0 0 [.int .i64 0, .int .i64 0, .int .i64 0, .int .i64 0, .int .i64 0, .int .i64 0, .int .i64 0, .slice none 0 0, .slice none 0 0, .slice none 0 0, .int .i64 0, .int .i64 0, .int .i64 0, .int .i64 0, .int .i64 0, .int .i64 0, .slice none 0 0] (fun v8 H => ?_)
    refine x_b H [.m] <| x_nil <| x_then <| x_seq <| x_seq <| x_region <| x_b H [.m, .m] ?_
    refine x_nil <| x_then <| x_t (by kernel_rfl) <| x_seq <| x_region <| x_b H [.m, .m, .m, .n 3 0 7 25] <| z_callB (v := .bool (layoutOk r s b o c y z)) H (lRight_any _ _ _ _ _ _ _ (by omega) (by omega) (by omega) (by omega) _) fun v9 H => ?_
    refine x_b H [.v (.bool (!(layoutOk r s b o c y z))), .v (.bool (!(layoutOk r s b o c y z))), .v (.bool (!(layoutOk r s b o c y z)))] <| x_nil <| x_then <| x_retc <| x_then_ret <| x_ret (.bool (!(layoutOk r s b o c y z))) (by kernel_rfl) (by kernel_rfl) ?_
    exact ⟨by rw [hok]; rfl, H.below⟩
  have h2p := of_decide_eq_true h2
  refine x_t (by kernel_rfl) <| x_seq <| x_region <| x_b H [.m] <| x_nil <| x_then <| x_retc ?_
  refine x_then_ret <| x_ret (.bool true) (by kernel_rfl) (by kernel_rfl) ?_
  exact ⟨rfl, H.below⟩
theorem not_nodup_two {Q : List Ent} {a : Ent} : ¬ (Q ++ [a, a]).Nodup := fun h => by
  have := (List.nodup_append.1 h).2.1
  simp at this
theorem has21_len {u : Value} {n : Nat} (l : List Int) (hn : l.length = n) (hl : n ≤ 1000000000) (v : Int) (w0 : World) (hR : Ro w0 [.row (u) 3 1 n (List.map (Value.int .i64) l)]) : Calls Try.prog 43 #[u, .int .i64 v] w0 fun e w' => e = .returned (.bool (decide (v ∈ l))) ∧ Below w0.heap.size w0 w' := by
  subst hn; exact has21_any l hl v w0 hR
set_option maxRecDepth 100000 in
set_option maxHeartbeats 4000000 in
theorem rwr21_yes {r s b o c y z : Int} {pg sn ns : Nat} (hL : Lay r s b o c y z pg sn ns) (ad : Option Addr) (nA cA : Nat) (j : Job4) (ht : -9223372036854775808 ≤ j.2.2.1 ∧ j.2.2.1 ≤ 9223372036854775807) (aq : Ent) (l : List Int3) (w0 : World) (hA : RAt int3L 3 (0, 0, 0) w0 ad nA l) :
    Calls Try.prog 13 #[.agg #[.int .i64 r, .int .i64 s, .int .i64 b, .int .i64 o, .int .i64 c, .int .i64 y, .int .i64 z], .slice ad nA cA, .agg #[.int .i64 j.1, .int .i64 j.2.1, .int .i64 j.2.2.1, .int .i64 j.2.2.2], .agg #[.int .i64 aq.1, .int .i64 aq.2]] w0 fun e w' => e = .returned (.bool true) ∧ Below w0.heap.size w0 w' := by
  refine z_enter Try.func13 rfl ?_
  have H := Hs.nil w0
  have hok := hL.ok
  obtain ⟨-, r1', r8, s0, s8, b1, b2, o1, o2, c1, c2, y0, y4, z0, z2, hpg, hsn, hns, sn1, pg2, ln0, ln2⟩ := id hL
  refine x_seq <| x_region <| z_box H #[.int .i64 r, .int .i64 s, .int .i64 b, .int .i64 o, .int .i64 c, .int .i64 y, .int .i64 z] 25 (fun v1 g1 H => ?_)
  refine z_box H #[.int .i64 j.1, .int .i64 j.2.1, .int .i64 j.2.2.1, .int .i64 j.2.2.2] 77 (fun v2 g2 H => ?_)
  refine z_box H #[.int .i64 aq.1, .int .i64 aq.2] 72 (fun v3 g3 H => ?_)
  refine x_b H [.m] <| x_nil <| x_then <| x_seq <| x_seq <| x_region <| z_callB H (anchor21 _) fun v4 H => ?_
  refine x_b H [.m] <| x_nil <| x_then <| x_f (by kernel_rfl) <| x_skipc <| x_then <| x_seq ?_
  refine x_seq <| x_region <| x_b H [.n 2 0 7 25] <| z_call (small21_any r s b o c y z (by omega) (by omega) (by omega) (by omega) _) ?_
  rintro _ v5 ⟨tS, rfl, hB⟩
  refine ⟨_, rfl, ?_⟩
  replace H := H.via hB
  clear hB
  refine x_b H [.v (.bool (!tS)), .v (.bool (!tS))] ?_
  cases h1 : tS
  · skip
    refine x_b H [.k, .k, .k, .m] <| x_nil <| x_then <| x_t (by kernel_rfl) <| x_seq <| x_region <| x_b H [.m] ?_
    refine x_nil <| x_then <| x_retc <| x_then_ret <| x_ret (.bool true) (by kernel_rfl) (by kernel_rfl) ?_
    exact ⟨rfl, H.below⟩
  refine x_b H [.m, .m, .v (.bool (decide (40 < (nA : Int)))), .v (.bool (decide (40 < (nA : Int))))] <| x_nil <| x_then ?_
  cases h2 : decide (40 < (nA : Int))
  · skip
    have h2p := of_decide_eq_false h2
    refine x_f (by kernel_rfl) <| x_skipc <| x_then <| x_seq <| x_region <| x_b H [.n 2 0 7 25] <| z_call (started_yes hL _) ?_
    rintro _ v6 ⟨⟨p, gl, cl, gd, cd, gs, cs⟩, ⟨q, gq, cq⟩, rp, lv, rfl, hN'⟩
    refine ⟨_, rfl, ?_⟩
    replace H := hsCast (H.more hN') (L2 := [.blk rp #[.pointer (some ⟨p, 0, none⟩), .int .i64 (((Rp.new sn pg ns).j).1), .int .i64 (((Rp.new sn pg ns).j).2.1), .int .i64 (((Rp.new sn pg ns).j).2.2.1), .int .i64 (((Rp.new sn pg ns).j).2.2.2), .pointer (some ⟨q, 0, none⟩)] 133, .blk p #[.int .i64 r, .int .i64 s, .int .i64 b, .int .i64 o, .int .i64 c, .int .i64 y, .int .i64 z, .slice (some ⟨gl, 0, none⟩) sn cl, .slice (some ⟨gd, 0, none⟩) pg cd, .slice (some ⟨gs, 0, none⟩) ns cs, .int .i64 (((Rp.new sn pg ns).pu : Nat) : Int), .int .i64 (((Rp.new sn pg ns).ru : Nat) : Int)] 118, .row (.slice (some ⟨gl, 0, none⟩) sn cl) 3 1 sn (List.map (Value.int .i64) ((Rp.new sn pg ns).L)), .row (.slice (some ⟨gd, 0, none⟩) pg cd) 4 1 pg (List.map Value.bool ((Rp.new sn pg ns).D)), .row (.slice (some ⟨gs, 0, none⟩) ns cs) 3 1 ns (List.map (Value.int .i64) ((Rp.new sn pg ns).S)), .blk q #[.slice (some ⟨gq, 0, none⟩) 256 cq, .int .i64 ((0 : Nat) : Int), .int .i64 ((0 : Nat) : Int)] 170, .row (.slice (some ⟨gq, 0, none⟩) 256 cq) 72 2 256 (List.flatMap entL (List.replicate 256 ((0, 0) : Ent))), .row (lv) 3 1 pg (List.map (Value.int .i64) (layL y r b o pg)), .row (D21.new.pv) 156 2 (List.length D21.new.Pg) (List.flatMap entL D21.new.Pg), .row (D21.new.kv) 156 2 (List.length D21.new.Rk) (List.flatMap entL D21.new.Rk), .row (D21.new.fv) 147 2 (List.length D21.new.F) (List.flatMap entL D21.new.F), .blk g3 #[.int .i64 aq.1, .int .i64 aq.2] 72, .blk g2 #[.int .i64 j.1, .int .i64 j.2.1, .int .i64 j.2.2.1, .int .i64 j.2.2.2] 77, .blk g1 #[.int .i64 r, .int .i64 s, .int .i64 b, .int .i64 o, .int .i64 c, .int .i64 y, .int .i64 z] 25]) (by kernel_rfl)
    clear hN'
    refine x_b H [.m, .m, .m, .m] <| z_box H #[.int .i64 0, .int .i64 0, .int .i64 0, .int .i64 0, .int .i64 0, .int .i64 0, .int .i64 0, .slice none 0 0, .slice none 0 0, .slice none 0 0, .int .i64 0, .int .i64 0, .int .i64 0, .int .i64 0, .int .i64 0, .int .i64 0, .slice none 0 0] 68 (fun v7 g4 H => ?_)
    refine x_b H [.m] ?_
    have h3o := H.rowOne 8 rfl
    have h4o := H.rowOne 9 rfl
    have h5o := H.rowOne 10 rfl
    refine z_store H 0 0 [.int .i64 r, .int .i64 s, .int .i64 b, .int .i64 o, .int .i64 c, .int .i64 y, .int .i64 z, lv, D21.new.pv, D21.new.kv, .int .i64 (((Rp.new sn pg ns).pu : Nat) : Int), .int .i64 (((Rp.new sn pg ns).ru : Nat) : Int), .int .i64 (((Rp.new sn pg ns).j).1), .int .i64 (((Rp.new sn pg ns).j).2.1), .int .i64 (((Rp.new sn pg ns).j).2.2.1), .int .i64 (((Rp.new sn pg ns).j).2.2.2), .slice D21.new.ad D21.new.n D21.new.c] (fun v8 H => ?_) (h1 := (by simp only [List.all_cons, List.all_nil, h3o, h4o, h5o, Bool.and_true, Bool.true_and] <;> rfl))
    refine x_b H [.m] <| x_nil <| x_then <| x_seq <| x_seq <| x_region <| x_b H [.m, .m] ?_
    refine x_nil <| x_then <| x_f (by kernel_rfl) <| x_skipc <| x_then <| x_seq <| x_seq ?_
    refine x_region <| x_b H [.m, .m, .m] <| x_nil <| x_then <| x_block ?_
    replace H := H.pk [1, 2, 3, 4, 5, 6, 7, 8, 9, 10, 11, 0, 12, 13, 14]
    refine x_loop (G := Nat × Rp × List Ent × Nat × Nat × D21) (fun gh a w' => match gh with | (k, x, ls, ra, qn, g) => ∃ uf1 : Nat → Value, a = frm 181 uf1 [(4, .pointer (some ⟨g1, 0, none⟩)), (6, .pointer (some ⟨g2, 0, none⟩)), (7, .pointer (some ⟨g3, 0, none⟩)), (9, .pointer (some ⟨rp, 0, none⟩)), (10, .pointer (some ⟨g4, 0, none⟩)), (45, .slice ad nA cA), (46, .int .i64 (nA : Int)), (47, .int .i64 (k : Int))] [] ∧ Hs [] w0 w' [.blk rp #[.pointer (some ⟨p, 0, none⟩), .int .i64 x.j.1, .int .i64 x.j.2.1, .int .i64 x.j.2.2.1, .int .i64 x.j.2.2.2, .pointer (some ⟨q, 0, none⟩)] 133, .blk p #[.int .i64 r, .int .i64 s, .int .i64 b, .int .i64 o, .int .i64 c, .int .i64 y, .int .i64 z, .slice (some ⟨gl, 0, none⟩) sn cl, .slice (some ⟨gd, 0, none⟩) pg cd, .slice (some ⟨gs, 0, none⟩) ns cs, .int .i64 ((x.pu : Nat) : Int), .int .i64 ((x.ru : Nat) : Int)] 118, .row (.slice (some ⟨gl, 0, none⟩) sn cl) 3 1 sn (List.map (Value.int .i64) x.L), .row (.slice (some ⟨gd, 0, none⟩) pg cd) 4 1 pg (List.map Value.bool x.D), .row (.slice (some ⟨gs, 0, none⟩) ns cs) 3 1 ns (List.map (Value.int .i64) x.S), .blk q #[.slice (some ⟨gq, 0, none⟩) 256 cq, .int .i64 (ra : Int), .int .i64 (qn : Int)] 170, .row (.slice (some ⟨gq, 0, none⟩) 256 cq) 72 2 256 (List.flatMap entL ls), .row (lv) 3 1 pg (List.map (Value.int .i64) (layL y r b o pg)), .row (g.pv) 156 2 (List.length g.Pg) (List.flatMap entL g.Pg), .row (g.kv) 156 2 (List.length g.Rk) (List.flatMap entL g.Rk), .row (g.fv) 147 2 (List.length g.F) (List.flatMap entL g.F), .blk g4 #[.int .i64 r, .int .i64 s, .int .i64 b, .int .i64 o, .int .i64 c, .int .i64 y, .int .i64 z, lv, g.pv, g.kv, .int .i64 ((x.pu : Nat) : Int), .int .i64 ((x.ru : Nat) : Int), .int .i64 x.j.1, .int .i64 x.j.2.1, .int .i64 x.j.2.2.1, .int .i64 x.j.2.2.2, .slice g.ad g.n g.c] 68, .blk g3 #[.int .i64 aq.1, .int .i64 aq.2] 72, .blk g2 #[.int .i64 j.1, .int .i64 j.2.1, .int .i64 j.2.2.1, .int .i64 j.2.2.2] 77, .blk g1 #[.int .i64 r, .int .i64 s, .int .i64 b, .int .i64 o, .int .i64 c, .int .i64 y, .int .i64 z] 25] ∧ (k ≤ nA) ∧ (RpOk r s b o c z sn pg ns x) ∧ (RgOk ls ra qn x.Q) ∧ (D21.Ok pg sn ns x g) ∧ (g.Pg.length ≤ 0 + k) ∧ (g.Rk.length ≤ 0 + k) ∧ (x.Q.Nodup)) (fun gh => match gh with | (k, x, ls, ra, qn, g) => nA - k) (0, (Rp.new sn pg ns), (List.replicate 256 ((0, 0) : Ent)), 0, 0, D21.new) ⟨_, frm_of, H, (Nat.zero_le _), (RpOk.new hL), RgOk.new, (D21.new_ok pg sn ns), (Nat.zero_le _), (Nat.zero_le _), List.nodup_nil⟩ ?_
    clear H
    rintro ⟨k, x, ls, ra, qn, g⟩ _ v9 ⟨uf1, rfl, H, r1, r2, r3, r4, r5, r6, r7⟩
    have hx := r2
    have hk := r3
    have hg := r4
    have hQ := r7
    refine x_seq <| x_region <| x_b H [.v (.bool (decide ((k : Int) < (nA : Int))))] <| x_nil <| x_then <| x_seq ?_
    cases h6 : decide ((k : Int) < (nA : Int))
    · skip
      have h6p := of_decide_eq_false h6
      refine x_f (by kernel_rfl) <| x_exit <| x_then_exit <| x_then_exit <| x_blk_exit <| x_then <| x_seq ?_
      refine x_region <| x_b H [.m] ?_
      have hm := hx.v.m
      have hpu := hm.hp
      have hru := hm.hr
      obtain ⟨⟨jb1, jb2⟩, ⟨jb3, jb4⟩, ⟨jb5, jb6⟩, ⟨jb7, jb8⟩⟩ := hx.job_bd hL
      refine z_call (H.useEI [0, 1, 2, 3, 4, 5, 6] (fun h => State21 hL hx hk _ h)) ?_
      rintro _ v10 ⟨⟨zaa, zab, zac, zad⟩, rfl, H'⟩
      refine ⟨_, rfl, ?_⟩
      clear H
      have H := hsCast H' (L2 := [.blk rp #[.pointer (some ⟨p, 0, none⟩), .int .i64 x.j.1, .int .i64 x.j.2.1, .int .i64 x.j.2.2.1, .int .i64 x.j.2.2.2, .pointer (some ⟨q, 0, none⟩)] 133, .blk p #[.int .i64 r, .int .i64 s, .int .i64 b, .int .i64 o, .int .i64 c, .int .i64 y, .int .i64 z, .slice (some ⟨gl, 0, none⟩) sn cl, .slice (some ⟨gd, 0, none⟩) pg cd, .slice (some ⟨gs, 0, none⟩) ns cs, .int .i64 ((x.pu : Nat) : Int), .int .i64 ((x.ru : Nat) : Int)] 118, .row (.slice (some ⟨gl, 0, none⟩) sn cl) 3 1 sn (List.map (Value.int .i64) x.L), .row (.slice (some ⟨gd, 0, none⟩) pg cd) 4 1 pg (List.map Value.bool x.D), .row (.slice (some ⟨gs, 0, none⟩) ns cs) 3 1 ns (List.map (Value.int .i64) x.S), .blk q #[.slice (some ⟨gq, 0, none⟩) 256 cq, .int .i64 (ra : Int), .int .i64 (qn : Int)] 170, .row (.slice (some ⟨gq, 0, none⟩) 256 cq) 72 2 256 (List.flatMap entL ls), .row (zaa) 3 1 sn (List.map (Value.int .i64) x.L), .row (zab) 3 1 (List.length (deadL x.D pg)) (List.map (Value.int .i64) (deadL x.D pg)), .row (zac) 3 1 (List.length (spL x.S)) (List.map (Value.int .i64) (spL x.S)), .row (zad) 72 2 (List.length x.Q) (List.flatMap entL x.Q), .row (lv) 3 1 pg (List.map (Value.int .i64) (layL y r b o pg)), .row (g.pv) 156 2 (List.length g.Pg) (List.flatMap entL g.Pg), .row (g.kv) 156 2 (List.length g.Rk) (List.flatMap entL g.Rk), .row (g.fv) 147 2 (List.length g.F) (List.flatMap entL g.F), .blk g4 #[.int .i64 r, .int .i64 s, .int .i64 b, .int .i64 o, .int .i64 c, .int .i64 y, .int .i64 z, lv, g.pv, g.kv, .int .i64 ((x.pu : Nat) : Int), .int .i64 ((x.ru : Nat) : Int), .int .i64 x.j.1, .int .i64 x.j.2.1, .int .i64 x.j.2.2.1, .int .i64 x.j.2.2.2, .slice g.ad g.n g.c] 68, .blk g3 #[.int .i64 aq.1, .int .i64 aq.2] 72, .blk g2 #[.int .i64 j.1, .int .i64 j.2.1, .int .i64 j.2.2.1, .int .i64 j.2.2.2] 77, .blk g1 #[.int .i64 r, .int .i64 s, .int .i64 b, .int .i64 o, .int .i64 c, .int .i64 y, .int .i64 z] 25]) (by kernel_rfl)
      clear H'
      refine z_box H #[.slice none 0 0, .slice none 0 0, .slice none 0 0, .int .i64 0, .int .i64 0, .int .i64 0, .int .i64 0, .int .i64 0, .int .i64 0, .slice none 0 0] 110 (fun v11 g5 H => ?_)
      have h7o := H.rowOne 8 rfl
      have h8o := H.rowOne 9 rfl
      have h9o := H.rowOne 10 rfl
      have h10o := H.rowOne 11 rfl
      refine z_store H 0 0 [zaa, zab, zac, .int .i64 ((x.pu : Nat) : Int), .int .i64 ((x.ru : Nat) : Int), .int .i64 x.j.1, .int .i64 x.j.2.1, .int .i64 x.j.2.2.1, .int .i64 x.j.2.2.2, zad] (fun v12 H => ?_) (h1 := (by simp only [List.all_cons, List.all_nil, h7o, h8o, h9o, h10o, Bool.and_true, Bool.true_and] <;> rfl))
      refine x_nil <| x_then <| x_seq <| x_region <| x_b H [.n 18 0 4 77, .m] <| z_store H 0 5 [.int .i64 j.1, .int .i64 j.2.1, .int .i64 j.2.2.1, .int .i64 j.2.2.2] (fun v13 H => ?_)
      refine x_nil <| x_then <| x_span4 (fun a w' => ∃ cf : Nat → Value, ∃ uf2 : Nat → Value, a = frm 181 uf2 [(4, .pointer (some ⟨g1, 0, none⟩)), (7, .pointer (some ⟨g3, 0, none⟩)), (9, .pointer (some ⟨rp, 0, none⟩)), (14, .pointer (some ⟨g5, 0, none⟩))] [] ∧ Hs [] w0 w' [.blk rp #[.pointer (some ⟨p, 0, none⟩), .int .i64 x.j.1, .int .i64 x.j.2.1, .int .i64 x.j.2.2.1, .int .i64 x.j.2.2.2, .pointer (some ⟨q, 0, none⟩)] 133, .blk p #[.int .i64 r, .int .i64 s, .int .i64 b, .int .i64 o, .int .i64 c, .int .i64 y, .int .i64 z, .slice (some ⟨gl, 0, none⟩) sn cl, .slice (some ⟨gd, 0, none⟩) pg cd, .slice (some ⟨gs, 0, none⟩) ns cs, .int .i64 ((x.pu : Nat) : Int), .int .i64 ((x.ru : Nat) : Int)] 118, .row (.slice (some ⟨gl, 0, none⟩) sn cl) 3 1 sn (List.map (Value.int .i64) x.L), .row (.slice (some ⟨gd, 0, none⟩) pg cd) 4 1 pg (List.map Value.bool x.D), .row (.slice (some ⟨gs, 0, none⟩) ns cs) 3 1 ns (List.map (Value.int .i64) x.S), .blk q #[.slice (some ⟨gq, 0, none⟩) 256 cq, .int .i64 (ra : Int), .int .i64 (qn : Int)] 170, .row (.slice (some ⟨gq, 0, none⟩) 256 cq) 72 2 256 (List.flatMap entL ls), .blk g3 #[.int .i64 aq.1, .int .i64 aq.2] 72, .blk g2 #[.int .i64 j.1, .int .i64 j.2.1, .int .i64 j.2.2.1, .int .i64 j.2.2.2] 77, .blk g1 #[.int .i64 r, .int .i64 s, .int .i64 b, .int .i64 o, .int .i64 c, .int .i64 y, .int .i64 z] 25, .blk g5 #[(cf 0), (cf 1), (cf 2), (cf 3), (cf 4), (cf 5), (cf 6), (cf 7), (cf 8), (cf 9)] 110]) ?_ (fun hSp1 => ?_)
      · skip
        clear H
        rintro _ v14 ⟨cf, uf2, rfl, H⟩
        refine x_seq <| x_region <| x_b H [.m] <| z_call (H.useEI [0, 1, 2, 3, 4, 5, 6] (fun h => State21 hL hx hk _ h)) ?_
        rintro _ v15 ⟨⟨zba, zbb, zbc, zbd⟩, rfl, H'⟩
        refine ⟨_, rfl, ?_⟩
        clear H
        have H := hsCast H' (L2 := [.blk rp #[.pointer (some ⟨p, 0, none⟩), .int .i64 x.j.1, .int .i64 x.j.2.1, .int .i64 x.j.2.2.1, .int .i64 x.j.2.2.2, .pointer (some ⟨q, 0, none⟩)] 133, .blk p #[.int .i64 r, .int .i64 s, .int .i64 b, .int .i64 o, .int .i64 c, .int .i64 y, .int .i64 z, .slice (some ⟨gl, 0, none⟩) sn cl, .slice (some ⟨gd, 0, none⟩) pg cd, .slice (some ⟨gs, 0, none⟩) ns cs, .int .i64 ((x.pu : Nat) : Int), .int .i64 ((x.ru : Nat) : Int)] 118, .row (.slice (some ⟨gl, 0, none⟩) sn cl) 3 1 sn (List.map (Value.int .i64) x.L), .row (.slice (some ⟨gd, 0, none⟩) pg cd) 4 1 pg (List.map Value.bool x.D), .row (.slice (some ⟨gs, 0, none⟩) ns cs) 3 1 ns (List.map (Value.int .i64) x.S), .blk q #[.slice (some ⟨gq, 0, none⟩) 256 cq, .int .i64 (ra : Int), .int .i64 (qn : Int)] 170, .row (.slice (some ⟨gq, 0, none⟩) 256 cq) 72 2 256 (List.flatMap entL ls), .row (zba) 3 1 sn (List.map (Value.int .i64) x.L), .row (zbb) 3 1 (List.length (deadL x.D pg)) (List.map (Value.int .i64) (deadL x.D pg)), .row (zbc) 3 1 (List.length (spL x.S)) (List.map (Value.int .i64) (spL x.S)), .row (zbd) 72 2 (List.length x.Q) (List.flatMap entL x.Q), .blk g3 #[.int .i64 aq.1, .int .i64 aq.2] 72, .blk g2 #[.int .i64 j.1, .int .i64 j.2.1, .int .i64 j.2.2.1, .int .i64 j.2.2.2] 77, .blk g1 #[.int .i64 r, .int .i64 s, .int .i64 b, .int .i64 o, .int .i64 c, .int .i64 y, .int .i64 z] 25, .blk g5 #[(cf 0), (cf 1), (cf 2), (cf 3), (cf 4), (cf 5), (cf 6), (cf 7), (cf 8), (cf 9)] 110]) (by kernel_rfl)
        clear H'
        have h11o := H.rowOne 7 rfl
        have h12o := H.rowOne 8 rfl
        have h13o := H.rowOne 9 rfl
        have h14o := H.rowOne 10 rfl
        refine z_store H 14 0 [zba, zbb, zbc, .int .i64 ((x.pu : Nat) : Int), .int .i64 ((x.ru : Nat) : Int), .int .i64 x.j.1, .int .i64 x.j.2.1, .int .i64 x.j.2.2.1, .int .i64 x.j.2.2.2, zbd] (fun v16 H => ?_) (h1 := (by simp only [List.all_cons, List.all_nil, h11o, h12o, h13o, h14o, Bool.and_true, Bool.true_and] <;> rfl))
        refine x_nil <| x_then <| x_seq <| x_cut (fun a w' => ∃ wv : Value, ∃ uf3 : Nat → Value, a = frm 181 uf3 [(4, .pointer (some ⟨g1, 0, none⟩)), (14, .pointer (some ⟨g5, 0, none⟩))] [] ∧ Hs [] w0 w' [.blk rp #[.pointer (some ⟨p, 0, none⟩), .int .i64 x.j.1, .int .i64 x.j.2.1, .int .i64 x.j.2.2.1, .int .i64 x.j.2.2.2, .pointer (some ⟨q, 0, none⟩)] 133, .blk p #[.int .i64 r, .int .i64 s, .int .i64 b, .int .i64 o, .int .i64 c, .int .i64 y, .int .i64 z, .slice (some ⟨gl, 0, none⟩) sn cl, .slice (some ⟨gd, 0, none⟩) pg cd, .slice (some ⟨gs, 0, none⟩) ns cs, .int .i64 ((x.pu : Nat) : Int), .int .i64 ((x.ru : Nat) : Int)] 118, .row (.slice (some ⟨gl, 0, none⟩) sn cl) 3 1 sn (List.map (Value.int .i64) x.L), .row (.slice (some ⟨gd, 0, none⟩) pg cd) 4 1 pg (List.map Value.bool x.D), .row (.slice (some ⟨gs, 0, none⟩) ns cs) 3 1 ns (List.map (Value.int .i64) x.S), .blk q #[.slice (some ⟨gq, 0, none⟩) 256 cq, .int .i64 (ra : Int), .int .i64 (qn : Int)] 170, .row (.slice (some ⟨gq, 0, none⟩) 256 cq) 72 2 256 (List.flatMap entL ls), .row (zba) 3 1 sn (List.map (Value.int .i64) x.L), .row (zbb) 3 1 (List.length (deadL x.D pg)) (List.map (Value.int .i64) (deadL x.D pg)), .row (zbc) 3 1 (List.length (spL x.S)) (List.map (Value.int .i64) (spL x.S)), .blk g2 #[.int .i64 j.1, .int .i64 j.2.1, .int .i64 j.2.2.1, .int .i64 j.2.2.2] 77, .blk g1 #[.int .i64 r, .int .i64 s, .int .i64 b, .int .i64 o, .int .i64 c, .int .i64 y, .int .i64 z] 25, .blk g5 #[zba, zbb, zbc, .int .i64 ((x.pu : Nat) : Int), .int .i64 ((x.ru : Nat) : Int), .int .i64 x.j.1, .int .i64 x.j.2.1, .int .i64 x.j.2.2.1, .int .i64 x.j.2.2.2, wv] 110, .row (wv) 72 2 (List.length (x.Q ++ [aq, aq])) (List.flatMap entL (x.Q ++ [aq, aq]))]) ?_ ?_
        · skip
          refine z_region_s H 10 [0, 1, 2, 3, 4, 5, 6, 7, 8, 9, 10, 11, 12, 13] <| s_b [(1, .m), (4, .n 11 0 2 72), (5, .n 11 0 2 72)] 7 <| s_three 0 2 6 rfl rfl rfl (by kernel_rfl) rfl rfl rfl ?_ ?_ ?_
          · skip
            clear H
            intro v17 H
            refine x_box' H #[] 72 0 (by kernel_rfl) rfl (by kernel_rfl) ?_
            clear H
            intro v18 g6 H
            refine x_nil <| x_then <| z_next H [1, 2, 3, 4, 5, 6, 7, 8, 9, 10, 11, 12, 13, 14] [0, 1, 2, 3, 4, 5, 6, 7, 8, 9, 10, 11, 12, 13] rfl <| s_two 2 6 rfl rfl (by kernel_rfl) rfl rfl ?_ ?_
            · skip
              clear H
              intro v19 H
              refine x_b H [.l 15 9] <| x_nil <| x_then <| z_next H [1, 2, 3, 4, 5, 6, 7, 8, 9, 10, 11, 12, 13, 14] [0, 1, 2, 3, 4, 5, 6, 7, 8, 9, 10, 11, 12, 13] rfl <| s_two 3 6 rfl rfl (by kernel_rfl) rfl rfl ?_ ?_
              · skip
                clear H
                intro v20 H
                replace H := H.row0 (sz := 2) 0 rfl
                replace H := hsCast H (L2 := [.row (.slice (some ⟨g6, 0, none⟩) 0 0) 72 2 0 (List.flatMap entL ([] : List Ent)), .blk rp #[.pointer (some ⟨p, 0, none⟩), .int .i64 x.j.1, .int .i64 x.j.2.1, .int .i64 x.j.2.2.1, .int .i64 x.j.2.2.2, .pointer (some ⟨q, 0, none⟩)] 133, .blk p #[.int .i64 r, .int .i64 s, .int .i64 b, .int .i64 o, .int .i64 c, .int .i64 y, .int .i64 z, .slice (some ⟨gl, 0, none⟩) sn cl, .slice (some ⟨gd, 0, none⟩) pg cd, .slice (some ⟨gs, 0, none⟩) ns cs, .int .i64 ((x.pu : Nat) : Int), .int .i64 ((x.ru : Nat) : Int)] 118, .row (.slice (some ⟨gl, 0, none⟩) sn cl) 3 1 sn (List.map (Value.int .i64) x.L), .row (.slice (some ⟨gd, 0, none⟩) pg cd) 4 1 pg (List.map Value.bool x.D), .row (.slice (some ⟨gs, 0, none⟩) ns cs) 3 1 ns (List.map (Value.int .i64) x.S), .blk q #[.slice (some ⟨gq, 0, none⟩) 256 cq, .int .i64 (ra : Int), .int .i64 (qn : Int)] 170, .row (.slice (some ⟨gq, 0, none⟩) 256 cq) 72 2 256 (List.flatMap entL ls), .row (zba) 3 1 sn (List.map (Value.int .i64) x.L), .row (zbb) 3 1 (List.length (deadL x.D pg)) (List.map (Value.int .i64) (deadL x.D pg)), .row (zbc) 3 1 (List.length (spL x.S)) (List.map (Value.int .i64) (spL x.S)), .row (zbd) 72 2 (List.length x.Q) (List.flatMap entL x.Q), .blk g3 #[.int .i64 aq.1, .int .i64 aq.2] 72, .blk g2 #[.int .i64 j.1, .int .i64 j.2.1, .int .i64 j.2.2.1, .int .i64 j.2.2.2] 77, .blk g1 #[.int .i64 r, .int .i64 s, .int .i64 b, .int .i64 o, .int .i64 c, .int .i64 y, .int .i64 z] 25, .blk g5 #[zba, zbb, zbc, .int .i64 ((x.pu : Nat) : Int), .int .i64 ((x.ru : Nat) : Int), .int .i64 x.j.1, .int .i64 x.j.2.1, .int .i64 x.j.2.2.1, .int .i64 x.j.2.2.2, zbd] 110]) (by kernel_rfl)
                refine x_appendSrc H 0 (.slice (some ⟨g6, 0, none⟩) 0 0) 108 72 2 16 0 (.agg #[.int .i64 0, .int .i64 0]) (List.flatMap entL ([] : List Ent)) (zbd) (List.length x.Q) (List.flatMap entL x.Q) rfl (src_row (H.ok 11 _ rfl : Go.World.ownsRow _ 0 72 2 _ _ _)) (by kernel_rfl) (by kernel_rfl) (by kernel_rfl) (by decide) (oneCellFlat entOne _) (by have := hx.ql; unfold maxLen; omega) (by have := hx.ql; omega) (by kernel_rfl) rfl (by kernel_rfl) ?_
                clear H
                intro v21 vr167 H
                rw [show (List.flatMap entL ([] : List Ent)) ++ (List.flatMap entL x.Q) = (List.flatMap entL x.Q) from (by simp)] at H
                rw [show (0 + (List.length x.Q) : Nat) = (List.length x.Q) from (by simp)] at H
                refine x_nil <| x_then <| z_next H [1, 2, 3, 4, 5, 6, 7, 8, 9, 10, 11, 12, 13, 14] [0, 1, 2, 3, 4, 5, 6, 7, 8, 9, 10, 11, 12, 13] rfl <| s_one 6 rfl (by kernel_rfl) rfl ?_
                clear H
                intro v22 H
                refine x_box' H #[.int .i64 aq.1, .int .i64 aq.2, .int .i64 aq.1, .int .i64 aq.2] 72 2 (by kernel_rfl) rfl (by kernel_rfl) ?_
                clear H
                intro v23 g7 H
                refine x_nil <| x_then <| z_next H [2, 3, 4, 5, 6, 7, 8, 9, 10, 11, 12, 13, 14, 15] [0, 1, 2, 3, 4, 5, 6, 7, 8, 9, 10, 11, 12, 13] rfl <| s_one 7 rfl (by kernel_rfl) rfl ?_
                clear H
                intro v24 H
                refine x_append H 1 (vr167) 108 72 2 16 (List.length x.Q) (.agg #[.int .i64 0, .int .i64 0]) (List.flatMap entL x.Q) ⟨g7, 0, none⟩ 2 2 [.int .i64 aq.1, .int .i64 aq.2, .int .i64 aq.1, .int .i64 aq.2] rfl (by kernel_rfl) (by kernel_rfl) rfl (by decide) (by decide) rfl (fun j u hj => by rw [add_none]; exact cellOf (H.blk 0 rfl) (by simpa using hj)) (List.all_eq_true.1 (by kernel_rfl)) (by have := hx.ql; unfold maxLen; omega) (by have := hx.ql; omega) (by kernel_rfl) rfl (by kernel_rfl) ?_
                clear H
                intro v25 g8 c8 hc8 H
                rw [show (((List.length x.Q) + 2) : Nat) = (List.length (x.Q ++ [aq, aq])) from (by simp)] at H ⊢
                rw [show (List.flatMap entL x.Q) ++ [.int .i64 aq.1, .int .i64 aq.2, .int .i64 aq.1, .int .i64 aq.2] = (List.flatMap entL (x.Q ++ [aq, aq])) from (by rw [List.flatMap_append]; rfl)] at H
                replace H := H.pk [1, 2, 3, 4, 5, 6, 7, 8, 9, 10, 11, 12, 13, 14, 15, 16]
                refine x_nil <| x_then <| z_next H [0, 1, 2, 3, 4, 5, 6, 7, 8, 9, 10, 11, 12, 13, 14] [1, 2, 3, 4, 5, 6, 7, 8, 9, 10, 11, 12, 13, 14] rfl <| s_b [(8, .m)] 1 <| s_one 9 rfl (by kernel_rfl) rfl ?_
                clear H
                intro v26 H
                refine z_store H 15 9 [.slice (some ⟨g8, 0, none⟩) (List.length (x.Q ++ [aq, aq])) c8] (fun v27 H => ?_)
                refine x_nil <| x_then <| z_next H [0, 1, 2, 3, 4, 5, 6, 7, 8, 9, 10, 11, 12, 13, 14, 15] [0, 1, 2, 3, 4, 5, 6, 7, 8, 9, 10, 11, 12, 13, 14] rfl <| s_done (by kernel_rfl) ?_
                clear H
                intro v28 H
                refine x_then ?_
                replace H := H.pk [1, 2, 3, 4, 5, 6, 7, 8, 9, 10, 13, 14, 15, 0]
                exact ⟨.slice (some ⟨g8, 0, none⟩) (List.length (x.Q ++ [aq, aq])) c8, _, frm_of, H⟩
              · skip
                clear H
                intro v29 H
                refine x_box' H #[.int .i64 aq.1, .int .i64 aq.2, .int .i64 aq.1, .int .i64 aq.2] 72 2 (by kernel_rfl) rfl (by kernel_rfl) ?_
                clear H
                intro v30 g9 H
                refine x_nil <| x_then <| z_next H [2, 3, 4, 5, 6, 7, 8, 9, 10, 11, 12, 13, 14, 15] [0, 1, 2, 3, 4, 5, 6, 7, 8, 9, 10, 11, 12, 13] rfl <| s_one 3 rfl (by kernel_rfl) rfl ?_
                clear H
                intro v31 H
                replace H := H.row0 (sz := 2) 1 rfl
                replace H := hsCast H (L2 := [.blk g9 #[.int .i64 aq.1, .int .i64 aq.2, .int .i64 aq.1, .int .i64 aq.2] 72, .row (.slice (some ⟨g6, 0, none⟩) 0 0) 72 2 0 (List.flatMap entL ([] : List Ent)), .blk rp #[.pointer (some ⟨p, 0, none⟩), .int .i64 x.j.1, .int .i64 x.j.2.1, .int .i64 x.j.2.2.1, .int .i64 x.j.2.2.2, .pointer (some ⟨q, 0, none⟩)] 133, .blk p #[.int .i64 r, .int .i64 s, .int .i64 b, .int .i64 o, .int .i64 c, .int .i64 y, .int .i64 z, .slice (some ⟨gl, 0, none⟩) sn cl, .slice (some ⟨gd, 0, none⟩) pg cd, .slice (some ⟨gs, 0, none⟩) ns cs, .int .i64 ((x.pu : Nat) : Int), .int .i64 ((x.ru : Nat) : Int)] 118, .row (.slice (some ⟨gl, 0, none⟩) sn cl) 3 1 sn (List.map (Value.int .i64) x.L), .row (.slice (some ⟨gd, 0, none⟩) pg cd) 4 1 pg (List.map Value.bool x.D), .row (.slice (some ⟨gs, 0, none⟩) ns cs) 3 1 ns (List.map (Value.int .i64) x.S), .blk q #[.slice (some ⟨gq, 0, none⟩) 256 cq, .int .i64 (ra : Int), .int .i64 (qn : Int)] 170, .row (.slice (some ⟨gq, 0, none⟩) 256 cq) 72 2 256 (List.flatMap entL ls), .row (zba) 3 1 sn (List.map (Value.int .i64) x.L), .row (zbb) 3 1 (List.length (deadL x.D pg)) (List.map (Value.int .i64) (deadL x.D pg)), .row (zbc) 3 1 (List.length (spL x.S)) (List.map (Value.int .i64) (spL x.S)), .row (zbd) 72 2 (List.length x.Q) (List.flatMap entL x.Q), .blk g3 #[.int .i64 aq.1, .int .i64 aq.2] 72, .blk g2 #[.int .i64 j.1, .int .i64 j.2.1, .int .i64 j.2.2.1, .int .i64 j.2.2.2] 77, .blk g1 #[.int .i64 r, .int .i64 s, .int .i64 b, .int .i64 o, .int .i64 c, .int .i64 y, .int .i64 z] 25, .blk g5 #[zba, zbb, zbc, .int .i64 ((x.pu : Nat) : Int), .int .i64 ((x.ru : Nat) : Int), .int .i64 x.j.1, .int .i64 x.j.2.1, .int .i64 x.j.2.2.1, .int .i64 x.j.2.2.2, zbd] 110]) (by kernel_rfl)
                refine x_appendSrc H 1 (.slice (some ⟨g6, 0, none⟩) 0 0) 108 72 2 16 0 (.agg #[.int .i64 0, .int .i64 0]) (List.flatMap entL ([] : List Ent)) (zbd) (List.length x.Q) (List.flatMap entL x.Q) rfl (src_row (H.ok 12 _ rfl : Go.World.ownsRow _ 0 72 2 _ _ _)) (by kernel_rfl) (by kernel_rfl) (by kernel_rfl) (by decide) (oneCellFlat entOne _) (by have := hx.ql; unfold maxLen; omega) (by have := hx.ql; omega) (by kernel_rfl) rfl (by kernel_rfl) ?_
                clear H
                intro v32 vr167 H
                rw [show (List.flatMap entL ([] : List Ent)) ++ (List.flatMap entL x.Q) = (List.flatMap entL x.Q) from (by simp)] at H
                rw [show (0 + (List.length x.Q) : Nat) = (List.length x.Q) from (by simp)] at H
                refine x_nil <| x_then <| z_next H [2, 3, 4, 5, 6, 7, 8, 9, 10, 11, 12, 13, 14, 15] [0, 1, 2, 3, 4, 5, 6, 7, 8, 9, 10, 11, 12, 13] rfl <| s_one 7 rfl (by kernel_rfl) rfl ?_
                clear H
                intro v33 H
                refine x_append H 1 (vr167) 108 72 2 16 (List.length x.Q) (.agg #[.int .i64 0, .int .i64 0]) (List.flatMap entL x.Q) ⟨g9, 0, none⟩ 2 2 [.int .i64 aq.1, .int .i64 aq.2, .int .i64 aq.1, .int .i64 aq.2] rfl (by kernel_rfl) (by kernel_rfl) rfl (by decide) (by decide) rfl (fun j u hj => by rw [add_none]; exact cellOf (H.blk 0 rfl) (by simpa using hj)) (List.all_eq_true.1 (by kernel_rfl)) (by have := hx.ql; unfold maxLen; omega) (by have := hx.ql; omega) (by kernel_rfl) rfl (by kernel_rfl) ?_
                clear H
                intro v34 g10 c10 hc10 H
                rw [show (((List.length x.Q) + 2) : Nat) = (List.length (x.Q ++ [aq, aq])) from (by simp)] at H ⊢
                rw [show (List.flatMap entL x.Q) ++ [.int .i64 aq.1, .int .i64 aq.2, .int .i64 aq.1, .int .i64 aq.2] = (List.flatMap entL (x.Q ++ [aq, aq])) from (by rw [List.flatMap_append]; rfl)] at H
                replace H := H.pk [1, 2, 3, 4, 5, 6, 7, 8, 9, 10, 11, 12, 13, 14, 15, 16]
                refine x_nil <| x_then <| z_next H [1, 2, 3, 4, 5, 6, 7, 8, 9, 10, 11, 12, 13, 14] [0, 1, 2, 3, 4, 5, 6, 7, 8, 9, 10, 11, 12, 13] rfl <| s_b [(8, .m)] 1 <| s_one 9 rfl (by kernel_rfl) rfl ?_
                clear H
                intro v35 H
                refine z_store H 15 9 [.slice (some ⟨g10, 0, none⟩) (List.length (x.Q ++ [aq, aq])) c10] (fun v36 H => ?_)
                refine x_nil <| x_then <| z_next H [1, 2, 3, 4, 5, 6, 7, 8, 9, 10, 11, 12, 13, 14] [0, 1, 2, 3, 4, 5, 6, 7, 8, 9, 10, 11, 12, 13] rfl <| s_done (by kernel_rfl) ?_
                clear H
                intro v37 H
                refine x_then ?_
                replace H := H.pk [1, 2, 3, 4, 5, 6, 7, 8, 9, 10, 13, 14, 15, 0]
                exact ⟨.slice (some ⟨g10, 0, none⟩) (List.length (x.Q ++ [aq, aq])) c10, _, frm_of, H⟩
            · skip
              clear H
              intro v38 H
              refine x_box' H #[.int .i64 aq.1, .int .i64 aq.2, .int .i64 aq.1, .int .i64 aq.2] 72 2 (by kernel_rfl) rfl (by kernel_rfl) ?_
              clear H
              intro v39 g11 H
              refine x_nil <| x_then <| z_next H [2, 3, 4, 5, 6, 7, 8, 9, 10, 11, 12, 13, 14, 15] [0, 1, 2, 3, 4, 5, 6, 7, 8, 9, 10, 11, 12, 13] rfl <| s_one 2 rfl (by kernel_rfl) rfl ?_
              clear H
              intro v40 H
              refine x_b H [.l 16 9] <| x_nil <| x_then <| z_next H [2, 3, 4, 5, 6, 7, 8, 9, 10, 11, 12, 13, 14, 15] [0, 1, 2, 3, 4, 5, 6, 7, 8, 9, 10, 11, 12, 13] rfl <| s_one 3 rfl (by kernel_rfl) rfl ?_
              clear H
              intro v41 H
              replace H := H.row0 (sz := 2) 1 rfl
              replace H := hsCast H (L2 := [.blk g11 #[.int .i64 aq.1, .int .i64 aq.2, .int .i64 aq.1, .int .i64 aq.2] 72, .row (.slice (some ⟨g6, 0, none⟩) 0 0) 72 2 0 (List.flatMap entL ([] : List Ent)), .blk rp #[.pointer (some ⟨p, 0, none⟩), .int .i64 x.j.1, .int .i64 x.j.2.1, .int .i64 x.j.2.2.1, .int .i64 x.j.2.2.2, .pointer (some ⟨q, 0, none⟩)] 133, .blk p #[.int .i64 r, .int .i64 s, .int .i64 b, .int .i64 o, .int .i64 c, .int .i64 y, .int .i64 z, .slice (some ⟨gl, 0, none⟩) sn cl, .slice (some ⟨gd, 0, none⟩) pg cd, .slice (some ⟨gs, 0, none⟩) ns cs, .int .i64 ((x.pu : Nat) : Int), .int .i64 ((x.ru : Nat) : Int)] 118, .row (.slice (some ⟨gl, 0, none⟩) sn cl) 3 1 sn (List.map (Value.int .i64) x.L), .row (.slice (some ⟨gd, 0, none⟩) pg cd) 4 1 pg (List.map Value.bool x.D), .row (.slice (some ⟨gs, 0, none⟩) ns cs) 3 1 ns (List.map (Value.int .i64) x.S), .blk q #[.slice (some ⟨gq, 0, none⟩) 256 cq, .int .i64 (ra : Int), .int .i64 (qn : Int)] 170, .row (.slice (some ⟨gq, 0, none⟩) 256 cq) 72 2 256 (List.flatMap entL ls), .row (zba) 3 1 sn (List.map (Value.int .i64) x.L), .row (zbb) 3 1 (List.length (deadL x.D pg)) (List.map (Value.int .i64) (deadL x.D pg)), .row (zbc) 3 1 (List.length (spL x.S)) (List.map (Value.int .i64) (spL x.S)), .row (zbd) 72 2 (List.length x.Q) (List.flatMap entL x.Q), .blk g3 #[.int .i64 aq.1, .int .i64 aq.2] 72, .blk g2 #[.int .i64 j.1, .int .i64 j.2.1, .int .i64 j.2.2.1, .int .i64 j.2.2.2] 77, .blk g1 #[.int .i64 r, .int .i64 s, .int .i64 b, .int .i64 o, .int .i64 c, .int .i64 y, .int .i64 z] 25, .blk g5 #[zba, zbb, zbc, .int .i64 ((x.pu : Nat) : Int), .int .i64 ((x.ru : Nat) : Int), .int .i64 x.j.1, .int .i64 x.j.2.1, .int .i64 x.j.2.2.1, .int .i64 x.j.2.2.2, zbd] 110]) (by kernel_rfl)
              refine x_appendSrc H 1 (.slice (some ⟨g6, 0, none⟩) 0 0) 108 72 2 16 0 (.agg #[.int .i64 0, .int .i64 0]) (List.flatMap entL ([] : List Ent)) (zbd) (List.length x.Q) (List.flatMap entL x.Q) rfl (src_row (H.ok 12 _ rfl : Go.World.ownsRow _ 0 72 2 _ _ _)) (by kernel_rfl) (by kernel_rfl) (by kernel_rfl) (by decide) (oneCellFlat entOne _) (by have := hx.ql; unfold maxLen; omega) (by have := hx.ql; omega) (by kernel_rfl) rfl (by kernel_rfl) ?_
              clear H
              intro v42 vr167 H
              rw [show (List.flatMap entL ([] : List Ent)) ++ (List.flatMap entL x.Q) = (List.flatMap entL x.Q) from (by simp)] at H
              rw [show (0 + (List.length x.Q) : Nat) = (List.length x.Q) from (by simp)] at H
              refine x_nil <| x_then <| z_next H [2, 3, 4, 5, 6, 7, 8, 9, 10, 11, 12, 13, 14, 15] [0, 1, 2, 3, 4, 5, 6, 7, 8, 9, 10, 11, 12, 13] rfl <| s_one 7 rfl (by kernel_rfl) rfl ?_
              clear H
              intro v43 H
              refine x_append H 1 (vr167) 108 72 2 16 (List.length x.Q) (.agg #[.int .i64 0, .int .i64 0]) (List.flatMap entL x.Q) ⟨g11, 0, none⟩ 2 2 [.int .i64 aq.1, .int .i64 aq.2, .int .i64 aq.1, .int .i64 aq.2] rfl (by kernel_rfl) (by kernel_rfl) rfl (by decide) (by decide) rfl (fun j u hj => by rw [add_none]; exact cellOf (H.blk 0 rfl) (by simpa using hj)) (List.all_eq_true.1 (by kernel_rfl)) (by have := hx.ql; unfold maxLen; omega) (by have := hx.ql; omega) (by kernel_rfl) rfl (by kernel_rfl) ?_
              clear H
              intro v44 g12 c12 hc12 H
              rw [show (((List.length x.Q) + 2) : Nat) = (List.length (x.Q ++ [aq, aq])) from (by simp)] at H ⊢
              rw [show (List.flatMap entL x.Q) ++ [.int .i64 aq.1, .int .i64 aq.2, .int .i64 aq.1, .int .i64 aq.2] = (List.flatMap entL (x.Q ++ [aq, aq])) from (by rw [List.flatMap_append]; rfl)] at H
              replace H := H.pk [1, 2, 3, 4, 5, 6, 7, 8, 9, 10, 11, 12, 13, 14, 15, 16]
              refine x_nil <| x_then <| z_next H [1, 2, 3, 4, 5, 6, 7, 8, 9, 10, 11, 12, 13, 14] [0, 1, 2, 3, 4, 5, 6, 7, 8, 9, 10, 11, 12, 13] rfl <| s_b [(8, .m)] 1 <| s_one 9 rfl (by kernel_rfl) rfl ?_
              clear H
              intro v45 H
              refine z_store H 15 9 [.slice (some ⟨g12, 0, none⟩) (List.length (x.Q ++ [aq, aq])) c12] (fun v46 H => ?_)
              refine x_nil <| x_then <| z_next H [1, 2, 3, 4, 5, 6, 7, 8, 9, 10, 11, 12, 13, 14] [0, 1, 2, 3, 4, 5, 6, 7, 8, 9, 10, 11, 12, 13] rfl <| s_done (by kernel_rfl) ?_
              clear H
              intro v47 H
              refine x_then ?_
              replace H := H.pk [1, 2, 3, 4, 5, 6, 7, 8, 9, 10, 13, 14, 15, 0]
              exact ⟨.slice (some ⟨g12, 0, none⟩) (List.length (x.Q ++ [aq, aq])) c12, _, frm_of, H⟩
          · skip
            clear H
            intro v48 H
            refine x_b H [.l 14 9] <| x_nil <| x_then <| z_next H [0, 1, 2, 3, 4, 5, 6, 7, 8, 9, 10, 11, 12, 13] [0, 1, 2, 3, 4, 5, 6, 7, 8, 9, 10, 11, 12, 13] rfl <| s_two 0 6 rfl rfl (by kernel_rfl) rfl rfl ?_ ?_
            · skip
              clear H
              intro v49 H
              refine x_box' H #[] 72 0 (by kernel_rfl) rfl (by kernel_rfl) ?_
              clear H
              intro v50 g13 H
              refine x_nil <| x_then <| z_next H [1, 2, 3, 4, 5, 6, 7, 8, 9, 10, 11, 12, 13, 14] [0, 1, 2, 3, 4, 5, 6, 7, 8, 9, 10, 11, 12, 13] rfl <| s_two 3 6 rfl rfl (by kernel_rfl) rfl rfl ?_ ?_
              · skip
                clear H
                intro v51 H
                replace H := H.row0 (sz := 2) 0 rfl
                replace H := hsCast H (L2 := [.row (.slice (some ⟨g13, 0, none⟩) 0 0) 72 2 0 (List.flatMap entL ([] : List Ent)), .blk rp #[.pointer (some ⟨p, 0, none⟩), .int .i64 x.j.1, .int .i64 x.j.2.1, .int .i64 x.j.2.2.1, .int .i64 x.j.2.2.2, .pointer (some ⟨q, 0, none⟩)] 133, .blk p #[.int .i64 r, .int .i64 s, .int .i64 b, .int .i64 o, .int .i64 c, .int .i64 y, .int .i64 z, .slice (some ⟨gl, 0, none⟩) sn cl, .slice (some ⟨gd, 0, none⟩) pg cd, .slice (some ⟨gs, 0, none⟩) ns cs, .int .i64 ((x.pu : Nat) : Int), .int .i64 ((x.ru : Nat) : Int)] 118, .row (.slice (some ⟨gl, 0, none⟩) sn cl) 3 1 sn (List.map (Value.int .i64) x.L), .row (.slice (some ⟨gd, 0, none⟩) pg cd) 4 1 pg (List.map Value.bool x.D), .row (.slice (some ⟨gs, 0, none⟩) ns cs) 3 1 ns (List.map (Value.int .i64) x.S), .blk q #[.slice (some ⟨gq, 0, none⟩) 256 cq, .int .i64 (ra : Int), .int .i64 (qn : Int)] 170, .row (.slice (some ⟨gq, 0, none⟩) 256 cq) 72 2 256 (List.flatMap entL ls), .row (zba) 3 1 sn (List.map (Value.int .i64) x.L), .row (zbb) 3 1 (List.length (deadL x.D pg)) (List.map (Value.int .i64) (deadL x.D pg)), .row (zbc) 3 1 (List.length (spL x.S)) (List.map (Value.int .i64) (spL x.S)), .row (zbd) 72 2 (List.length x.Q) (List.flatMap entL x.Q), .blk g3 #[.int .i64 aq.1, .int .i64 aq.2] 72, .blk g2 #[.int .i64 j.1, .int .i64 j.2.1, .int .i64 j.2.2.1, .int .i64 j.2.2.2] 77, .blk g1 #[.int .i64 r, .int .i64 s, .int .i64 b, .int .i64 o, .int .i64 c, .int .i64 y, .int .i64 z] 25, .blk g5 #[zba, zbb, zbc, .int .i64 ((x.pu : Nat) : Int), .int .i64 ((x.ru : Nat) : Int), .int .i64 x.j.1, .int .i64 x.j.2.1, .int .i64 x.j.2.2.1, .int .i64 x.j.2.2.2, zbd] 110]) (by kernel_rfl)
                refine x_appendSrc H 0 (.slice (some ⟨g13, 0, none⟩) 0 0) 108 72 2 16 0 (.agg #[.int .i64 0, .int .i64 0]) (List.flatMap entL ([] : List Ent)) (zbd) (List.length x.Q) (List.flatMap entL x.Q) rfl (src_row (H.ok 11 _ rfl : Go.World.ownsRow _ 0 72 2 _ _ _)) (by kernel_rfl) (by kernel_rfl) (by kernel_rfl) (by decide) (oneCellFlat entOne _) (by have := hx.ql; unfold maxLen; omega) (by have := hx.ql; omega) (by kernel_rfl) rfl (by kernel_rfl) ?_
                clear H
                intro v52 vr167 H
                rw [show (List.flatMap entL ([] : List Ent)) ++ (List.flatMap entL x.Q) = (List.flatMap entL x.Q) from (by simp)] at H
                rw [show (0 + (List.length x.Q) : Nat) = (List.length x.Q) from (by simp)] at H
                refine x_nil <| x_then <| z_next H [1, 2, 3, 4, 5, 6, 7, 8, 9, 10, 11, 12, 13, 14] [0, 1, 2, 3, 4, 5, 6, 7, 8, 9, 10, 11, 12, 13] rfl <| s_one 6 rfl (by kernel_rfl) rfl ?_
                clear H
                intro v53 H
                refine x_box' H #[.int .i64 aq.1, .int .i64 aq.2, .int .i64 aq.1, .int .i64 aq.2] 72 2 (by kernel_rfl) rfl (by kernel_rfl) ?_
                clear H
                intro v54 g14 H
                refine x_nil <| x_then <| z_next H [2, 3, 4, 5, 6, 7, 8, 9, 10, 11, 12, 13, 14, 15] [0, 1, 2, 3, 4, 5, 6, 7, 8, 9, 10, 11, 12, 13] rfl <| s_one 7 rfl (by kernel_rfl) rfl ?_
                clear H
                intro v55 H
                refine x_append H 1 (vr167) 108 72 2 16 (List.length x.Q) (.agg #[.int .i64 0, .int .i64 0]) (List.flatMap entL x.Q) ⟨g14, 0, none⟩ 2 2 [.int .i64 aq.1, .int .i64 aq.2, .int .i64 aq.1, .int .i64 aq.2] rfl (by kernel_rfl) (by kernel_rfl) rfl (by decide) (by decide) rfl (fun j u hj => by rw [add_none]; exact cellOf (H.blk 0 rfl) (by simpa using hj)) (List.all_eq_true.1 (by kernel_rfl)) (by have := hx.ql; unfold maxLen; omega) (by have := hx.ql; omega) (by kernel_rfl) rfl (by kernel_rfl) ?_
                clear H
                intro v56 g15 c15 hc15 H
                rw [show (((List.length x.Q) + 2) : Nat) = (List.length (x.Q ++ [aq, aq])) from (by simp)] at H ⊢
                rw [show (List.flatMap entL x.Q) ++ [.int .i64 aq.1, .int .i64 aq.2, .int .i64 aq.1, .int .i64 aq.2] = (List.flatMap entL (x.Q ++ [aq, aq])) from (by rw [List.flatMap_append]; rfl)] at H
                replace H := H.pk [1, 2, 3, 4, 5, 6, 7, 8, 9, 10, 11, 12, 13, 14, 15, 16]
                refine x_nil <| x_then <| z_next H [1, 2, 3, 4, 5, 6, 7, 8, 9, 10, 11, 12, 13, 14] [0, 1, 2, 3, 4, 5, 6, 7, 8, 9, 10, 11, 12, 13] rfl <| s_b [(8, .m)] 1 <| s_one 9 rfl (by kernel_rfl) rfl ?_
                clear H
                intro v57 H
                refine z_store H 15 9 [.slice (some ⟨g15, 0, none⟩) (List.length (x.Q ++ [aq, aq])) c15] (fun v58 H => ?_)
                refine x_nil <| x_then <| z_next H [1, 2, 3, 4, 5, 6, 7, 8, 9, 10, 11, 12, 13, 14] [0, 1, 2, 3, 4, 5, 6, 7, 8, 9, 10, 11, 12, 13] rfl <| s_done (by kernel_rfl) ?_
                clear H
                intro v59 H
                refine x_then ?_
                replace H := H.pk [1, 2, 3, 4, 5, 6, 7, 8, 9, 10, 13, 14, 15, 0]
                exact ⟨.slice (some ⟨g15, 0, none⟩) (List.length (x.Q ++ [aq, aq])) c15, _, frm_of, H⟩
              · skip
                clear H
                intro v60 H
                refine x_box' H #[.int .i64 aq.1, .int .i64 aq.2, .int .i64 aq.1, .int .i64 aq.2] 72 2 (by kernel_rfl) rfl (by kernel_rfl) ?_
                clear H
                intro v61 g16 H
                refine x_nil <| x_then <| z_next H [2, 3, 4, 5, 6, 7, 8, 9, 10, 11, 12, 13, 14, 15] [0, 1, 2, 3, 4, 5, 6, 7, 8, 9, 10, 11, 12, 13] rfl <| s_one 3 rfl (by kernel_rfl) rfl ?_
                clear H
                intro v62 H
                replace H := H.row0 (sz := 2) 1 rfl
                replace H := hsCast H (L2 := [.blk g16 #[.int .i64 aq.1, .int .i64 aq.2, .int .i64 aq.1, .int .i64 aq.2] 72, .row (.slice (some ⟨g13, 0, none⟩) 0 0) 72 2 0 (List.flatMap entL ([] : List Ent)), .blk rp #[.pointer (some ⟨p, 0, none⟩), .int .i64 x.j.1, .int .i64 x.j.2.1, .int .i64 x.j.2.2.1, .int .i64 x.j.2.2.2, .pointer (some ⟨q, 0, none⟩)] 133, .blk p #[.int .i64 r, .int .i64 s, .int .i64 b, .int .i64 o, .int .i64 c, .int .i64 y, .int .i64 z, .slice (some ⟨gl, 0, none⟩) sn cl, .slice (some ⟨gd, 0, none⟩) pg cd, .slice (some ⟨gs, 0, none⟩) ns cs, .int .i64 ((x.pu : Nat) : Int), .int .i64 ((x.ru : Nat) : Int)] 118, .row (.slice (some ⟨gl, 0, none⟩) sn cl) 3 1 sn (List.map (Value.int .i64) x.L), .row (.slice (some ⟨gd, 0, none⟩) pg cd) 4 1 pg (List.map Value.bool x.D), .row (.slice (some ⟨gs, 0, none⟩) ns cs) 3 1 ns (List.map (Value.int .i64) x.S), .blk q #[.slice (some ⟨gq, 0, none⟩) 256 cq, .int .i64 (ra : Int), .int .i64 (qn : Int)] 170, .row (.slice (some ⟨gq, 0, none⟩) 256 cq) 72 2 256 (List.flatMap entL ls), .row (zba) 3 1 sn (List.map (Value.int .i64) x.L), .row (zbb) 3 1 (List.length (deadL x.D pg)) (List.map (Value.int .i64) (deadL x.D pg)), .row (zbc) 3 1 (List.length (spL x.S)) (List.map (Value.int .i64) (spL x.S)), .row (zbd) 72 2 (List.length x.Q) (List.flatMap entL x.Q), .blk g3 #[.int .i64 aq.1, .int .i64 aq.2] 72, .blk g2 #[.int .i64 j.1, .int .i64 j.2.1, .int .i64 j.2.2.1, .int .i64 j.2.2.2] 77, .blk g1 #[.int .i64 r, .int .i64 s, .int .i64 b, .int .i64 o, .int .i64 c, .int .i64 y, .int .i64 z] 25, .blk g5 #[zba, zbb, zbc, .int .i64 ((x.pu : Nat) : Int), .int .i64 ((x.ru : Nat) : Int), .int .i64 x.j.1, .int .i64 x.j.2.1, .int .i64 x.j.2.2.1, .int .i64 x.j.2.2.2, zbd] 110]) (by kernel_rfl)
                refine x_appendSrc H 1 (.slice (some ⟨g13, 0, none⟩) 0 0) 108 72 2 16 0 (.agg #[.int .i64 0, .int .i64 0]) (List.flatMap entL ([] : List Ent)) (zbd) (List.length x.Q) (List.flatMap entL x.Q) rfl (src_row (H.ok 12 _ rfl : Go.World.ownsRow _ 0 72 2 _ _ _)) (by kernel_rfl) (by kernel_rfl) (by kernel_rfl) (by decide) (oneCellFlat entOne _) (by have := hx.ql; unfold maxLen; omega) (by have := hx.ql; omega) (by kernel_rfl) rfl (by kernel_rfl) ?_
                clear H
                intro v63 vr167 H
                rw [show (List.flatMap entL ([] : List Ent)) ++ (List.flatMap entL x.Q) = (List.flatMap entL x.Q) from (by simp)] at H
                rw [show (0 + (List.length x.Q) : Nat) = (List.length x.Q) from (by simp)] at H
                refine x_nil <| x_then <| z_next H [2, 3, 4, 5, 6, 7, 8, 9, 10, 11, 12, 13, 14, 15] [0, 1, 2, 3, 4, 5, 6, 7, 8, 9, 10, 11, 12, 13] rfl <| s_one 7 rfl (by kernel_rfl) rfl ?_
                clear H
                intro v64 H
                refine x_append H 1 (vr167) 108 72 2 16 (List.length x.Q) (.agg #[.int .i64 0, .int .i64 0]) (List.flatMap entL x.Q) ⟨g16, 0, none⟩ 2 2 [.int .i64 aq.1, .int .i64 aq.2, .int .i64 aq.1, .int .i64 aq.2] rfl (by kernel_rfl) (by kernel_rfl) rfl (by decide) (by decide) rfl (fun j u hj => by rw [add_none]; exact cellOf (H.blk 0 rfl) (by simpa using hj)) (List.all_eq_true.1 (by kernel_rfl)) (by have := hx.ql; unfold maxLen; omega) (by have := hx.ql; omega) (by kernel_rfl) rfl (by kernel_rfl) ?_
                clear H
                intro v65 g17 c17 hc17 H
                rw [show (((List.length x.Q) + 2) : Nat) = (List.length (x.Q ++ [aq, aq])) from (by simp)] at H ⊢
                rw [show (List.flatMap entL x.Q) ++ [.int .i64 aq.1, .int .i64 aq.2, .int .i64 aq.1, .int .i64 aq.2] = (List.flatMap entL (x.Q ++ [aq, aq])) from (by rw [List.flatMap_append]; rfl)] at H
                replace H := H.pk [1, 2, 3, 4, 5, 6, 7, 8, 9, 10, 11, 12, 13, 14, 15, 16]
                refine x_nil <| x_then <| z_next H [1, 2, 3, 4, 5, 6, 7, 8, 9, 10, 11, 12, 13, 14] [0, 1, 2, 3, 4, 5, 6, 7, 8, 9, 10, 11, 12, 13] rfl <| s_b [(8, .m)] 1 <| s_one 9 rfl (by kernel_rfl) rfl ?_
                clear H
                intro v66 H
                refine z_store H 15 9 [.slice (some ⟨g17, 0, none⟩) (List.length (x.Q ++ [aq, aq])) c17] (fun v67 H => ?_)
                refine x_nil <| x_then <| z_next H [1, 2, 3, 4, 5, 6, 7, 8, 9, 10, 11, 12, 13, 14] [0, 1, 2, 3, 4, 5, 6, 7, 8, 9, 10, 11, 12, 13] rfl <| s_done (by kernel_rfl) ?_
                clear H
                intro v68 H
                refine x_then ?_
                replace H := H.pk [1, 2, 3, 4, 5, 6, 7, 8, 9, 10, 13, 14, 15, 0]
                exact ⟨.slice (some ⟨g17, 0, none⟩) (List.length (x.Q ++ [aq, aq])) c17, _, frm_of, H⟩
            · skip
              clear H
              intro v69 H
              refine x_box' H #[.int .i64 aq.1, .int .i64 aq.2, .int .i64 aq.1, .int .i64 aq.2] 72 2 (by kernel_rfl) rfl (by kernel_rfl) ?_
              clear H
              intro v70 g18 H
              refine x_nil <| x_then <| z_next H [1, 2, 3, 4, 5, 6, 7, 8, 9, 10, 11, 12, 13, 14] [0, 1, 2, 3, 4, 5, 6, 7, 8, 9, 10, 11, 12, 13] rfl <| s_one 0 rfl (by kernel_rfl) rfl ?_
              clear H
              intro v71 H
              refine x_box' H #[] 72 0 (by kernel_rfl) rfl (by kernel_rfl) ?_
              clear H
              intro v72 g19 H
              refine x_nil <| x_then <| z_next H [2, 3, 4, 5, 6, 7, 8, 9, 10, 11, 12, 13, 14, 15] [0, 1, 2, 3, 4, 5, 6, 7, 8, 9, 10, 11, 12, 13] rfl <| s_one 3 rfl (by kernel_rfl) rfl ?_
              clear H
              intro v73 H
              replace H := H.row0 (sz := 2) 0 rfl
              replace H := hsCast H (L2 := [.row (.slice (some ⟨g19, 0, none⟩) 0 0) 72 2 0 (List.flatMap entL ([] : List Ent)), .blk g18 #[.int .i64 aq.1, .int .i64 aq.2, .int .i64 aq.1, .int .i64 aq.2] 72, .blk rp #[.pointer (some ⟨p, 0, none⟩), .int .i64 x.j.1, .int .i64 x.j.2.1, .int .i64 x.j.2.2.1, .int .i64 x.j.2.2.2, .pointer (some ⟨q, 0, none⟩)] 133, .blk p #[.int .i64 r, .int .i64 s, .int .i64 b, .int .i64 o, .int .i64 c, .int .i64 y, .int .i64 z, .slice (some ⟨gl, 0, none⟩) sn cl, .slice (some ⟨gd, 0, none⟩) pg cd, .slice (some ⟨gs, 0, none⟩) ns cs, .int .i64 ((x.pu : Nat) : Int), .int .i64 ((x.ru : Nat) : Int)] 118, .row (.slice (some ⟨gl, 0, none⟩) sn cl) 3 1 sn (List.map (Value.int .i64) x.L), .row (.slice (some ⟨gd, 0, none⟩) pg cd) 4 1 pg (List.map Value.bool x.D), .row (.slice (some ⟨gs, 0, none⟩) ns cs) 3 1 ns (List.map (Value.int .i64) x.S), .blk q #[.slice (some ⟨gq, 0, none⟩) 256 cq, .int .i64 (ra : Int), .int .i64 (qn : Int)] 170, .row (.slice (some ⟨gq, 0, none⟩) 256 cq) 72 2 256 (List.flatMap entL ls), .row (zba) 3 1 sn (List.map (Value.int .i64) x.L), .row (zbb) 3 1 (List.length (deadL x.D pg)) (List.map (Value.int .i64) (deadL x.D pg)), .row (zbc) 3 1 (List.length (spL x.S)) (List.map (Value.int .i64) (spL x.S)), .row (zbd) 72 2 (List.length x.Q) (List.flatMap entL x.Q), .blk g3 #[.int .i64 aq.1, .int .i64 aq.2] 72, .blk g2 #[.int .i64 j.1, .int .i64 j.2.1, .int .i64 j.2.2.1, .int .i64 j.2.2.2] 77, .blk g1 #[.int .i64 r, .int .i64 s, .int .i64 b, .int .i64 o, .int .i64 c, .int .i64 y, .int .i64 z] 25, .blk g5 #[zba, zbb, zbc, .int .i64 ((x.pu : Nat) : Int), .int .i64 ((x.ru : Nat) : Int), .int .i64 x.j.1, .int .i64 x.j.2.1, .int .i64 x.j.2.2.1, .int .i64 x.j.2.2.2, zbd] 110]) (by kernel_rfl)
              refine x_appendSrc H 0 (.slice (some ⟨g19, 0, none⟩) 0 0) 108 72 2 16 0 (.agg #[.int .i64 0, .int .i64 0]) (List.flatMap entL ([] : List Ent)) (zbd) (List.length x.Q) (List.flatMap entL x.Q) rfl (src_row (H.ok 12 _ rfl : Go.World.ownsRow _ 0 72 2 _ _ _)) (by kernel_rfl) (by kernel_rfl) (by kernel_rfl) (by decide) (oneCellFlat entOne _) (by have := hx.ql; unfold maxLen; omega) (by have := hx.ql; omega) (by kernel_rfl) rfl (by kernel_rfl) ?_
              clear H
              intro v74 vr167 H
              rw [show (List.flatMap entL ([] : List Ent)) ++ (List.flatMap entL x.Q) = (List.flatMap entL x.Q) from (by simp)] at H
              rw [show (0 + (List.length x.Q) : Nat) = (List.length x.Q) from (by simp)] at H
              refine x_nil <| x_then <| z_next H [2, 3, 4, 5, 6, 7, 8, 9, 10, 11, 12, 13, 14, 15] [0, 1, 2, 3, 4, 5, 6, 7, 8, 9, 10, 11, 12, 13] rfl <| s_one 7 rfl (by kernel_rfl) rfl ?_
              clear H
              intro v75 H
              refine x_append H 0 (vr167) 108 72 2 16 (List.length x.Q) (.agg #[.int .i64 0, .int .i64 0]) (List.flatMap entL x.Q) ⟨g18, 0, none⟩ 2 2 [.int .i64 aq.1, .int .i64 aq.2, .int .i64 aq.1, .int .i64 aq.2] rfl (by kernel_rfl) (by kernel_rfl) rfl (by decide) (by decide) rfl (fun j u hj => by rw [add_none]; exact cellOf (H.blk 1 rfl) (by simpa using hj)) (List.all_eq_true.1 (by kernel_rfl)) (by have := hx.ql; unfold maxLen; omega) (by have := hx.ql; omega) (by kernel_rfl) rfl (by kernel_rfl) ?_
              clear H
              intro v76 g20 c20 hc20 H
              rw [show (((List.length x.Q) + 2) : Nat) = (List.length (x.Q ++ [aq, aq])) from (by simp)] at H ⊢
              rw [show (List.flatMap entL x.Q) ++ [.int .i64 aq.1, .int .i64 aq.2, .int .i64 aq.1, .int .i64 aq.2] = (List.flatMap entL (x.Q ++ [aq, aq])) from (by rw [List.flatMap_append]; rfl)] at H
              replace H := H.pk [0, 2, 3, 4, 5, 6, 7, 8, 9, 10, 11, 12, 13, 14, 15, 16]
              refine x_nil <| x_then <| z_next H [1, 2, 3, 4, 5, 6, 7, 8, 9, 10, 11, 12, 13, 14] [0, 1, 2, 3, 4, 5, 6, 7, 8, 9, 10, 11, 12, 13] rfl <| s_b [(8, .m)] 1 <| s_one 9 rfl (by kernel_rfl) rfl ?_
              clear H
              intro v77 H
              refine z_store H 15 9 [.slice (some ⟨g20, 0, none⟩) (List.length (x.Q ++ [aq, aq])) c20] (fun v78 H => ?_)
              refine x_nil <| x_then <| z_next H [1, 2, 3, 4, 5, 6, 7, 8, 9, 10, 11, 12, 13, 14] [0, 1, 2, 3, 4, 5, 6, 7, 8, 9, 10, 11, 12, 13] rfl <| s_done (by kernel_rfl) ?_
              clear H
              intro v79 H
              refine x_then ?_
              replace H := H.pk [1, 2, 3, 4, 5, 6, 7, 8, 9, 10, 13, 14, 15, 0]
              exact ⟨.slice (some ⟨g20, 0, none⟩) (List.length (x.Q ++ [aq, aq])) c20, _, frm_of, H⟩
          · skip
            clear H
            intro v80 H
            refine x_box' H #[.int .i64 aq.1, .int .i64 aq.2, .int .i64 aq.1, .int .i64 aq.2] 72 2 (by kernel_rfl) rfl (by kernel_rfl) ?_
            clear H
            intro v81 g21 H
            refine x_nil <| x_then <| z_next H [1, 2, 3, 4, 5, 6, 7, 8, 9, 10, 11, 12, 13, 14] [0, 1, 2, 3, 4, 5, 6, 7, 8, 9, 10, 11, 12, 13] rfl <| s_two 0 2 rfl rfl (by kernel_rfl) rfl rfl ?_ ?_
            · skip
              clear H
              intro v82 H
              refine x_box' H #[] 72 0 (by kernel_rfl) rfl (by kernel_rfl) ?_
              clear H
              intro v83 g22 H
              refine x_nil <| x_then <| z_next H [2, 3, 4, 5, 6, 7, 8, 9, 10, 11, 12, 13, 14, 15] [0, 1, 2, 3, 4, 5, 6, 7, 8, 9, 10, 11, 12, 13] rfl <| s_one 2 rfl (by kernel_rfl) rfl ?_
              clear H
              intro v84 H
              refine x_b H [.l 16 9] <| x_nil <| x_then <| z_next H [2, 3, 4, 5, 6, 7, 8, 9, 10, 11, 12, 13, 14, 15] [0, 1, 2, 3, 4, 5, 6, 7, 8, 9, 10, 11, 12, 13] rfl <| s_one 3 rfl (by kernel_rfl) rfl ?_
              clear H
              intro v85 H
              replace H := H.row0 (sz := 2) 0 rfl
              replace H := hsCast H (L2 := [.row (.slice (some ⟨g22, 0, none⟩) 0 0) 72 2 0 (List.flatMap entL ([] : List Ent)), .blk g21 #[.int .i64 aq.1, .int .i64 aq.2, .int .i64 aq.1, .int .i64 aq.2] 72, .blk rp #[.pointer (some ⟨p, 0, none⟩), .int .i64 x.j.1, .int .i64 x.j.2.1, .int .i64 x.j.2.2.1, .int .i64 x.j.2.2.2, .pointer (some ⟨q, 0, none⟩)] 133, .blk p #[.int .i64 r, .int .i64 s, .int .i64 b, .int .i64 o, .int .i64 c, .int .i64 y, .int .i64 z, .slice (some ⟨gl, 0, none⟩) sn cl, .slice (some ⟨gd, 0, none⟩) pg cd, .slice (some ⟨gs, 0, none⟩) ns cs, .int .i64 ((x.pu : Nat) : Int), .int .i64 ((x.ru : Nat) : Int)] 118, .row (.slice (some ⟨gl, 0, none⟩) sn cl) 3 1 sn (List.map (Value.int .i64) x.L), .row (.slice (some ⟨gd, 0, none⟩) pg cd) 4 1 pg (List.map Value.bool x.D), .row (.slice (some ⟨gs, 0, none⟩) ns cs) 3 1 ns (List.map (Value.int .i64) x.S), .blk q #[.slice (some ⟨gq, 0, none⟩) 256 cq, .int .i64 (ra : Int), .int .i64 (qn : Int)] 170, .row (.slice (some ⟨gq, 0, none⟩) 256 cq) 72 2 256 (List.flatMap entL ls), .row (zba) 3 1 sn (List.map (Value.int .i64) x.L), .row (zbb) 3 1 (List.length (deadL x.D pg)) (List.map (Value.int .i64) (deadL x.D pg)), .row (zbc) 3 1 (List.length (spL x.S)) (List.map (Value.int .i64) (spL x.S)), .row (zbd) 72 2 (List.length x.Q) (List.flatMap entL x.Q), .blk g3 #[.int .i64 aq.1, .int .i64 aq.2] 72, .blk g2 #[.int .i64 j.1, .int .i64 j.2.1, .int .i64 j.2.2.1, .int .i64 j.2.2.2] 77, .blk g1 #[.int .i64 r, .int .i64 s, .int .i64 b, .int .i64 o, .int .i64 c, .int .i64 y, .int .i64 z] 25, .blk g5 #[zba, zbb, zbc, .int .i64 ((x.pu : Nat) : Int), .int .i64 ((x.ru : Nat) : Int), .int .i64 x.j.1, .int .i64 x.j.2.1, .int .i64 x.j.2.2.1, .int .i64 x.j.2.2.2, zbd] 110]) (by kernel_rfl)
              refine x_appendSrc H 0 (.slice (some ⟨g22, 0, none⟩) 0 0) 108 72 2 16 0 (.agg #[.int .i64 0, .int .i64 0]) (List.flatMap entL ([] : List Ent)) (zbd) (List.length x.Q) (List.flatMap entL x.Q) rfl (src_row (H.ok 12 _ rfl : Go.World.ownsRow _ 0 72 2 _ _ _)) (by kernel_rfl) (by kernel_rfl) (by kernel_rfl) (by decide) (oneCellFlat entOne _) (by have := hx.ql; unfold maxLen; omega) (by have := hx.ql; omega) (by kernel_rfl) rfl (by kernel_rfl) ?_
              clear H
              intro v86 vr167 H
              rw [show (List.flatMap entL ([] : List Ent)) ++ (List.flatMap entL x.Q) = (List.flatMap entL x.Q) from (by simp)] at H
              rw [show (0 + (List.length x.Q) : Nat) = (List.length x.Q) from (by simp)] at H
              refine x_nil <| x_then <| z_next H [2, 3, 4, 5, 6, 7, 8, 9, 10, 11, 12, 13, 14, 15] [0, 1, 2, 3, 4, 5, 6, 7, 8, 9, 10, 11, 12, 13] rfl <| s_one 7 rfl (by kernel_rfl) rfl ?_
              clear H
              intro v87 H
              refine x_append H 0 (vr167) 108 72 2 16 (List.length x.Q) (.agg #[.int .i64 0, .int .i64 0]) (List.flatMap entL x.Q) ⟨g21, 0, none⟩ 2 2 [.int .i64 aq.1, .int .i64 aq.2, .int .i64 aq.1, .int .i64 aq.2] rfl (by kernel_rfl) (by kernel_rfl) rfl (by decide) (by decide) rfl (fun j u hj => by rw [add_none]; exact cellOf (H.blk 1 rfl) (by simpa using hj)) (List.all_eq_true.1 (by kernel_rfl)) (by have := hx.ql; unfold maxLen; omega) (by have := hx.ql; omega) (by kernel_rfl) rfl (by kernel_rfl) ?_
              clear H
              intro v88 g23 c23 hc23 H
              rw [show (((List.length x.Q) + 2) : Nat) = (List.length (x.Q ++ [aq, aq])) from (by simp)] at H ⊢
              rw [show (List.flatMap entL x.Q) ++ [.int .i64 aq.1, .int .i64 aq.2, .int .i64 aq.1, .int .i64 aq.2] = (List.flatMap entL (x.Q ++ [aq, aq])) from (by rw [List.flatMap_append]; rfl)] at H
              replace H := H.pk [0, 2, 3, 4, 5, 6, 7, 8, 9, 10, 11, 12, 13, 14, 15, 16]
              refine x_nil <| x_then <| z_next H [1, 2, 3, 4, 5, 6, 7, 8, 9, 10, 11, 12, 13, 14] [0, 1, 2, 3, 4, 5, 6, 7, 8, 9, 10, 11, 12, 13] rfl <| s_b [(8, .m)] 1 <| s_one 9 rfl (by kernel_rfl) rfl ?_
              clear H
              intro v89 H
              refine z_store H 15 9 [.slice (some ⟨g23, 0, none⟩) (List.length (x.Q ++ [aq, aq])) c23] (fun v90 H => ?_)
              refine x_nil <| x_then <| z_next H [1, 2, 3, 4, 5, 6, 7, 8, 9, 10, 11, 12, 13, 14] [0, 1, 2, 3, 4, 5, 6, 7, 8, 9, 10, 11, 12, 13] rfl <| s_done (by kernel_rfl) ?_
              clear H
              intro v91 H
              refine x_then ?_
              replace H := H.pk [1, 2, 3, 4, 5, 6, 7, 8, 9, 10, 13, 14, 15, 0]
              exact ⟨.slice (some ⟨g23, 0, none⟩) (List.length (x.Q ++ [aq, aq])) c23, _, frm_of, H⟩
            · skip
              clear H
              intro v92 H
              refine x_b H [.l 15 9] <| x_nil <| x_then <| z_next H [1, 2, 3, 4, 5, 6, 7, 8, 9, 10, 11, 12, 13, 14] [0, 1, 2, 3, 4, 5, 6, 7, 8, 9, 10, 11, 12, 13] rfl <| s_one 0 rfl (by kernel_rfl) rfl ?_
              clear H
              intro v93 H
              refine x_box' H #[] 72 0 (by kernel_rfl) rfl (by kernel_rfl) ?_
              clear H
              intro v94 g24 H
              refine x_nil <| x_then <| z_next H [2, 3, 4, 5, 6, 7, 8, 9, 10, 11, 12, 13, 14, 15] [0, 1, 2, 3, 4, 5, 6, 7, 8, 9, 10, 11, 12, 13] rfl <| s_one 3 rfl (by kernel_rfl) rfl ?_
              clear H
              intro v95 H
              replace H := H.row0 (sz := 2) 0 rfl
              replace H := hsCast H (L2 := [.row (.slice (some ⟨g24, 0, none⟩) 0 0) 72 2 0 (List.flatMap entL ([] : List Ent)), .blk g21 #[.int .i64 aq.1, .int .i64 aq.2, .int .i64 aq.1, .int .i64 aq.2] 72, .blk rp #[.pointer (some ⟨p, 0, none⟩), .int .i64 x.j.1, .int .i64 x.j.2.1, .int .i64 x.j.2.2.1, .int .i64 x.j.2.2.2, .pointer (some ⟨q, 0, none⟩)] 133, .blk p #[.int .i64 r, .int .i64 s, .int .i64 b, .int .i64 o, .int .i64 c, .int .i64 y, .int .i64 z, .slice (some ⟨gl, 0, none⟩) sn cl, .slice (some ⟨gd, 0, none⟩) pg cd, .slice (some ⟨gs, 0, none⟩) ns cs, .int .i64 ((x.pu : Nat) : Int), .int .i64 ((x.ru : Nat) : Int)] 118, .row (.slice (some ⟨gl, 0, none⟩) sn cl) 3 1 sn (List.map (Value.int .i64) x.L), .row (.slice (some ⟨gd, 0, none⟩) pg cd) 4 1 pg (List.map Value.bool x.D), .row (.slice (some ⟨gs, 0, none⟩) ns cs) 3 1 ns (List.map (Value.int .i64) x.S), .blk q #[.slice (some ⟨gq, 0, none⟩) 256 cq, .int .i64 (ra : Int), .int .i64 (qn : Int)] 170, .row (.slice (some ⟨gq, 0, none⟩) 256 cq) 72 2 256 (List.flatMap entL ls), .row (zba) 3 1 sn (List.map (Value.int .i64) x.L), .row (zbb) 3 1 (List.length (deadL x.D pg)) (List.map (Value.int .i64) (deadL x.D pg)), .row (zbc) 3 1 (List.length (spL x.S)) (List.map (Value.int .i64) (spL x.S)), .row (zbd) 72 2 (List.length x.Q) (List.flatMap entL x.Q), .blk g3 #[.int .i64 aq.1, .int .i64 aq.2] 72, .blk g2 #[.int .i64 j.1, .int .i64 j.2.1, .int .i64 j.2.2.1, .int .i64 j.2.2.2] 77, .blk g1 #[.int .i64 r, .int .i64 s, .int .i64 b, .int .i64 o, .int .i64 c, .int .i64 y, .int .i64 z] 25, .blk g5 #[zba, zbb, zbc, .int .i64 ((x.pu : Nat) : Int), .int .i64 ((x.ru : Nat) : Int), .int .i64 x.j.1, .int .i64 x.j.2.1, .int .i64 x.j.2.2.1, .int .i64 x.j.2.2.2, zbd] 110]) (by kernel_rfl)
              refine x_appendSrc H 0 (.slice (some ⟨g24, 0, none⟩) 0 0) 108 72 2 16 0 (.agg #[.int .i64 0, .int .i64 0]) (List.flatMap entL ([] : List Ent)) (zbd) (List.length x.Q) (List.flatMap entL x.Q) rfl (src_row (H.ok 12 _ rfl : Go.World.ownsRow _ 0 72 2 _ _ _)) (by kernel_rfl) (by kernel_rfl) (by kernel_rfl) (by decide) (oneCellFlat entOne _) (by have := hx.ql; unfold maxLen; omega) (by have := hx.ql; omega) (by kernel_rfl) rfl (by kernel_rfl) ?_
              clear H
              intro v96 vr167 H
              rw [show (List.flatMap entL ([] : List Ent)) ++ (List.flatMap entL x.Q) = (List.flatMap entL x.Q) from (by simp)] at H
              rw [show (0 + (List.length x.Q) : Nat) = (List.length x.Q) from (by simp)] at H
              refine x_nil <| x_then <| z_next H [2, 3, 4, 5, 6, 7, 8, 9, 10, 11, 12, 13, 14, 15] [0, 1, 2, 3, 4, 5, 6, 7, 8, 9, 10, 11, 12, 13] rfl <| s_one 7 rfl (by kernel_rfl) rfl ?_
              clear H
              intro v97 H
              refine x_append H 0 (vr167) 108 72 2 16 (List.length x.Q) (.agg #[.int .i64 0, .int .i64 0]) (List.flatMap entL x.Q) ⟨g21, 0, none⟩ 2 2 [.int .i64 aq.1, .int .i64 aq.2, .int .i64 aq.1, .int .i64 aq.2] rfl (by kernel_rfl) (by kernel_rfl) rfl (by decide) (by decide) rfl (fun j u hj => by rw [add_none]; exact cellOf (H.blk 1 rfl) (by simpa using hj)) (List.all_eq_true.1 (by kernel_rfl)) (by have := hx.ql; unfold maxLen; omega) (by have := hx.ql; omega) (by kernel_rfl) rfl (by kernel_rfl) ?_
              clear H
              intro v98 g25 c25 hc25 H
              rw [show (((List.length x.Q) + 2) : Nat) = (List.length (x.Q ++ [aq, aq])) from (by simp)] at H ⊢
              rw [show (List.flatMap entL x.Q) ++ [.int .i64 aq.1, .int .i64 aq.2, .int .i64 aq.1, .int .i64 aq.2] = (List.flatMap entL (x.Q ++ [aq, aq])) from (by rw [List.flatMap_append]; rfl)] at H
              replace H := H.pk [0, 2, 3, 4, 5, 6, 7, 8, 9, 10, 11, 12, 13, 14, 15, 16]
              refine x_nil <| x_then <| z_next H [1, 2, 3, 4, 5, 6, 7, 8, 9, 10, 11, 12, 13, 14] [0, 1, 2, 3, 4, 5, 6, 7, 8, 9, 10, 11, 12, 13] rfl <| s_b [(8, .m)] 1 <| s_one 9 rfl (by kernel_rfl) rfl ?_
              clear H
              intro v99 H
              refine z_store H 15 9 [.slice (some ⟨g25, 0, none⟩) (List.length (x.Q ++ [aq, aq])) c25] (fun v100 H => ?_)
              refine x_nil <| x_then <| z_next H [1, 2, 3, 4, 5, 6, 7, 8, 9, 10, 11, 12, 13, 14] [0, 1, 2, 3, 4, 5, 6, 7, 8, 9, 10, 11, 12, 13] rfl <| s_done (by kernel_rfl) ?_
              clear H
              intro v101 H
              refine x_then ?_
              replace H := H.pk [1, 2, 3, 4, 5, 6, 7, 8, 9, 10, 13, 14, 15, 0]
              exact ⟨.slice (some ⟨g25, 0, none⟩) (List.length (x.Q ++ [aq, aq])) c25, _, frm_of, H⟩
        · skip
          clear H
          rintro _ v102 ⟨wv, uf3, rfl, H⟩
          refine x_then <| x_seq <| x_region <| x_b H [.n 11 0 7 25, .n 12 0 10 110] ?_
          have esp3 : (List.length (spL x.S)) = ns := by unfold spL; rw [List.length_map]; exact hx.v.m.hS
          rw [esp3] at H
          replace H := hsCast H (L2 := [.blk rp #[.pointer (some ⟨p, 0, none⟩), .int .i64 x.j.1, .int .i64 x.j.2.1, .int .i64 x.j.2.2.1, .int .i64 x.j.2.2.2, .pointer (some ⟨q, 0, none⟩)] 133, .blk p #[.int .i64 r, .int .i64 s, .int .i64 b, .int .i64 o, .int .i64 c, .int .i64 y, .int .i64 z, .slice (some ⟨gl, 0, none⟩) sn cl, .slice (some ⟨gd, 0, none⟩) pg cd, .slice (some ⟨gs, 0, none⟩) ns cs, .int .i64 ((x.pu : Nat) : Int), .int .i64 ((x.ru : Nat) : Int)] 118, .row (.slice (some ⟨gl, 0, none⟩) sn cl) 3 1 sn (List.map (Value.int .i64) x.L), .row (.slice (some ⟨gd, 0, none⟩) pg cd) 4 1 pg (List.map Value.bool x.D), .row (.slice (some ⟨gs, 0, none⟩) ns cs) 3 1 ns (List.map (Value.int .i64) x.S), .blk q #[.slice (some ⟨gq, 0, none⟩) 256 cq, .int .i64 (ra : Int), .int .i64 (qn : Int)] 170, .row (.slice (some ⟨gq, 0, none⟩) 256 cq) 72 2 256 (List.flatMap entL ls), .row (zba) 3 1 sn (List.map (Value.int .i64) x.L), .row (zbb) 3 1 (List.length (deadL x.D pg)) (List.map (Value.int .i64) (deadL x.D pg)), .row (zbc) 3 1 ns (List.map (Value.int .i64) (spL x.S)), .blk g2 #[.int .i64 j.1, .int .i64 j.2.1, .int .i64 j.2.2.1, .int .i64 j.2.2.2] 77, .blk g1 #[.int .i64 r, .int .i64 s, .int .i64 b, .int .i64 o, .int .i64 c, .int .i64 y, .int .i64 z] 25, .blk g5 #[zba, zbb, zbc, .int .i64 ((x.pu : Nat) : Int), .int .i64 ((x.ru : Nat) : Int), .int .i64 x.j.1, .int .i64 x.j.2.1, .int .i64 x.j.2.2.1, .int .i64 x.j.2.2.2, wv] 110, .row (wv) 72 2 (List.length (x.Q ++ [aq, aq])) (List.flatMap entL (x.Q ++ [aq, aq]))]) (by kernel_rfl)
          obtain ⟨aL3, cL3, e_aL3, hIL3⟩ := intsRow (H.ok 7 _ rfl : World.ownsRow _ 0 _ 1 _ _ _)
          subst e_aL3
          obtain ⟨aD3, cD3, e_aD3, hID3⟩ := intsRow (H.ok 8 _ rfl : World.ownsRow _ 0 _ 1 _ _ _)
          subst e_aD3
          obtain ⟨aS3, cS3, e_aS3, hIS3⟩ := intsRow (H.ok 9 _ rfl : World.ownsRow _ 0 _ 1 _ _ _)
          subst e_aS3
          obtain ⟨aQ3, cQ3, e_aQ3, hAQ3⟩ := RAt.ofRow (f := entL) (d := ((0, 0) : Ent)) entLen (H.ok 13 _ rfl : World.ownsRow _ 0 _ 2 _ _ _) rfl
          subst e_aQ3
          refine z_callB (v := .tuple #[.pointer none, .int .i64 10]) H (Rst_dup hL hx.v hx.liv x.j (by omega) aL3 aD3 aS3 aQ3 cL3 cD3 cS3 (List.length (x.Q ++ [aq, aq])) cQ3 (hx.fit hL) _ hIL3 hID3 hIS3 (x.Q ++ [aq, aq]) rfl hAQ3 (by have := hx.ql; simp; omega) (fun hn => not_nodup_two hn.1)) fun v103 H => x_b H [.m, .m, .m, .m, .m] <| x_nil <| x_then <| x_seq <| x_region <| x_b H [.m, .m, .m] ?_
          refine x_nil <| x_then <| x_retc <| x_ret (.bool true) (by kernel_rfl) (by kernel_rfl) ?_
          exact ⟨rfl, H.below⟩
      · skip
        refine x_seq <| x_region <| x_b H [.n 19 0 7 25, .n 0 0 10 110] ?_
        have esp1 : (List.length (spL x.S)) = ns := by unfold spL; rw [List.length_map]; exact hx.v.m.hS
        rw [esp1] at H
        replace H := hsCast H (L2 := [.blk g5 #[zaa, zab, zac, .int .i64 ((x.pu : Nat) : Int), .int .i64 ((x.ru : Nat) : Int), .int .i64 j.1, .int .i64 j.2.1, .int .i64 j.2.2.1, .int .i64 j.2.2.2, zad] 110, .blk rp #[.pointer (some ⟨p, 0, none⟩), .int .i64 x.j.1, .int .i64 x.j.2.1, .int .i64 x.j.2.2.1, .int .i64 x.j.2.2.2, .pointer (some ⟨q, 0, none⟩)] 133, .blk p #[.int .i64 r, .int .i64 s, .int .i64 b, .int .i64 o, .int .i64 c, .int .i64 y, .int .i64 z, .slice (some ⟨gl, 0, none⟩) sn cl, .slice (some ⟨gd, 0, none⟩) pg cd, .slice (some ⟨gs, 0, none⟩) ns cs, .int .i64 ((x.pu : Nat) : Int), .int .i64 ((x.ru : Nat) : Int)] 118, .row (.slice (some ⟨gl, 0, none⟩) sn cl) 3 1 sn (List.map (Value.int .i64) x.L), .row (.slice (some ⟨gd, 0, none⟩) pg cd) 4 1 pg (List.map Value.bool x.D), .row (.slice (some ⟨gs, 0, none⟩) ns cs) 3 1 ns (List.map (Value.int .i64) x.S), .blk q #[.slice (some ⟨gq, 0, none⟩) 256 cq, .int .i64 (ra : Int), .int .i64 (qn : Int)] 170, .row (.slice (some ⟨gq, 0, none⟩) 256 cq) 72 2 256 (List.flatMap entL ls), .row (zaa) 3 1 sn (List.map (Value.int .i64) x.L), .row (zab) 3 1 (List.length (deadL x.D pg)) (List.map (Value.int .i64) (deadL x.D pg)), .row (zac) 3 1 ns (List.map (Value.int .i64) (spL x.S)), .row (zad) 72 2 (List.length x.Q) (List.flatMap entL x.Q), .row (lv) 3 1 pg (List.map (Value.int .i64) (layL y r b o pg)), .row (g.pv) 156 2 (List.length g.Pg) (List.flatMap entL g.Pg), .row (g.kv) 156 2 (List.length g.Rk) (List.flatMap entL g.Rk), .row (g.fv) 147 2 (List.length g.F) (List.flatMap entL g.F), .blk g4 #[.int .i64 r, .int .i64 s, .int .i64 b, .int .i64 o, .int .i64 c, .int .i64 y, .int .i64 z, lv, g.pv, g.kv, .int .i64 ((x.pu : Nat) : Int), .int .i64 ((x.ru : Nat) : Int), .int .i64 x.j.1, .int .i64 x.j.2.1, .int .i64 x.j.2.2.1, .int .i64 x.j.2.2.2, .slice g.ad g.n g.c] 68, .blk g3 #[.int .i64 aq.1, .int .i64 aq.2] 72, .blk g2 #[.int .i64 j.1, .int .i64 j.2.1, .int .i64 j.2.2.1, .int .i64 j.2.2.2] 77, .blk g1 #[.int .i64 r, .int .i64 s, .int .i64 b, .int .i64 o, .int .i64 c, .int .i64 y, .int .i64 z] 25]) (by kernel_rfl)
        obtain ⟨aL1, cL1, e_aL1, hIL1⟩ := intsRow (H.ok 8 _ rfl : World.ownsRow _ 0 _ 1 _ _ _)
        subst e_aL1
        obtain ⟨aD1, cD1, e_aD1, hID1⟩ := intsRow (H.ok 9 _ rfl : World.ownsRow _ 0 _ 1 _ _ _)
        subst e_aD1
        obtain ⟨aS1, cS1, e_aS1, hIS1⟩ := intsRow (H.ok 10 _ rfl : World.ownsRow _ 0 _ 1 _ _ _)
        subst e_aS1
        obtain ⟨aQ1, cQ1, e_aQ1, hAQ1⟩ := RAt.ofRow (f := entL) (d := ((0, 0) : Ent)) entLen (H.ok 11 _ rfl : World.ownsRow _ 0 _ 2 _ _ _) rfl
        subst e_aQ1
        cases h15 : (fitJ r s b o c sn pg ns x.L x.D x.S x.pu x.ru j)
        · skip
          refine z_callB H (Rst_no hL hx.v hx.liv j ht aL1 aD1 aS1 aQ1 cL1 cD1 cS1 (List.length x.Q) cQ1 h15 _ hIL1 hID1 hIS1) fun v104 H => x_b H [.m, .m, .m, .m, .m] <| x_nil <| x_then <| x_span2 (fun a w' => ∃ fb : Bool, ∃ uf4 : Nat → Value, a = frm 181 uf4 [(4, .pointer (some ⟨g1, 0, none⟩)), (6, .pointer (some ⟨g2, 0, none⟩)), (7, .pointer (some ⟨g3, 0, none⟩)), (9, .pointer (some ⟨rp, 0, none⟩)), (14, .pointer (some ⟨g5, 0, none⟩)), (15, .pointer none), (16, .int .i64 10), (17, .bool fb)] [] ∧ Hs [] w0 w' [.blk g5 #[.slice aL1 sn cL1, .slice aD1 (List.length (deadL x.D pg)) cD1, .slice aS1 ns cS1, .int .i64 ((x.pu : Nat) : Int), .int .i64 ((x.ru : Nat) : Int), .int .i64 j.1, .int .i64 j.2.1, .int .i64 j.2.2.1, .int .i64 j.2.2.2, .slice aQ1 (List.length x.Q) cQ1] 110, .blk rp #[.pointer (some ⟨p, 0, none⟩), .int .i64 x.j.1, .int .i64 x.j.2.1, .int .i64 x.j.2.2.1, .int .i64 x.j.2.2.2, .pointer (some ⟨q, 0, none⟩)] 133, .blk p #[.int .i64 r, .int .i64 s, .int .i64 b, .int .i64 o, .int .i64 c, .int .i64 y, .int .i64 z, .slice (some ⟨gl, 0, none⟩) sn cl, .slice (some ⟨gd, 0, none⟩) pg cd, .slice (some ⟨gs, 0, none⟩) ns cs, .int .i64 ((x.pu : Nat) : Int), .int .i64 ((x.ru : Nat) : Int)] 118, .row (.slice (some ⟨gl, 0, none⟩) sn cl) 3 1 sn (List.map (Value.int .i64) x.L), .row (.slice (some ⟨gd, 0, none⟩) pg cd) 4 1 pg (List.map Value.bool x.D), .row (.slice (some ⟨gs, 0, none⟩) ns cs) 3 1 ns (List.map (Value.int .i64) x.S), .blk q #[.slice (some ⟨gq, 0, none⟩) 256 cq, .int .i64 (ra : Int), .int .i64 (qn : Int)] 170, .row (.slice (some ⟨gq, 0, none⟩) 256 cq) 72 2 256 (List.flatMap entL ls), .row (.slice aL1 sn cL1) 3 1 sn (List.map (Value.int .i64) x.L), .row (.slice aD1 (List.length (deadL x.D pg)) cD1) 3 1 (List.length (deadL x.D pg)) (List.map (Value.int .i64) (deadL x.D pg)), .row (.slice aS1 ns cS1) 3 1 ns (List.map (Value.int .i64) (spL x.S)), .row (.slice aQ1 (List.length x.Q) cQ1) 72 2 (List.length x.Q) (List.flatMap entL x.Q), .row (lv) 3 1 pg (List.map (Value.int .i64) (layL y r b o pg)), .row (g.pv) 156 2 (List.length g.Pg) (List.flatMap entL g.Pg), .row (g.kv) 156 2 (List.length g.Rk) (List.flatMap entL g.Rk), .row (g.fv) 147 2 (List.length g.F) (List.flatMap entL g.F), .blk g4 #[.int .i64 r, .int .i64 s, .int .i64 b, .int .i64 o, .int .i64 c, .int .i64 y, .int .i64 z, lv, g.pv, g.kv, .int .i64 ((x.pu : Nat) : Int), .int .i64 ((x.ru : Nat) : Int), .int .i64 x.j.1, .int .i64 x.j.2.1, .int .i64 x.j.2.2.1, .int .i64 x.j.2.2.2, .slice g.ad g.n g.c] 68, .blk g3 #[.int .i64 aq.1, .int .i64 aq.2] 72, .blk g2 #[.int .i64 j.1, .int .i64 j.2.1, .int .i64 j.2.2.1, .int .i64 j.2.2.2] 77, .blk g1 #[.int .i64 r, .int .i64 s, .int .i64 b, .int .i64 o, .int .i64 c, .int .i64 y, .int .i64 z] 25] ∧ (fb = (fitJ r s b o c sn pg ns x.L x.D x.S x.pu x.ru j))) ?_ (fun hSp2 => ?_)
          · skip
            clear H
            rintro _ v105 ⟨fb, uf4, rfl, H, r1⟩
            have hfb := r1
            refine x_seq <| x_seq <| z_region_whole H <| q_b [.v (.bool fb), .m, .m, .v (.bool (fb != false)), .v (.bool (fb != false))] ?_
            cases h16 : fb != false
            · skip
              refine q_b [.v (.bool fb), .v (.bool (!fb)), .v (.bool (!fb))] ?_
              cases h17 : fb
              · skip
                refine q_b [.m, .m, .m, .m, .m, .m, .m, .m, .m, .m, .m, .k, .k, .k, .k, .m, .m] <| q_nil ?_
                clear H
                intro v106 H
                refine x_then <| x_f (by kernel_rfl) <| x_skipc <| x_then ?_
                replace H := hsCast (H.pk [1, 2, 3, 4, 5, 6, 7, 17, 18, 19, 0]) (L2 := [.blk rp #[.pointer (some ⟨p, 0, none⟩), .int .i64 x.j.1, .int .i64 x.j.2.1, .int .i64 x.j.2.2.1, .int .i64 x.j.2.2.2, .pointer (some ⟨q, 0, none⟩)] 133, .blk p #[.int .i64 r, .int .i64 s, .int .i64 b, .int .i64 o, .int .i64 c, .int .i64 y, .int .i64 z, .slice (some ⟨gl, 0, none⟩) sn cl, .slice (some ⟨gd, 0, none⟩) pg cd, .slice (some ⟨gs, 0, none⟩) ns cs, .int .i64 ((x.pu : Nat) : Int), .int .i64 ((x.ru : Nat) : Int)] 118, .row (.slice (some ⟨gl, 0, none⟩) sn cl) 3 1 sn (List.map (Value.int .i64) x.L), .row (.slice (some ⟨gd, 0, none⟩) pg cd) 4 1 pg (List.map Value.bool x.D), .row (.slice (some ⟨gs, 0, none⟩) ns cs) 3 1 ns (List.map (Value.int .i64) x.S), .blk q #[.slice (some ⟨gq, 0, none⟩) 256 cq, .int .i64 (ra : Int), .int .i64 (qn : Int)] 170, .row (.slice (some ⟨gq, 0, none⟩) 256 cq) 72 2 256 (List.flatMap entL ls), .blk g3 #[.int .i64 aq.1, .int .i64 aq.2] 72, .blk g2 #[.int .i64 j.1, .int .i64 j.2.1, .int .i64 j.2.2.1, .int .i64 j.2.2.2] 77, .blk g1 #[.int .i64 r, .int .i64 s, .int .i64 b, .int .i64 o, .int .i64 c, .int .i64 y, .int .i64 z] 25, .blk g5 #[((nthV [.slice aL1 sn cL1, .slice aD1 (List.length (deadL x.D pg)) cD1, .slice aS1 ns cS1, .int .i64 ((x.pu : Nat) : Int), .int .i64 ((x.ru : Nat) : Int), .int .i64 j.1, .int .i64 j.2.1, .int .i64 j.2.2.1, .int .i64 j.2.2.2, .slice aQ1 (List.length x.Q) cQ1]) 0), ((nthV [.slice aL1 sn cL1, .slice aD1 (List.length (deadL x.D pg)) cD1, .slice aS1 ns cS1, .int .i64 ((x.pu : Nat) : Int), .int .i64 ((x.ru : Nat) : Int), .int .i64 j.1, .int .i64 j.2.1, .int .i64 j.2.2.1, .int .i64 j.2.2.2, .slice aQ1 (List.length x.Q) cQ1]) 1), ((nthV [.slice aL1 sn cL1, .slice aD1 (List.length (deadL x.D pg)) cD1, .slice aS1 ns cS1, .int .i64 ((x.pu : Nat) : Int), .int .i64 ((x.ru : Nat) : Int), .int .i64 j.1, .int .i64 j.2.1, .int .i64 j.2.2.1, .int .i64 j.2.2.2, .slice aQ1 (List.length x.Q) cQ1]) 2), ((nthV [.slice aL1 sn cL1, .slice aD1 (List.length (deadL x.D pg)) cD1, .slice aS1 ns cS1, .int .i64 ((x.pu : Nat) : Int), .int .i64 ((x.ru : Nat) : Int), .int .i64 j.1, .int .i64 j.2.1, .int .i64 j.2.2.1, .int .i64 j.2.2.2, .slice aQ1 (List.length x.Q) cQ1]) 3), ((nthV [.slice aL1 sn cL1, .slice aD1 (List.length (deadL x.D pg)) cD1, .slice aS1 ns cS1, .int .i64 ((x.pu : Nat) : Int), .int .i64 ((x.ru : Nat) : Int), .int .i64 j.1, .int .i64 j.2.1, .int .i64 j.2.2.1, .int .i64 j.2.2.2, .slice aQ1 (List.length x.Q) cQ1]) 4), ((nthV [.slice aL1 sn cL1, .slice aD1 (List.length (deadL x.D pg)) cD1, .slice aS1 ns cS1, .int .i64 ((x.pu : Nat) : Int), .int .i64 ((x.ru : Nat) : Int), .int .i64 j.1, .int .i64 j.2.1, .int .i64 j.2.2.1, .int .i64 j.2.2.2, .slice aQ1 (List.length x.Q) cQ1]) 5), ((nthV [.slice aL1 sn cL1, .slice aD1 (List.length (deadL x.D pg)) cD1, .slice aS1 ns cS1, .int .i64 ((x.pu : Nat) : Int), .int .i64 ((x.ru : Nat) : Int), .int .i64 j.1, .int .i64 j.2.1, .int .i64 j.2.2.1, .int .i64 j.2.2.2, .slice aQ1 (List.length x.Q) cQ1]) 6), ((nthV [.slice aL1 sn cL1, .slice aD1 (List.length (deadL x.D pg)) cD1, .slice aS1 ns cS1, .int .i64 ((x.pu : Nat) : Int), .int .i64 ((x.ru : Nat) : Int), .int .i64 j.1, .int .i64 j.2.1, .int .i64 j.2.2.1, .int .i64 j.2.2.2, .slice aQ1 (List.length x.Q) cQ1]) 7), ((nthV [.slice aL1 sn cL1, .slice aD1 (List.length (deadL x.D pg)) cD1, .slice aS1 ns cS1, .int .i64 ((x.pu : Nat) : Int), .int .i64 ((x.ru : Nat) : Int), .int .i64 j.1, .int .i64 j.2.1, .int .i64 j.2.2.1, .int .i64 j.2.2.2, .slice aQ1 (List.length x.Q) cQ1]) 8), ((nthV [.slice aL1 sn cL1, .slice aD1 (List.length (deadL x.D pg)) cD1, .slice aS1 ns cS1, .int .i64 ((x.pu : Nat) : Int), .int .i64 ((x.ru : Nat) : Int), .int .i64 j.1, .int .i64 j.2.1, .int .i64 j.2.2.1, .int .i64 j.2.2.2, .slice aQ1 (List.length x.Q) cQ1]) 9)] 110]) (by kernel_rfl)
                exact hSp1 _ _ ⟨(nthV [.slice aL1 sn cL1, .slice aD1 (List.length (deadL x.D pg)) cD1, .slice aS1 ns cS1, .int .i64 ((x.pu : Nat) : Int), .int .i64 ((x.ru : Nat) : Int), .int .i64 j.1, .int .i64 j.2.1, .int .i64 j.2.2.1, .int .i64 j.2.2.2, .slice aQ1 (List.length x.Q) cQ1]), _, frm_of, H⟩
              exact absurd (h17.symm.trans (hfb.trans h15)) (by decide)
            exact absurd h16 (by rw [hfb.trans h15]; decide)
          · skip
            refine x_seq <| z_region_whole H <| q_b [.n 18 0 4 77, .m] <| q_callR (.pointer (some ⟨p, 0, none⟩)) (by kernel_rfl) (fun _ => by kernel_rfl) (fun _ H => (Map_of (x := x) _ (H.ro1 [1]))) <| q_callR (.bool (decide (jrP r s b o c pg ns x.D x.S j))) (by kernel_rfl) (fun _ => by kernel_rfl) (fun _ H => (Right_any hL hx.v j ht _ (H.ro1 [2, 3, 4, 5]))) <| q_b [.v (.bool (decide (jrP r s b o c pg ns x.D x.S j)))] ?_
            cases h18 : decide (jrP r s b o c pg ns x.D x.S j)
            · skip
              have h18p := of_decide_eq_false h18
              refine q_b [.k, .k, .k, .k, .m, .m] <| q_nil ?_
              clear H
              intro v107 H
              refine x_then <| x_seq <| x_seq <| x_region <| x_b H [.m, .l 18 0] <| x_nil <| x_then ?_
              refine x_block <| x_seq <| x_region <| x_b H [.v (.bool (decide (j.1 = 1))), .v (.bool (decide (j.1 = 1)))] <| x_nil <| x_then ?_
              cases h19 : decide (j.1 = 1)
              · skip
                have h19p := of_decide_eq_false h19
                refine x_f (by kernel_rfl) <| x_seq <| x_region <| x_b H [.v (.bool (decide (j.1 = 2))), .v (.bool (decide (j.1 = 2)))] <| x_nil <| x_then ?_
                cases h20 : decide (j.1 = 2)
                · skip
                  have h20p := of_decide_eq_false h20
                  refine x_f (by kernel_rfl) <| x_skipc <| x_blk <| x_then ?_
                  replace H := H.pk [0, 1, 2, 3, 4, 5, 6, 7, 8, 9, 10, 11, 12, 13, 14, 15, 16, 17, 18, 19]
                  exact hSp2 _ _ ⟨false, _, frm_of, H, (by unfold fitJ tkB; simp [h18, h19, h20] <;> omega)⟩
                have h20p := of_decide_eq_true h20
                refine x_t (by kernel_rfl) <| x_region <| x_b H [.m, .m, .k, .k, .k, .k, .k, .k, .k, .k, .k, .k, .m, .m, .k, .k, .k, .k, .k, .k, .k, .m, .m] <| x_nil <| z_fr 181 [(4, .pointer (some ⟨g1, 0, none⟩)), (6, .pointer (some ⟨g2, 0, none⟩)), (7, .pointer (some ⟨g3, 0, none⟩)), (9, .pointer (some ⟨rp, 0, none⟩)), (14, .pointer (some ⟨g5, 0, none⟩)), (15, .pointer none), (16, .int .i64 10), (17, .bool false)] [] fun uf5 => x_blk <| x_then ?_
                replace H := H.pk [0, 1, 2, 3, 4, 5, 6, 7, 8, 9, 10, 11, 12, 13, 14, 15, 16, 17, 18, 19]
                exact hSp2 _ _ ⟨false, _, frm_of, H, (by unfold fitJ tkB; simp [h18, h19, h20] <;> omega)⟩
              have h19p := of_decide_eq_true h19
              refine x_t (by kernel_rfl) <| z_region_whole H <| q_b [.m, .m, .k, .k, .k, .k, .k, .m, .m, .k, .k, .k, .k, .k, .k, .k, .k, .k, .m, .m, .k, .k, .k, .k, .k, .k, .k, .m, .m] <| q_nil ?_
              clear H
              intro v108 H
              refine z_fr 181 [(4, .pointer (some ⟨g1, 0, none⟩)), (6, .pointer (some ⟨g2, 0, none⟩)), (7, .pointer (some ⟨g3, 0, none⟩)), (9, .pointer (some ⟨rp, 0, none⟩)), (14, .pointer (some ⟨g5, 0, none⟩)), (15, .pointer none), (16, .int .i64 10), (17, .bool false)] [] fun uf6 => x_blk <| x_then ?_
              replace H := H.pk [0, 1, 2, 3, 4, 5, 6, 7, 8, 9, 10, 11, 12, 13, 14, 15, 16, 17, 18, 19]
              exact hSp2 _ _ ⟨false, _, frm_of, H, (by unfold fitJ tkB; simp [h18, h19] <;> omega)⟩
            have h18p := of_decide_eq_true h18
            refine q_b [.n 18 0 4 77, .n 19 0 7 25] <| q_callB (.bool (and (!(decide (j.1 = 0))) (decide (j.2.2.2 = (Rp.cnt b o c j))))) (by kernel_rfl) (fun _ => by kernel_rfl) (fun _ => (Done_any hL j _)) <| q_b [.v (.bool (!(and (!(decide (j.1 = 0))) (decide (j.2.2.2 = (Rp.cnt b o c j)))))), .v (.bool (!(and (!(decide (j.1 = 0))) (decide (j.2.2.2 = (Rp.cnt b o c j)))))), .v (.bool (!(and (!(decide (j.1 = 0))) (decide (j.2.2.2 = (Rp.cnt b o c j))))))] <| q_nil ?_
            clear H
            intro v109 H
            refine x_then <| x_seq <| x_seq <| x_region <| x_b H [.m, .l 18 0] <| x_nil <| x_then ?_
            refine x_block <| x_seq <| x_region <| x_b H [.v (.bool (decide (j.1 = 1))), .v (.bool (decide (j.1 = 1)))] <| x_nil <| x_then ?_
            cases h21 : decide (j.1 = 1)
            · skip
              have h21p := of_decide_eq_false h21
              refine x_f (by kernel_rfl) <| x_seq <| x_region <| x_b H [.v (.bool (decide (j.1 = 2))), .v (.bool (decide (j.1 = 2)))] <| x_nil <| x_then ?_
              cases h22 : decide (j.1 = 2)
              · skip
                have h22p := of_decide_eq_false h22
                refine x_f (by kernel_rfl) <| x_skipc <| x_blk <| x_then ?_
                replace H := H.pk [0, 1, 2, 3, 4, 5, 6, 7, 8, 9, 10, 11, 12, 13, 14, 15, 16, 17, 18, 19]
                exact hSp2 _ _ ⟨(!(and (!(decide (j.1 = 0))) (decide (j.2.2.2 = (Rp.cnt b o c j))))), _, frm_of, H, (by unfold fitJ tkB; simp [h18, h21, h22] <;> omega)⟩
              have h22p := of_decide_eq_true h22
              refine x_t (by kernel_rfl) <| x_region <| x_b H [.v (.bool (!(and (!(decide (j.1 = 0))) (decide (j.2.2.2 = (Rp.cnt b o c j)))))), .v (.bool (!(and (!(decide (j.1 = 0))) (decide (j.2.2.2 = (Rp.cnt b o c j))))))] ?_
              cases h23 : and (!(decide (j.1 = 0))) (decide (j.2.2.2 = (Rp.cnt b o c j)))
              · skip
                refine x_b H [.m, .l 18 2, .m, .m, .l 19 0, .m, .m, .l 0 4] <| z_ar (r + ((x.ru : Nat) : Int)) <| x_b H [.v (.bool (decide (j.2.2.1 < (r + ((x.ru : Nat) : Int))))), .v (.bool (decide (j.2.2.1 < (r + ((x.ru : Nat) : Int))))), .v (.bool (decide (j.2.2.1 < (r + ((x.ru : Nat) : Int)))))] ?_
                cases h24 : decide (j.2.2.1 < (r + ((x.ru : Nat) : Int)))
                · skip
                  have h24p := of_decide_eq_false h24
                  refine x_b H [.k, .k, .k, .k, .k, .k, .k, .m, .m] <| x_nil <| z_fr 181 [(4, .pointer (some ⟨g1, 0, none⟩)), (6, .pointer (some ⟨g2, 0, none⟩)), (7, .pointer (some ⟨g3, 0, none⟩)), (9, .pointer (some ⟨rp, 0, none⟩)), (14, .pointer (some ⟨g5, 0, none⟩)), (15, .pointer none), (16, .int .i64 10), (17, .bool false)] [] fun uf7 => x_blk <| x_then ?_
                  replace H := H.pk [0, 1, 2, 3, 4, 5, 6, 7, 8, 9, 10, 11, 12, 13, 14, 15, 16, 17, 18, 19]
                  exact hSp2 _ _ ⟨false, _, frm_of, H, (by unfold fitJ tkB; simp [h18, h21, h22, h23, h24] <;> omega)⟩
                have h24p := of_decide_eq_true h24
                refine x_b H [.m, .m, .l 0 2, .m, .l 18 2] <| z_callB (v := .bool (decide (j.2.2.1 ∈ (spL x.S)))) H (has21_len (spL x.S) esp1 (by omega) j.2.2.1 _ (H.ro1 [10])) fun v110 H => x_b H [.v (.bool (!(decide (j.2.2.1 ∈ (spL x.S))))), .v (.bool (!(decide (j.2.2.1 ∈ (spL x.S))))), .v (.bool (!(decide (j.2.2.1 ∈ (spL x.S)))))] <| x_nil <| z_fr 181 [(4, .pointer (some ⟨g1, 0, none⟩)), (6, .pointer (some ⟨g2, 0, none⟩)), (7, .pointer (some ⟨g3, 0, none⟩)), (9, .pointer (some ⟨rp, 0, none⟩)), (14, .pointer (some ⟨g5, 0, none⟩)), (15, .pointer none), (16, .int .i64 10), (17, .bool (!(decide (j.2.2.1 ∈ (spL x.S)))))] [] fun uf8 => x_blk <| x_then ?_
                replace H := H.pk [0, 1, 2, 3, 4, 5, 6, 7, 8, 9, 10, 11, 12, 13, 14, 15, 16, 17, 18, 19]
                exact hSp2 _ _ ⟨(!(decide (j.2.2.1 ∈ (spL x.S)))), _, frm_of, H, (by unfold fitJ tkB; simp [h18, h21, h22, h23, h24] <;> omega)⟩
              refine x_b H [.k, .k, .k, .k, .k, .k, .k, .k, .k, .k, .m, .m, .k, .k, .k, .k, .k, .k, .k, .m, .m] <| x_nil <| z_fr 181 [(4, .pointer (some ⟨g1, 0, none⟩)), (6, .pointer (some ⟨g2, 0, none⟩)), (7, .pointer (some ⟨g3, 0, none⟩)), (9, .pointer (some ⟨rp, 0, none⟩)), (14, .pointer (some ⟨g5, 0, none⟩)), (15, .pointer none), (16, .int .i64 10), (17, .bool false)] [] fun uf9 => x_blk <| x_then ?_
              replace H := H.pk [0, 1, 2, 3, 4, 5, 6, 7, 8, 9, 10, 11, 12, 13, 14, 15, 16, 17, 18, 19]
              exact hSp2 _ _ ⟨false, _, frm_of, H, (by unfold fitJ tkB; simp [h18, h21, h22, h23] <;> omega)⟩
            have h21p := of_decide_eq_true h21
            refine x_t (by kernel_rfl) <| z_region_whole H <| q_b [.v (.bool (!(and (!(decide (j.1 = 0))) (decide (j.2.2.2 = (Rp.cnt b o c j)))))), .v (.bool (!(and (!(decide (j.1 = 0))) (decide (j.2.2.2 = (Rp.cnt b o c j))))))] ?_
            cases h25 : and (!(decide (j.1 = 0))) (decide (j.2.2.2 = (Rp.cnt b o c j)))
            · skip
              refine q_b [.m, .l 18 2, .n 19 0 7 25] <| q_callB (.int .i64 (sn : Int)) (by kernel_rfl) (fun _ => by kernel_rfl) (fun _ => (seen_of hL _)) <| q_b [.v (.bool (decide ((sn : Int) ≤ j.2.2.1))), .v (.bool (decide ((sn : Int) ≤ j.2.2.1))), .v (.bool (decide ((sn : Int) ≤ j.2.2.1)))] ?_
              cases h26 : decide ((sn : Int) ≤ j.2.2.1)
              · skip
                have h26p := of_decide_eq_false h26
                refine q_b [.k, .k, .k, .k, .k, .k, .k, .k, .k, .m, .m, .k, .k, .k, .k, .k, .k, .k, .m, .m] <| q_nil ?_
                clear H
                intro v111 H
                refine z_fr 181 [(4, .pointer (some ⟨g1, 0, none⟩)), (6, .pointer (some ⟨g2, 0, none⟩)), (7, .pointer (some ⟨g3, 0, none⟩)), (9, .pointer (some ⟨rp, 0, none⟩)), (14, .pointer (some ⟨g5, 0, none⟩)), (15, .pointer none), (16, .int .i64 10), (17, .bool false)] [] fun uf10 => x_blk <| x_then ?_
                replace H := H.pk [0, 1, 2, 3, 4, 5, 6, 7, 8, 9, 10, 11, 12, 13, 14, 15, 16, 17, 18, 19]
                exact hSp2 _ _ ⟨false, _, frm_of, H, (by unfold fitJ tkB; simp [h18, h21, h25, h26] <;> omega)⟩
              have h26p := of_decide_eq_true h26
              refine q_b [.m, .l 18 2, .n 19 0 7 25] <| q_callB (.int .i64 (sn : Int)) (by kernel_rfl) (fun _ => by kernel_rfl) (fun _ => (seen_of hL _)) <| q_b [.m, .m, .l 0 3] <| q_ar ((sn : Int) + ((x.pu : Nat) : Int)) ⟨by omega, by omega⟩ (by kernel_rfl) (fun _ => by kernel_rfl) <| q_b [.v (.bool (decide (j.2.2.1 < ((sn : Int) + ((x.pu : Nat) : Int))))), .v (.bool (decide (j.2.2.1 < ((sn : Int) + ((x.pu : Nat) : Int))))), .v (.bool (decide (j.2.2.1 < ((sn : Int) + ((x.pu : Nat) : Int)))))] ?_
              cases h27 : decide (j.2.2.1 < ((sn : Int) + ((x.pu : Nat) : Int)))
              · skip
                have h27p := of_decide_eq_false h27
                refine q_b [.k, .k, .k, .k, .k, .k, .k, .m, .m] <| q_nil ?_
                clear H
                intro v112 H
                refine z_fr 181 [(4, .pointer (some ⟨g1, 0, none⟩)), (6, .pointer (some ⟨g2, 0, none⟩)), (7, .pointer (some ⟨g3, 0, none⟩)), (9, .pointer (some ⟨rp, 0, none⟩)), (14, .pointer (some ⟨g5, 0, none⟩)), (15, .pointer none), (16, .int .i64 10), (17, .bool false)] [] fun uf11 => x_blk <| x_then ?_
                replace H := H.pk [0, 1, 2, 3, 4, 5, 6, 7, 8, 9, 10, 11, 12, 13, 14, 15, 16, 17, 18, 19]
                exact hSp2 _ _ ⟨false, _, frm_of, H, (by unfold fitJ tkB; simp [h18, h21, h25, h26, h27] <;> omega)⟩
              have h27p := of_decide_eq_true h27
              refine q_b [.m, .m, .l 0 0, .m, .l 18 2] <| q_callR (.bool (decide (j.2.2.1 ∈ x.L))) (by kernel_rfl) (fun _ => by kernel_rfl) (fun _ H => (has21_len x.L hx.v.m.hL (by omega) j.2.2.1 _ (H.ro1 [8]))) <| q_b [.v (.bool (!(decide (j.2.2.1 ∈ x.L)))), .v (.bool (!(decide (j.2.2.1 ∈ x.L)))), .v (.bool (!(decide (j.2.2.1 ∈ x.L))))] <| q_nil ?_
              clear H
              intro v113 H
              refine z_fr 181 [(4, .pointer (some ⟨g1, 0, none⟩)), (6, .pointer (some ⟨g2, 0, none⟩)), (7, .pointer (some ⟨g3, 0, none⟩)), (9, .pointer (some ⟨rp, 0, none⟩)), (14, .pointer (some ⟨g5, 0, none⟩)), (15, .pointer none), (16, .int .i64 10), (17, .bool (!(decide (j.2.2.1 ∈ x.L))))] [] fun uf12 => x_blk <| x_then ?_
              replace H := H.pk [0, 1, 2, 3, 4, 5, 6, 7, 8, 9, 10, 11, 12, 13, 14, 15, 16, 17, 18, 19]
              exact hSp2 _ _ ⟨(!(decide (j.2.2.1 ∈ x.L))), _, frm_of, H, (by unfold fitJ tkB; simp [h18, h21, h25, h26, h27] <;> omega)⟩
            refine q_b [.k, .k, .k, .k, .k, .m, .m, .k, .k, .k, .k, .k, .k, .k, .k, .k, .m, .m, .k, .k, .k, .k, .k, .k, .k, .m, .m] <| q_nil ?_
            clear H
            intro v114 H
            refine z_fr 181 [(4, .pointer (some ⟨g1, 0, none⟩)), (6, .pointer (some ⟨g2, 0, none⟩)), (7, .pointer (some ⟨g3, 0, none⟩)), (9, .pointer (some ⟨rp, 0, none⟩)), (14, .pointer (some ⟨g5, 0, none⟩)), (15, .pointer none), (16, .int .i64 10), (17, .bool false)] [] fun uf13 => x_blk <| x_then ?_
            replace H := H.pk [0, 1, 2, 3, 4, 5, 6, 7, 8, 9, 10, 11, 12, 13, 14, 15, 16, 17, 18, 19]
            exact hSp2 _ _ ⟨false, _, frm_of, H, (by unfold fitJ tkB; simp [h18, h21, h25] <;> omega)⟩
        refine z_call (Rst_yes hL hx.v hx.liv j ht aL1 aD1 aS1 aQ1 cL1 cD1 cS1 (List.length x.Q) cQ1 h15 _ hIL1 hID1 hIS1 x.Q rfl hAQ1 (Nat.le_trans hx.ql (by decide)) ⟨hQ, hx.ql⟩) ?_
        rintro _ v115 ⟨⟨p2, gl2, cl2, gd2, cd2, gs2, cs2⟩, ⟨q2, gq2, cq2⟩, rp2, ⟨lsr2, rar2, qnr2⟩, rfl, hN', hkr2⟩
        refine ⟨_, rfl, ?_⟩
        replace H := hsCast (H.more hN') (L2 := [.blk rp2 #[.pointer (some ⟨p2, 0, none⟩), .int .i64 j.1, .int .i64 j.2.1, .int .i64 j.2.2.1, .int .i64 j.2.2.2, .pointer (some ⟨q2, 0, none⟩)] 133, .blk p2 #[.int .i64 r, .int .i64 s, .int .i64 b, .int .i64 o, .int .i64 c, .int .i64 y, .int .i64 z, .slice (some ⟨gl2, 0, none⟩) sn cl2, .slice (some ⟨gd2, 0, none⟩) pg cd2, .slice (some ⟨gs2, 0, none⟩) ns cs2, .int .i64 ((x.pu : Nat) : Int), .int .i64 ((x.ru : Nat) : Int)] 118, .row (.slice (some ⟨gl2, 0, none⟩) sn cl2) 3 1 sn (List.map (Value.int .i64) x.L), .row (.slice (some ⟨gd2, 0, none⟩) pg cd2) 4 1 pg (List.map Value.bool x.D), .row (.slice (some ⟨gs2, 0, none⟩) ns cs2) 3 1 ns (List.map (Value.int .i64) x.S), .blk q2 #[.slice (some ⟨gq2, 0, none⟩) 256 cq2, .int .i64 (rar2 : Int), .int .i64 (qnr2 : Int)] 170, .row (.slice (some ⟨gq2, 0, none⟩) 256 cq2) 72 2 256 (List.flatMap entL lsr2), .blk g5 #[.slice aL1 sn cL1, .slice aD1 (List.length (deadL x.D pg)) cD1, .slice aS1 ns cS1, .int .i64 ((x.pu : Nat) : Int), .int .i64 ((x.ru : Nat) : Int), .int .i64 j.1, .int .i64 j.2.1, .int .i64 j.2.2.1, .int .i64 j.2.2.2, .slice aQ1 (List.length x.Q) cQ1] 110, .blk rp #[.pointer (some ⟨p, 0, none⟩), .int .i64 x.j.1, .int .i64 x.j.2.1, .int .i64 x.j.2.2.1, .int .i64 x.j.2.2.2, .pointer (some ⟨q, 0, none⟩)] 133, .blk p #[.int .i64 r, .int .i64 s, .int .i64 b, .int .i64 o, .int .i64 c, .int .i64 y, .int .i64 z, .slice (some ⟨gl, 0, none⟩) sn cl, .slice (some ⟨gd, 0, none⟩) pg cd, .slice (some ⟨gs, 0, none⟩) ns cs, .int .i64 ((x.pu : Nat) : Int), .int .i64 ((x.ru : Nat) : Int)] 118, .row (.slice (some ⟨gl, 0, none⟩) sn cl) 3 1 sn (List.map (Value.int .i64) x.L), .row (.slice (some ⟨gd, 0, none⟩) pg cd) 4 1 pg (List.map Value.bool x.D), .row (.slice (some ⟨gs, 0, none⟩) ns cs) 3 1 ns (List.map (Value.int .i64) x.S), .blk q #[.slice (some ⟨gq, 0, none⟩) 256 cq, .int .i64 (ra : Int), .int .i64 (qn : Int)] 170, .row (.slice (some ⟨gq, 0, none⟩) 256 cq) 72 2 256 (List.flatMap entL ls), .row (.slice aL1 sn cL1) 3 1 sn (List.map (Value.int .i64) x.L), .row (.slice aD1 (List.length (deadL x.D pg)) cD1) 3 1 (List.length (deadL x.D pg)) (List.map (Value.int .i64) (deadL x.D pg)), .row (.slice aS1 ns cS1) 3 1 ns (List.map (Value.int .i64) (spL x.S)), .row (.slice aQ1 (List.length x.Q) cQ1) 72 2 (List.length x.Q) (List.flatMap entL x.Q), .row (lv) 3 1 pg (List.map (Value.int .i64) (layL y r b o pg)), .row (g.pv) 156 2 (List.length g.Pg) (List.flatMap entL g.Pg), .row (g.kv) 156 2 (List.length g.Rk) (List.flatMap entL g.Rk), .row (g.fv) 147 2 (List.length g.F) (List.flatMap entL g.F), .blk g4 #[.int .i64 r, .int .i64 s, .int .i64 b, .int .i64 o, .int .i64 c, .int .i64 y, .int .i64 z, lv, g.pv, g.kv, .int .i64 ((x.pu : Nat) : Int), .int .i64 ((x.ru : Nat) : Int), .int .i64 x.j.1, .int .i64 x.j.2.1, .int .i64 x.j.2.2.1, .int .i64 x.j.2.2.2, .slice g.ad g.n g.c] 68, .blk g3 #[.int .i64 aq.1, .int .i64 aq.2] 72, .blk g2 #[.int .i64 j.1, .int .i64 j.2.1, .int .i64 j.2.2.1, .int .i64 j.2.2.2] 77, .blk g1 #[.int .i64 r, .int .i64 s, .int .i64 b, .int .i64 o, .int .i64 c, .int .i64 y, .int .i64 z] 25]) (by kernel_rfl)
        clear hN'
        refine x_b H [.m, .m, .m, .m, .m] <| x_nil <| x_then <| x_span2 (fun a w' => ∃ fb : Bool, ∃ uf14 : Nat → Value, a = frm 181 uf14 [(4, .pointer (some ⟨g1, 0, none⟩)), (6, .pointer (some ⟨g2, 0, none⟩)), (7, .pointer (some ⟨g3, 0, none⟩)), (9, .pointer (some ⟨rp, 0, none⟩)), (14, .pointer (some ⟨g5, 0, none⟩)), (15, .pointer (some ⟨rp2, 0, none⟩)), (16, .int .i64 0), (17, .bool fb)] [] ∧ Hs [] w0 w' [.blk rp2 #[.pointer (some ⟨p2, 0, none⟩), .int .i64 j.1, .int .i64 j.2.1, .int .i64 j.2.2.1, .int .i64 j.2.2.2, .pointer (some ⟨q2, 0, none⟩)] 133, .blk p2 #[.int .i64 r, .int .i64 s, .int .i64 b, .int .i64 o, .int .i64 c, .int .i64 y, .int .i64 z, .slice (some ⟨gl2, 0, none⟩) sn cl2, .slice (some ⟨gd2, 0, none⟩) pg cd2, .slice (some ⟨gs2, 0, none⟩) ns cs2, .int .i64 ((x.pu : Nat) : Int), .int .i64 ((x.ru : Nat) : Int)] 118, .row (.slice (some ⟨gl2, 0, none⟩) sn cl2) 3 1 sn (List.map (Value.int .i64) x.L), .row (.slice (some ⟨gd2, 0, none⟩) pg cd2) 4 1 pg (List.map Value.bool x.D), .row (.slice (some ⟨gs2, 0, none⟩) ns cs2) 3 1 ns (List.map (Value.int .i64) x.S), .blk q2 #[.slice (some ⟨gq2, 0, none⟩) 256 cq2, .int .i64 (rar2 : Int), .int .i64 (qnr2 : Int)] 170, .row (.slice (some ⟨gq2, 0, none⟩) 256 cq2) 72 2 256 (List.flatMap entL lsr2), .blk g5 #[.slice aL1 sn cL1, .slice aD1 (List.length (deadL x.D pg)) cD1, .slice aS1 ns cS1, .int .i64 ((x.pu : Nat) : Int), .int .i64 ((x.ru : Nat) : Int), .int .i64 j.1, .int .i64 j.2.1, .int .i64 j.2.2.1, .int .i64 j.2.2.2, .slice aQ1 (List.length x.Q) cQ1] 110, .blk rp #[.pointer (some ⟨p, 0, none⟩), .int .i64 x.j.1, .int .i64 x.j.2.1, .int .i64 x.j.2.2.1, .int .i64 x.j.2.2.2, .pointer (some ⟨q, 0, none⟩)] 133, .blk p #[.int .i64 r, .int .i64 s, .int .i64 b, .int .i64 o, .int .i64 c, .int .i64 y, .int .i64 z, .slice (some ⟨gl, 0, none⟩) sn cl, .slice (some ⟨gd, 0, none⟩) pg cd, .slice (some ⟨gs, 0, none⟩) ns cs, .int .i64 ((x.pu : Nat) : Int), .int .i64 ((x.ru : Nat) : Int)] 118, .row (.slice (some ⟨gl, 0, none⟩) sn cl) 3 1 sn (List.map (Value.int .i64) x.L), .row (.slice (some ⟨gd, 0, none⟩) pg cd) 4 1 pg (List.map Value.bool x.D), .row (.slice (some ⟨gs, 0, none⟩) ns cs) 3 1 ns (List.map (Value.int .i64) x.S), .blk q #[.slice (some ⟨gq, 0, none⟩) 256 cq, .int .i64 (ra : Int), .int .i64 (qn : Int)] 170, .row (.slice (some ⟨gq, 0, none⟩) 256 cq) 72 2 256 (List.flatMap entL ls), .row (.slice aL1 sn cL1) 3 1 sn (List.map (Value.int .i64) x.L), .row (.slice aD1 (List.length (deadL x.D pg)) cD1) 3 1 (List.length (deadL x.D pg)) (List.map (Value.int .i64) (deadL x.D pg)), .row (.slice aS1 ns cS1) 3 1 ns (List.map (Value.int .i64) (spL x.S)), .row (.slice aQ1 (List.length x.Q) cQ1) 72 2 (List.length x.Q) (List.flatMap entL x.Q), .row (lv) 3 1 pg (List.map (Value.int .i64) (layL y r b o pg)), .row (g.pv) 156 2 (List.length g.Pg) (List.flatMap entL g.Pg), .row (g.kv) 156 2 (List.length g.Rk) (List.flatMap entL g.Rk), .row (g.fv) 147 2 (List.length g.F) (List.flatMap entL g.F), .blk g4 #[.int .i64 r, .int .i64 s, .int .i64 b, .int .i64 o, .int .i64 c, .int .i64 y, .int .i64 z, lv, g.pv, g.kv, .int .i64 ((x.pu : Nat) : Int), .int .i64 ((x.ru : Nat) : Int), .int .i64 x.j.1, .int .i64 x.j.2.1, .int .i64 x.j.2.2.1, .int .i64 x.j.2.2.2, .slice g.ad g.n g.c] 68, .blk g3 #[.int .i64 aq.1, .int .i64 aq.2] 72, .blk g2 #[.int .i64 j.1, .int .i64 j.2.1, .int .i64 j.2.2.1, .int .i64 j.2.2.2] 77, .blk g1 #[.int .i64 r, .int .i64 s, .int .i64 b, .int .i64 o, .int .i64 c, .int .i64 y, .int .i64 z] 25] ∧ (fb = (fitJ r s b o c sn pg ns x.L x.D x.S x.pu x.ru j))) ?_ (fun hSp3 => ?_)
        · skip
          clear H
          rintro _ v116 ⟨fb, uf14, rfl, H, r1⟩
          have hfb := r1
          refine x_seq <| x_seq <| z_region_whole H <| q_b [.v (.bool fb), .m, .m, .v (.bool (fb != true)), .v (.bool (fb != true))] ?_
          cases h28 : fb != true
          · skip
            refine q_b [.v (.bool fb), .v (.bool (!fb)), .v (.bool (!fb))] ?_
            cases h29 : fb
            · skip
              exact absurd (h29.symm.trans (hfb.trans h15)) (by decide)
            refine q_b [.k, .k, .k, .k, .k, .k, .m, .m, .m, .m, .m, .m] <| q_callR (.agg #[.int .i64 j.1, .int .i64 j.2.1, .int .i64 j.2.2.1, .int .i64 j.2.2.2]) (by kernel_rfl) (fun _ => by kernel_rfl) (fun _ H => (Job_of (x := { x with j := j }) _ (H.ro1 [0]))) <| q_b [.n 25 0 4 77] ?_
            have h30 : (decide ((j.1 : Int) = j.1) && (decide ((j.2.1 : Int) = j.2.1) && (decide ((j.2.2.1 : Int) = j.2.2.1) && (decide ((j.2.2.2 : Int) = j.2.2.2) && true)))) = true := by simp
            refine q_val (.bool false) (by kernel_rfl) (fun _ => ((run_neS (t := 65) (x := .tmp 157) (y := .tmp 158) (xs := #[.int .i64 j.1, .int .i64 j.2.1, .int .i64 j.2.2.1, .int .i64 j.2.2.2]) (ys := #[.int .i64 j.1, .int .i64 j.2.1, .int .i64 j.2.2.1, .int .i64 j.2.2.2]) (B := decide ((j.1 : Int) = j.1) && (decide ((j.2.1 : Int) = j.2.1) && (decide ((j.2.2.1 : Int) = j.2.2.1) && (decide ((j.2.2.2 : Int) = j.2.2.2) && true)))) (by kernel_rfl) (by kernel_rfl) (by kernel_rfl)).trans (by rw [h30]; try rfl))) <| q_b [.m, .m] <| q_nil ?_
            clear H
            intro v117 H
            refine x_then <| x_f (by kernel_rfl) <| x_skipc <| x_then ?_
            replace H := hsCast (H.pk [8, 9, 10, 11, 12, 13, 14, 24, 25, 26, 7]) (L2 := [.blk rp #[.pointer (some ⟨p, 0, none⟩), .int .i64 x.j.1, .int .i64 x.j.2.1, .int .i64 x.j.2.2.1, .int .i64 x.j.2.2.2, .pointer (some ⟨q, 0, none⟩)] 133, .blk p #[.int .i64 r, .int .i64 s, .int .i64 b, .int .i64 o, .int .i64 c, .int .i64 y, .int .i64 z, .slice (some ⟨gl, 0, none⟩) sn cl, .slice (some ⟨gd, 0, none⟩) pg cd, .slice (some ⟨gs, 0, none⟩) ns cs, .int .i64 ((x.pu : Nat) : Int), .int .i64 ((x.ru : Nat) : Int)] 118, .row (.slice (some ⟨gl, 0, none⟩) sn cl) 3 1 sn (List.map (Value.int .i64) x.L), .row (.slice (some ⟨gd, 0, none⟩) pg cd) 4 1 pg (List.map Value.bool x.D), .row (.slice (some ⟨gs, 0, none⟩) ns cs) 3 1 ns (List.map (Value.int .i64) x.S), .blk q #[.slice (some ⟨gq, 0, none⟩) 256 cq, .int .i64 (ra : Int), .int .i64 (qn : Int)] 170, .row (.slice (some ⟨gq, 0, none⟩) 256 cq) 72 2 256 (List.flatMap entL ls), .blk g3 #[.int .i64 aq.1, .int .i64 aq.2] 72, .blk g2 #[.int .i64 j.1, .int .i64 j.2.1, .int .i64 j.2.2.1, .int .i64 j.2.2.2] 77, .blk g1 #[.int .i64 r, .int .i64 s, .int .i64 b, .int .i64 o, .int .i64 c, .int .i64 y, .int .i64 z] 25, .blk g5 #[((nthV [.slice aL1 sn cL1, .slice aD1 (List.length (deadL x.D pg)) cD1, .slice aS1 ns cS1, .int .i64 ((x.pu : Nat) : Int), .int .i64 ((x.ru : Nat) : Int), .int .i64 j.1, .int .i64 j.2.1, .int .i64 j.2.2.1, .int .i64 j.2.2.2, .slice aQ1 (List.length x.Q) cQ1]) 0), ((nthV [.slice aL1 sn cL1, .slice aD1 (List.length (deadL x.D pg)) cD1, .slice aS1 ns cS1, .int .i64 ((x.pu : Nat) : Int), .int .i64 ((x.ru : Nat) : Int), .int .i64 j.1, .int .i64 j.2.1, .int .i64 j.2.2.1, .int .i64 j.2.2.2, .slice aQ1 (List.length x.Q) cQ1]) 1), ((nthV [.slice aL1 sn cL1, .slice aD1 (List.length (deadL x.D pg)) cD1, .slice aS1 ns cS1, .int .i64 ((x.pu : Nat) : Int), .int .i64 ((x.ru : Nat) : Int), .int .i64 j.1, .int .i64 j.2.1, .int .i64 j.2.2.1, .int .i64 j.2.2.2, .slice aQ1 (List.length x.Q) cQ1]) 2), ((nthV [.slice aL1 sn cL1, .slice aD1 (List.length (deadL x.D pg)) cD1, .slice aS1 ns cS1, .int .i64 ((x.pu : Nat) : Int), .int .i64 ((x.ru : Nat) : Int), .int .i64 j.1, .int .i64 j.2.1, .int .i64 j.2.2.1, .int .i64 j.2.2.2, .slice aQ1 (List.length x.Q) cQ1]) 3), ((nthV [.slice aL1 sn cL1, .slice aD1 (List.length (deadL x.D pg)) cD1, .slice aS1 ns cS1, .int .i64 ((x.pu : Nat) : Int), .int .i64 ((x.ru : Nat) : Int), .int .i64 j.1, .int .i64 j.2.1, .int .i64 j.2.2.1, .int .i64 j.2.2.2, .slice aQ1 (List.length x.Q) cQ1]) 4), ((nthV [.slice aL1 sn cL1, .slice aD1 (List.length (deadL x.D pg)) cD1, .slice aS1 ns cS1, .int .i64 ((x.pu : Nat) : Int), .int .i64 ((x.ru : Nat) : Int), .int .i64 j.1, .int .i64 j.2.1, .int .i64 j.2.2.1, .int .i64 j.2.2.2, .slice aQ1 (List.length x.Q) cQ1]) 5), ((nthV [.slice aL1 sn cL1, .slice aD1 (List.length (deadL x.D pg)) cD1, .slice aS1 ns cS1, .int .i64 ((x.pu : Nat) : Int), .int .i64 ((x.ru : Nat) : Int), .int .i64 j.1, .int .i64 j.2.1, .int .i64 j.2.2.1, .int .i64 j.2.2.2, .slice aQ1 (List.length x.Q) cQ1]) 6), ((nthV [.slice aL1 sn cL1, .slice aD1 (List.length (deadL x.D pg)) cD1, .slice aS1 ns cS1, .int .i64 ((x.pu : Nat) : Int), .int .i64 ((x.ru : Nat) : Int), .int .i64 j.1, .int .i64 j.2.1, .int .i64 j.2.2.1, .int .i64 j.2.2.2, .slice aQ1 (List.length x.Q) cQ1]) 7), ((nthV [.slice aL1 sn cL1, .slice aD1 (List.length (deadL x.D pg)) cD1, .slice aS1 ns cS1, .int .i64 ((x.pu : Nat) : Int), .int .i64 ((x.ru : Nat) : Int), .int .i64 j.1, .int .i64 j.2.1, .int .i64 j.2.2.1, .int .i64 j.2.2.2, .slice aQ1 (List.length x.Q) cQ1]) 8), ((nthV [.slice aL1 sn cL1, .slice aD1 (List.length (deadL x.D pg)) cD1, .slice aS1 ns cS1, .int .i64 ((x.pu : Nat) : Int), .int .i64 ((x.ru : Nat) : Int), .int .i64 j.1, .int .i64 j.2.1, .int .i64 j.2.2.1, .int .i64 j.2.2.2, .slice aQ1 (List.length x.Q) cQ1]) 9)] 110]) (by kernel_rfl)
            exact hSp1 _ _ ⟨(nthV [.slice aL1 sn cL1, .slice aD1 (List.length (deadL x.D pg)) cD1, .slice aS1 ns cS1, .int .i64 ((x.pu : Nat) : Int), .int .i64 ((x.ru : Nat) : Int), .int .i64 j.1, .int .i64 j.2.1, .int .i64 j.2.2.1, .int .i64 j.2.2.2, .slice aQ1 (List.length x.Q) cQ1]), _, frm_of, H⟩
          exact absurd h28 (by rw [hfb.trans h15]; decide)
        · skip
          refine x_seq <| z_region_whole H <| q_b [.n 25 0 4 77, .m] <| q_callR (.pointer (some ⟨p, 0, none⟩)) (by kernel_rfl) (fun _ => by kernel_rfl) (fun _ H => (Map_of (x := x) _ (H.ro1 [8]))) <| q_callR (.bool (decide (jrP r s b o c pg ns x.D x.S j))) (by kernel_rfl) (fun _ => by kernel_rfl) (fun _ H => (Right_any hL hx.v j ht _ (H.ro1 [9, 10, 11, 12]))) <| q_b [.v (.bool (decide (jrP r s b o c pg ns x.D x.S j)))] ?_
          cases h31 : decide (jrP r s b o c pg ns x.D x.S j)
          · skip
            have h31p := of_decide_eq_false h31
            refine q_b [.k, .k, .k, .k, .m, .m] <| q_nil ?_
            clear H
            intro v118 H
            refine x_then <| x_seq <| x_seq <| x_region <| x_b H [.m, .l 25 0] <| x_nil <| x_then ?_
            refine x_block <| x_seq <| x_region <| x_b H [.v (.bool (decide (j.1 = 1))), .v (.bool (decide (j.1 = 1)))] <| x_nil <| x_then ?_
            cases h32 : decide (j.1 = 1)
            · skip
              have h32p := of_decide_eq_false h32
              refine x_f (by kernel_rfl) <| x_seq <| x_region <| x_b H [.v (.bool (decide (j.1 = 2))), .v (.bool (decide (j.1 = 2)))] <| x_nil <| x_then ?_
              cases h33 : decide (j.1 = 2)
              · skip
                have h33p := of_decide_eq_false h33
                refine x_f (by kernel_rfl) <| x_skipc <| x_blk <| x_then ?_
                replace H := H.pk [0, 1, 2, 3, 4, 5, 6, 7, 8, 9, 10, 11, 12, 13, 14, 15, 16, 17, 18, 19, 20, 21, 22, 23, 24, 25, 26]
                exact hSp3 _ _ ⟨false, _, frm_of, H, (by unfold fitJ tkB; simp [h31, h32, h33] <;> omega)⟩
              have h33p := of_decide_eq_true h33
              refine x_t (by kernel_rfl) <| x_region <| x_b H [.m, .m, .k, .k, .k, .k, .k, .k, .k, .k, .k, .k, .m, .m, .k, .k, .k, .k, .k, .k, .k, .m, .m] <| x_nil <| z_fr 181 [(4, .pointer (some ⟨g1, 0, none⟩)), (6, .pointer (some ⟨g2, 0, none⟩)), (7, .pointer (some ⟨g3, 0, none⟩)), (9, .pointer (some ⟨rp, 0, none⟩)), (14, .pointer (some ⟨g5, 0, none⟩)), (15, .pointer (some ⟨rp2, 0, none⟩)), (16, .int .i64 0), (17, .bool false)] [] fun uf15 => x_blk <| x_then ?_
              replace H := H.pk [0, 1, 2, 3, 4, 5, 6, 7, 8, 9, 10, 11, 12, 13, 14, 15, 16, 17, 18, 19, 20, 21, 22, 23, 24, 25, 26]
              exact hSp3 _ _ ⟨false, _, frm_of, H, (by unfold fitJ tkB; simp [h31, h32, h33] <;> omega)⟩
            have h32p := of_decide_eq_true h32
            refine x_t (by kernel_rfl) <| z_region_whole H <| q_b [.m, .m, .k, .k, .k, .k, .k, .m, .m, .k, .k, .k, .k, .k, .k, .k, .k, .k, .m, .m, .k, .k, .k, .k, .k, .k, .k, .m, .m] <| q_nil ?_
            clear H
            intro v119 H
            refine z_fr 181 [(4, .pointer (some ⟨g1, 0, none⟩)), (6, .pointer (some ⟨g2, 0, none⟩)), (7, .pointer (some ⟨g3, 0, none⟩)), (9, .pointer (some ⟨rp, 0, none⟩)), (14, .pointer (some ⟨g5, 0, none⟩)), (15, .pointer (some ⟨rp2, 0, none⟩)), (16, .int .i64 0), (17, .bool false)] [] fun uf16 => x_blk <| x_then ?_
            replace H := H.pk [0, 1, 2, 3, 4, 5, 6, 7, 8, 9, 10, 11, 12, 13, 14, 15, 16, 17, 18, 19, 20, 21, 22, 23, 24, 25, 26]
            exact hSp3 _ _ ⟨false, _, frm_of, H, (by unfold fitJ tkB; simp [h31, h32] <;> omega)⟩
          have h31p := of_decide_eq_true h31
          refine q_b [.n 25 0 4 77, .n 26 0 7 25] <| q_callB (.bool (and (!(decide (j.1 = 0))) (decide (j.2.2.2 = (Rp.cnt b o c j))))) (by kernel_rfl) (fun _ => by kernel_rfl) (fun _ => (Done_any hL j _)) <| q_b [.v (.bool (!(and (!(decide (j.1 = 0))) (decide (j.2.2.2 = (Rp.cnt b o c j)))))), .v (.bool (!(and (!(decide (j.1 = 0))) (decide (j.2.2.2 = (Rp.cnt b o c j)))))), .v (.bool (!(and (!(decide (j.1 = 0))) (decide (j.2.2.2 = (Rp.cnt b o c j))))))] <| q_nil ?_
          clear H
          intro v120 H
          refine x_then <| x_seq <| x_seq <| x_region <| x_b H [.m, .l 25 0] <| x_nil <| x_then ?_
          refine x_block <| x_seq <| x_region <| x_b H [.v (.bool (decide (j.1 = 1))), .v (.bool (decide (j.1 = 1)))] <| x_nil <| x_then ?_
          cases h34 : decide (j.1 = 1)
          · skip
            have h34p := of_decide_eq_false h34
            refine x_f (by kernel_rfl) <| x_seq <| x_region <| x_b H [.v (.bool (decide (j.1 = 2))), .v (.bool (decide (j.1 = 2)))] <| x_nil <| x_then ?_
            cases h35 : decide (j.1 = 2)
            · skip
              have h35p := of_decide_eq_false h35
              refine x_f (by kernel_rfl) <| x_skipc <| x_blk <| x_then ?_
              replace H := H.pk [0, 1, 2, 3, 4, 5, 6, 7, 8, 9, 10, 11, 12, 13, 14, 15, 16, 17, 18, 19, 20, 21, 22, 23, 24, 25, 26]
              exact hSp3 _ _ ⟨(!(and (!(decide (j.1 = 0))) (decide (j.2.2.2 = (Rp.cnt b o c j))))), _, frm_of, H, (by unfold fitJ tkB; simp [h31, h34, h35] <;> omega)⟩
            have h35p := of_decide_eq_true h35
            refine x_t (by kernel_rfl) <| x_region <| x_b H [.v (.bool (!(and (!(decide (j.1 = 0))) (decide (j.2.2.2 = (Rp.cnt b o c j)))))), .v (.bool (!(and (!(decide (j.1 = 0))) (decide (j.2.2.2 = (Rp.cnt b o c j))))))] ?_
            cases h36 : and (!(decide (j.1 = 0))) (decide (j.2.2.2 = (Rp.cnt b o c j)))
            · skip
              refine x_b H [.m, .l 25 2, .m, .m, .l 26 0, .m, .m, .l 7 4] <| z_ar (r + ((x.ru : Nat) : Int)) <| x_b H [.v (.bool (decide (j.2.2.1 < (r + ((x.ru : Nat) : Int))))), .v (.bool (decide (j.2.2.1 < (r + ((x.ru : Nat) : Int))))), .v (.bool (decide (j.2.2.1 < (r + ((x.ru : Nat) : Int)))))] ?_
              cases h37 : decide (j.2.2.1 < (r + ((x.ru : Nat) : Int)))
              · skip
                have h37p := of_decide_eq_false h37
                refine x_b H [.k, .k, .k, .k, .k, .k, .k, .m, .m] <| x_nil <| z_fr 181 [(4, .pointer (some ⟨g1, 0, none⟩)), (6, .pointer (some ⟨g2, 0, none⟩)), (7, .pointer (some ⟨g3, 0, none⟩)), (9, .pointer (some ⟨rp, 0, none⟩)), (14, .pointer (some ⟨g5, 0, none⟩)), (15, .pointer (some ⟨rp2, 0, none⟩)), (16, .int .i64 0), (17, .bool false)] [] fun uf17 => x_blk <| x_then ?_
                replace H := H.pk [0, 1, 2, 3, 4, 5, 6, 7, 8, 9, 10, 11, 12, 13, 14, 15, 16, 17, 18, 19, 20, 21, 22, 23, 24, 25, 26]
                exact hSp3 _ _ ⟨false, _, frm_of, H, (by unfold fitJ tkB; simp [h31, h34, h35, h36, h37] <;> omega)⟩
              have h37p := of_decide_eq_true h37
              refine x_b H [.m, .m, .l 7 2, .m, .l 25 2] <| z_callB (v := .bool (decide (j.2.2.1 ∈ (spL x.S)))) H (has21_len (spL x.S) esp1 (by omega) j.2.2.1 _ (H.ro1 [17])) fun v121 H => x_b H [.v (.bool (!(decide (j.2.2.1 ∈ (spL x.S))))), .v (.bool (!(decide (j.2.2.1 ∈ (spL x.S))))), .v (.bool (!(decide (j.2.2.1 ∈ (spL x.S)))))] <| x_nil <| z_fr 181 [(4, .pointer (some ⟨g1, 0, none⟩)), (6, .pointer (some ⟨g2, 0, none⟩)), (7, .pointer (some ⟨g3, 0, none⟩)), (9, .pointer (some ⟨rp, 0, none⟩)), (14, .pointer (some ⟨g5, 0, none⟩)), (15, .pointer (some ⟨rp2, 0, none⟩)), (16, .int .i64 0), (17, .bool (!(decide (j.2.2.1 ∈ (spL x.S)))))] [] fun uf18 => x_blk <| x_then ?_
              replace H := H.pk [0, 1, 2, 3, 4, 5, 6, 7, 8, 9, 10, 11, 12, 13, 14, 15, 16, 17, 18, 19, 20, 21, 22, 23, 24, 25, 26]
              exact hSp3 _ _ ⟨(!(decide (j.2.2.1 ∈ (spL x.S)))), _, frm_of, H, (by unfold fitJ tkB; simp [h31, h34, h35, h36, h37] <;> omega)⟩
            refine x_b H [.k, .k, .k, .k, .k, .k, .k, .k, .k, .k, .m, .m, .k, .k, .k, .k, .k, .k, .k, .m, .m] <| x_nil <| z_fr 181 [(4, .pointer (some ⟨g1, 0, none⟩)), (6, .pointer (some ⟨g2, 0, none⟩)), (7, .pointer (some ⟨g3, 0, none⟩)), (9, .pointer (some ⟨rp, 0, none⟩)), (14, .pointer (some ⟨g5, 0, none⟩)), (15, .pointer (some ⟨rp2, 0, none⟩)), (16, .int .i64 0), (17, .bool false)] [] fun uf19 => x_blk <| x_then ?_
            replace H := H.pk [0, 1, 2, 3, 4, 5, 6, 7, 8, 9, 10, 11, 12, 13, 14, 15, 16, 17, 18, 19, 20, 21, 22, 23, 24, 25, 26]
            exact hSp3 _ _ ⟨false, _, frm_of, H, (by unfold fitJ tkB; simp [h31, h34, h35, h36] <;> omega)⟩
          have h34p := of_decide_eq_true h34
          refine x_t (by kernel_rfl) <| z_region_whole H <| q_b [.v (.bool (!(and (!(decide (j.1 = 0))) (decide (j.2.2.2 = (Rp.cnt b o c j)))))), .v (.bool (!(and (!(decide (j.1 = 0))) (decide (j.2.2.2 = (Rp.cnt b o c j))))))] ?_
          cases h38 : and (!(decide (j.1 = 0))) (decide (j.2.2.2 = (Rp.cnt b o c j)))
          · skip
            refine q_b [.m, .l 25 2, .n 26 0 7 25] <| q_callB (.int .i64 (sn : Int)) (by kernel_rfl) (fun _ => by kernel_rfl) (fun _ => (seen_of hL _)) <| q_b [.v (.bool (decide ((sn : Int) ≤ j.2.2.1))), .v (.bool (decide ((sn : Int) ≤ j.2.2.1))), .v (.bool (decide ((sn : Int) ≤ j.2.2.1)))] ?_
            cases h39 : decide ((sn : Int) ≤ j.2.2.1)
            · skip
              have h39p := of_decide_eq_false h39
              refine q_b [.k, .k, .k, .k, .k, .k, .k, .k, .k, .m, .m, .k, .k, .k, .k, .k, .k, .k, .m, .m] <| q_nil ?_
              clear H
              intro v122 H
              refine z_fr 181 [(4, .pointer (some ⟨g1, 0, none⟩)), (6, .pointer (some ⟨g2, 0, none⟩)), (7, .pointer (some ⟨g3, 0, none⟩)), (9, .pointer (some ⟨rp, 0, none⟩)), (14, .pointer (some ⟨g5, 0, none⟩)), (15, .pointer (some ⟨rp2, 0, none⟩)), (16, .int .i64 0), (17, .bool false)] [] fun uf20 => x_blk <| x_then ?_
              replace H := H.pk [0, 1, 2, 3, 4, 5, 6, 7, 8, 9, 10, 11, 12, 13, 14, 15, 16, 17, 18, 19, 20, 21, 22, 23, 24, 25, 26]
              exact hSp3 _ _ ⟨false, _, frm_of, H, (by unfold fitJ tkB; simp [h31, h34, h38, h39] <;> omega)⟩
            have h39p := of_decide_eq_true h39
            refine q_b [.m, .l 25 2, .n 26 0 7 25] <| q_callB (.int .i64 (sn : Int)) (by kernel_rfl) (fun _ => by kernel_rfl) (fun _ => (seen_of hL _)) <| q_b [.m, .m, .l 7 3] <| q_ar ((sn : Int) + ((x.pu : Nat) : Int)) ⟨by omega, by omega⟩ (by kernel_rfl) (fun _ => by kernel_rfl) <| q_b [.v (.bool (decide (j.2.2.1 < ((sn : Int) + ((x.pu : Nat) : Int))))), .v (.bool (decide (j.2.2.1 < ((sn : Int) + ((x.pu : Nat) : Int))))), .v (.bool (decide (j.2.2.1 < ((sn : Int) + ((x.pu : Nat) : Int)))))] ?_
            cases h40 : decide (j.2.2.1 < ((sn : Int) + ((x.pu : Nat) : Int)))
            · skip
              have h40p := of_decide_eq_false h40
              refine q_b [.k, .k, .k, .k, .k, .k, .k, .m, .m] <| q_nil ?_
              clear H
              intro v123 H
              refine z_fr 181 [(4, .pointer (some ⟨g1, 0, none⟩)), (6, .pointer (some ⟨g2, 0, none⟩)), (7, .pointer (some ⟨g3, 0, none⟩)), (9, .pointer (some ⟨rp, 0, none⟩)), (14, .pointer (some ⟨g5, 0, none⟩)), (15, .pointer (some ⟨rp2, 0, none⟩)), (16, .int .i64 0), (17, .bool false)] [] fun uf21 => x_blk <| x_then ?_
              replace H := H.pk [0, 1, 2, 3, 4, 5, 6, 7, 8, 9, 10, 11, 12, 13, 14, 15, 16, 17, 18, 19, 20, 21, 22, 23, 24, 25, 26]
              exact hSp3 _ _ ⟨false, _, frm_of, H, (by unfold fitJ tkB; simp [h31, h34, h38, h39, h40] <;> omega)⟩
            have h40p := of_decide_eq_true h40
            refine q_b [.m, .m, .l 7 0, .m, .l 25 2] <| q_callR (.bool (decide (j.2.2.1 ∈ x.L))) (by kernel_rfl) (fun _ => by kernel_rfl) (fun _ H => (has21_len x.L hx.v.m.hL (by omega) j.2.2.1 _ (H.ro1 [15]))) <| q_b [.v (.bool (!(decide (j.2.2.1 ∈ x.L)))), .v (.bool (!(decide (j.2.2.1 ∈ x.L)))), .v (.bool (!(decide (j.2.2.1 ∈ x.L))))] <| q_nil ?_
            clear H
            intro v124 H
            refine z_fr 181 [(4, .pointer (some ⟨g1, 0, none⟩)), (6, .pointer (some ⟨g2, 0, none⟩)), (7, .pointer (some ⟨g3, 0, none⟩)), (9, .pointer (some ⟨rp, 0, none⟩)), (14, .pointer (some ⟨g5, 0, none⟩)), (15, .pointer (some ⟨rp2, 0, none⟩)), (16, .int .i64 0), (17, .bool (!(decide (j.2.2.1 ∈ x.L))))] [] fun uf22 => x_blk <| x_then ?_
            replace H := H.pk [0, 1, 2, 3, 4, 5, 6, 7, 8, 9, 10, 11, 12, 13, 14, 15, 16, 17, 18, 19, 20, 21, 22, 23, 24, 25, 26]
            exact hSp3 _ _ ⟨(!(decide (j.2.2.1 ∈ x.L))), _, frm_of, H, (by unfold fitJ tkB; simp [h31, h34, h38, h39, h40] <;> omega)⟩
          refine q_b [.k, .k, .k, .k, .k, .m, .m, .k, .k, .k, .k, .k, .k, .k, .k, .k, .m, .m, .k, .k, .k, .k, .k, .k, .k, .m, .m] <| q_nil ?_
          clear H
          intro v125 H
          refine z_fr 181 [(4, .pointer (some ⟨g1, 0, none⟩)), (6, .pointer (some ⟨g2, 0, none⟩)), (7, .pointer (some ⟨g3, 0, none⟩)), (9, .pointer (some ⟨rp, 0, none⟩)), (14, .pointer (some ⟨g5, 0, none⟩)), (15, .pointer (some ⟨rp2, 0, none⟩)), (16, .int .i64 0), (17, .bool false)] [] fun uf23 => x_blk <| x_then ?_
          replace H := H.pk [0, 1, 2, 3, 4, 5, 6, 7, 8, 9, 10, 11, 12, 13, 14, 15, 16, 17, 18, 19, 20, 21, 22, 23, 24, 25, 26]
          exact hSp3 _ _ ⟨false, _, frm_of, H, (by unfold fitJ tkB; simp [h31, h34, h38] <;> omega)⟩
    have h6p := of_decide_eq_true h6
    refine x_t (by kernel_rfl) <| x_skipc <| x_then <| x_seq <| x_block <| x_seq <| x_region ?_
    obtain ⟨ga, oa, had, hcell⟩ := hA (by omega)
    refine x_ixO (t := 62) had k nA cA 74 3 (oa + k * 3) (by omega) (by omega) (by kernel_rfl) (by kernel_rfl) (by kernel_rfl) rfl (by kernel_rfl) <| x_loadcn (t := 74) ga (oa + k * 3) [.int .i64 ((l.getD k (0, 0, 0)).1), .int .i64 ((l.getD k (0, 0, 0)).2.1), .int .i64 ((l.getD k (0, 0, 0)).2.2)] (hcell _ H.below k (by omega)) (by kernel_rfl) rfl (by kernel_rfl) (by kernel_rfl) <| z_box H #[.int .i64 0, .int .i64 0, .int .i64 0] 74 (fun v126 g26 H => ?_)
    refine z_store H 0 0 [.int .i64 ((l.getD k (0, 0, 0)).1), .int .i64 ((l.getD k (0, 0, 0)).2.1), .int .i64 ((l.getD k (0, 0, 0)).2.2)] (fun v127 H => ?_)
    refine x_nil <| x_then <| x_seq <| x_region <| x_b H [.m, .n 12 0 17 68, .n 0 0 3 74] ?_
    have hx1 := hx.mv hL (l.getD k (0, 0, 0))
    refine z_call (H.useEP [1, 2, 3, 4, 5, 6, 7, 8, 9, 10, 11] (fun h => lstep hL hx hk hg (by omega) (by omega) (l.getD k (0, 0, 0)) _ h)) ?_
    rintro _ v128 ⟨⟨gn1, lsn1, ran1, qnn1⟩, rfl, H', hk1, hg1, ep1, er1⟩
    refine ⟨_, rfl, ?_⟩
    clear H
    have H := hsCast H' (L2 := [.blk rp #[.pointer (some ⟨p, 0, none⟩), .int .i64 (((Rp.mv r s z sn pg ns b o c x (l.getD k (0, 0, 0))).j).1), .int .i64 (((Rp.mv r s z sn pg ns b o c x (l.getD k (0, 0, 0))).j).2.1), .int .i64 (((Rp.mv r s z sn pg ns b o c x (l.getD k (0, 0, 0))).j).2.2.1), .int .i64 (((Rp.mv r s z sn pg ns b o c x (l.getD k (0, 0, 0))).j).2.2.2), .pointer (some ⟨q, 0, none⟩)] 133, .blk p #[.int .i64 r, .int .i64 s, .int .i64 b, .int .i64 o, .int .i64 c, .int .i64 y, .int .i64 z, .slice (some ⟨gl, 0, none⟩) sn cl, .slice (some ⟨gd, 0, none⟩) pg cd, .slice (some ⟨gs, 0, none⟩) ns cs, .int .i64 (((Rp.mv r s z sn pg ns b o c x (l.getD k (0, 0, 0))).pu : Nat) : Int), .int .i64 (((Rp.mv r s z sn pg ns b o c x (l.getD k (0, 0, 0))).ru : Nat) : Int)] 118, .row (.slice (some ⟨gl, 0, none⟩) sn cl) 3 1 sn (List.map (Value.int .i64) ((Rp.mv r s z sn pg ns b o c x (l.getD k (0, 0, 0))).L)), .row (.slice (some ⟨gd, 0, none⟩) pg cd) 4 1 pg (List.map Value.bool ((Rp.mv r s z sn pg ns b o c x (l.getD k (0, 0, 0))).D)), .row (.slice (some ⟨gs, 0, none⟩) ns cs) 3 1 ns (List.map (Value.int .i64) ((Rp.mv r s z sn pg ns b o c x (l.getD k (0, 0, 0))).S)), .blk q #[.slice (some ⟨gq, 0, none⟩) 256 cq, .int .i64 (ran1 : Int), .int .i64 (qnn1 : Int)] 170, .row (.slice (some ⟨gq, 0, none⟩) 256 cq) 72 2 256 (List.flatMap entL lsn1), .row (lv) 3 1 pg (List.map (Value.int .i64) (layL y r b o pg)), .row (gn1.pv) 156 2 (List.length gn1.Pg) (List.flatMap entL gn1.Pg), .row (gn1.kv) 156 2 (List.length gn1.Rk) (List.flatMap entL gn1.Rk), .row (gn1.fv) 147 2 (List.length gn1.F) (List.flatMap entL gn1.F), .blk g26 #[.int .i64 ((l.getD k (0, 0, 0)).1), .int .i64 ((l.getD k (0, 0, 0)).2.1), .int .i64 ((l.getD k (0, 0, 0)).2.2)] 74, .blk g4 #[.int .i64 r, .int .i64 s, .int .i64 b, .int .i64 o, .int .i64 c, .int .i64 y, .int .i64 z, lv, g.pv, g.kv, .int .i64 ((x.pu : Nat) : Int), .int .i64 ((x.ru : Nat) : Int), .int .i64 x.j.1, .int .i64 x.j.2.1, .int .i64 x.j.2.2.1, .int .i64 x.j.2.2.2, .slice g.ad g.n g.c] 68, .blk g3 #[.int .i64 aq.1, .int .i64 aq.2] 72, .blk g2 #[.int .i64 j.1, .int .i64 j.2.1, .int .i64 j.2.2.1, .int .i64 j.2.2.2] 77, .blk g1 #[.int .i64 r, .int .i64 s, .int .i64 b, .int .i64 o, .int .i64 c, .int .i64 y, .int .i64 z] 25]) (by kernel_rfl)
    clear H'
    replace hk1 : RgOk lsn1 ran1 qnn1 (Rp.mv r s z sn pg ns b o c x (l.getD k (0, 0, 0))).Q := hk1
    replace hg1 : D21.Ok pg sn ns (Rp.mv r s z sn pg ns b o c x (l.getD k (0, 0, 0))) gn1 := hg1
    replace ep1 : gn1.Pg.length ≤ g.Pg.length + 1 := ep1
    replace er1 : gn1.Rk.length ≤ g.Rk.length + 1 := er1
    refine x_b H [.m, .m, .m] ?_
    have h41o := H.rowOne 7 rfl
    have h42o := H.rowOne 8 rfl
    have h43o := H.rowOne 9 rfl
    refine z_store H 12 0 [.int .i64 r, .int .i64 s, .int .i64 b, .int .i64 o, .int .i64 c, .int .i64 y, .int .i64 z, lv, gn1.pv, gn1.kv, .int .i64 (((Rp.mv r s z sn pg ns b o c x (l.getD k (0, 0, 0))).pu : Nat) : Int), .int .i64 (((Rp.mv r s z sn pg ns b o c x (l.getD k (0, 0, 0))).ru : Nat) : Int), .int .i64 (((Rp.mv r s z sn pg ns b o c x (l.getD k (0, 0, 0))).j).1), .int .i64 (((Rp.mv r s z sn pg ns b o c x (l.getD k (0, 0, 0))).j).2.1), .int .i64 (((Rp.mv r s z sn pg ns b o c x (l.getD k (0, 0, 0))).j).2.2.1), .int .i64 (((Rp.mv r s z sn pg ns b o c x (l.getD k (0, 0, 0))).j).2.2.2), .slice gn1.ad gn1.n gn1.c] (fun v129 H => ?_) (h1 := (by simp only [List.all_cons, List.all_nil, h41o, h42o, h43o, Bool.and_true, Bool.true_and] <;> rfl))
    refine x_b H [.m] <| x_nil <| x_then <| x_seq <| x_region <| x_b H [.m, .m] <| x_nil ?_
    refine x_then <| x_f (by kernel_rfl) <| x_skipc <| x_blk <| x_then <| x_region <| z_ar ((k : Int) + 1) ?_
    refine x_b H [.m] <| x_nil <| x_then ?_
    replace H := H.pk [0, 1, 2, 3, 4, 5, 6, 7, 8, 9, 10, 12, 13, 14, 15]
    exact ⟨(k + 1, (Rp.mv r s z sn pg ns b o c x (l.getD k (0, 0, 0))), lsn1, ran1, qnn1, gn1), (by dsimp only; omega), _, frm_of, H, (by omega), hx1, hk1, hg1, (by omega), (by omega), (Qnd.mv hQ)⟩
  have h2p := of_decide_eq_true h2
  refine x_t (by kernel_rfl) <| x_seq <| x_region <| x_b H [.m] <| x_nil <| x_then <| x_retc ?_
  refine x_then_ret <| x_ret (.bool true) (by kernel_rfl) (by kernel_rfl) ?_
  exact ⟨rfl, H.below⟩
end Go.Proofs.Ytpmnnijjohlloaa
