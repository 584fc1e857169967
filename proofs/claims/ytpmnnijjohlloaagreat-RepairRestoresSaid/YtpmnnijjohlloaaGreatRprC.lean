/- Contracts of a repair: spent, start, Ask. -/
import Derived.Test.YtpmnnijjohlloaaGreatRprB
import Derived.Test.YtpmnnijjohlloaaGreatRprS
import Derived.Test.YtpmnnijjohlloaaGreatPxZ
namespace Go.Proofs.YtpmnnijjohlloaaGreat
open Go Go.RowKit
set_option linter.unusedVariables false
set_option linter.unusedSimpArgs false
theorem Rp.start_Q {r s z : Int} {sn : Nat} {x : Rp} {a : Ent} : (x.start r s z sn a).Q = x.Q := by
  unfold Rp.start; split <;> split <;> rfl
set_option maxRecDepth 100000 in
set_option maxHeartbeats 4000000 in
theorem spent_of (a : Ent) (ha : a.1 = 1 ∨ a.1 = 2) (w0 : World) :
    Calls Tryz.prog 44 #[.agg #[.int .i64 a.1, .int .i64 a.2]] w0 fun e w' => ∃ g, e = .returned (.slice (some ⟨g, 0, none⟩) 1 1) ∧ Hs [] w0 w' [.row (.slice (some ⟨g, 0, none⟩) 1 1) 66 3 (List.length ([(5, a.2, a.1 - 1)])) (List.flatMap int3L ([(5, a.2, a.1 - 1)]))] := by
  refine z_enter Tryz.func44 rfl ?_
  have H := Hs.nil w0
  refine x_seq <| x_region <| z_box H #[.int .i64 a.1, .int .i64 a.2] 52 (fun v1 g1 H => ?_)
  refine x_b H [.m] <| x_nil <| x_then <| x_seq <| x_region <| x_b H [.m, .l 0 1, .m, .l 0 0] <| z_ar (a.1 - 1) ?_
  refine x_b H [.m] <| x_box' H #[.int .i64 5, .int .i64 a.2, .int .i64 (a.1 - 1)] 66 1 (by kernel_rfl) rfl (by kernel_rfl) ?_
  clear H
  intro v2 g2 H
  refine x_b H [.m] <| x_nil <| x_then <| x_retc <| x_ret (.slice (some ⟨g2, 0, none⟩) 1 1) (by kernel_rfl) (by kernel_rfl) ?_
  replace H := H.rowLit 0 rfl 1 3 rfl (by decide)
  exact ⟨_, rfl, H.pk [0]⟩
set_option maxRecDepth 100000 in
set_option maxHeartbeats 4000000 in
theorem busy_of {p q rp : Nat} {x : Rp} (w0 : World) (hR : Ro w0 [.blk rp #[.pointer (some ⟨p, 0, none⟩), .int .i64 x.j.1, .int .i64 x.j.2.1, .int .i64 x.j.2.2.1, .int .i64 x.j.2.2.2, .pointer (some ⟨q, 0, none⟩)] 74]) :
    Calls Tryz.prog 42 #[.pointer (some ⟨rp, 0, none⟩)] w0 fun e w' => e = .returned (.bool (!(decide (x.j.1 = 0)))) ∧ Below w0.heap.size w0 w' := by
  refine z_enter Tryz.func42 rfl ?_
  have H := Hs.nil w0
  have R0 := hR
  refine x_seq <| x_region <| x_b H [.m] <| x_nil <| x_then <| x_seq <| x_region ?_
  refine x_b H [.m, .m, .m, .m] <| x_loadc rp 1 (.int .i64 x.j.1) ((H.ro R0).cell 0 rfl 1 rfl) (by kernel_rfl) rfl (by kernel_rfl) <| x_b H [.v (.bool (!(decide (x.j.1 = 0)))), .v (.bool (!(decide (x.j.1 = 0))))] <| x_nil <| x_then <| x_retc <| x_ret (.bool (!(decide (x.j.1 = 0)))) (by kernel_rfl) (by kernel_rfl) ?_
  exact ⟨rfl, H.below⟩
set_option maxRecDepth 100000 in
set_option maxHeartbeats 4000000 in
theorem start_of {M : List Nat} {r s b o c y z : Int} {pg sn ns : Nat} (hL : Lay r s b o c y z pg sn ns) {p gl cl gd cd gs cs q rp : Nat} {x : Rp}  (hx : RpOk r s b o c z sn pg ns x) {a : Ent} (hv : Rp.void sn ns x a = false) (w0 : World) (H0 : Hs M w0 w0 [.blk rp #[.pointer (some ⟨p, 0, none⟩), .int .i64 x.j.1, .int .i64 x.j.2.1, .int .i64 x.j.2.2.1, .int .i64 x.j.2.2.2, .pointer (some ⟨q, 0, none⟩)] 74, .blk p #[.int .i64 r, .int .i64 s, .int .i64 b, .int .i64 o, .int .i64 c, .int .i64 y, .int .i64 z, .slice (some ⟨gl, 0, none⟩) sn cl, .slice (some ⟨gd, 0, none⟩) pg cd, .slice (some ⟨gs, 0, none⟩) ns cs, .int .i64 ((x.pu : Nat) : Int), .int .i64 ((x.ru : Nat) : Int)] 109, .row (.slice (some ⟨gl, 0, none⟩) sn cl) 3 1 sn (List.map (Value.int .i64) x.L), .row (.slice (some ⟨gd, 0, none⟩) pg cd) 4 1 pg (List.map Value.bool x.D), .row (.slice (some ⟨gs, 0, none⟩) ns cs) 3 1 ns (List.map (Value.int .i64) x.S)]) :
    Calls Tryz.prog 43 #[.pointer (some ⟨rp, 0, none⟩), .agg #[.int .i64 a.1, .int .i64 a.2]] w0 fun e w' => ∃ g, e = .returned (.slice (some ⟨g, 0, none⟩) 1 1) ∧ Hs M w0 w' [.row (.slice (some ⟨g, 0, none⟩) 1 1) 66 3 (List.length ([(Rp.startV r s z sn x a)])) (List.flatMap int3L ([(Rp.startV r s z sn x a)])), .blk rp #[.pointer (some ⟨p, 0, none⟩), .int .i64 (((Rp.start r s z sn x a).j).1), .int .i64 (((Rp.start r s z sn x a).j).2.1), .int .i64 (((Rp.start r s z sn x a).j).2.2.1), .int .i64 (((Rp.start r s z sn x a).j).2.2.2), .pointer (some ⟨q, 0, none⟩)] 74, .blk p #[.int .i64 r, .int .i64 s, .int .i64 b, .int .i64 o, .int .i64 c, .int .i64 y, .int .i64 z, .slice (some ⟨gl, 0, none⟩) sn cl, .slice (some ⟨gd, 0, none⟩) pg cd, .slice (some ⟨gs, 0, none⟩) ns cs, .int .i64 (((Rp.start r s z sn x a).pu : Nat) : Int), .int .i64 (((Rp.start r s z sn x a).ru : Nat) : Int)] 109, .row (.slice (some ⟨gl, 0, none⟩) sn cl) 3 1 sn (List.map (Value.int .i64) ((Rp.start r s z sn x a).L)), .row (.slice (some ⟨gd, 0, none⟩) pg cd) 4 1 pg (List.map Value.bool ((Rp.start r s z sn x a).D)), .row (.slice (some ⟨gs, 0, none⟩) ns cs) 3 1 ns (List.map (Value.int .i64) ((Rp.start r s z sn x a).S))] := by
  refine z_enter Tryz.func43 rfl ?_
  have H := H0
  have hm := hx.v.m
  have hpu := hm.hp
  have hru := hm.hr
  have hsn := hL.hsn
  have hz0 := hL.z0
  have hz2 := hL.z2
  have hpg2 := hL.pg2
  have hr8 := hL.r8
  have hs8 := hL.s8
  have hr1 := hL.r1
  have hs0 := hL.s0
  have hns := hL.hns
  have hk2 := void_kind hv
  refine x_seq <| x_region <| z_box H #[.int .i64 a.1, .int .i64 a.2] 52 (fun v1 g1 H => ?_)
  refine x_b H [.m] <| x_nil <| x_then <| x_seq <| x_region <| x_b H [.m] <| x_nil ?_
  refine x_then <| x_seq <| x_region <| x_b H [.m, .m, .m, .l 1 0, .m, .m] <| x_nil <| x_then <| x_seq ?_
  refine x_seq <| x_region <| x_b H [.m, .l 0 0, .v (.bool (decide (a.1 = 2)))] <| x_nil <| x_then ?_
  cases h1 : decide (a.1 = 2)
  · skip
    have h1p := of_decide_eq_false h1
    refine x_f (by kernel_rfl) <| x_skipc <| x_then <| x_seq <| x_region <| x_b H [.m] ?_
    cases h2 : decide (((x.pu : Nat) : Int) = z)
    · skip
      have h2p := of_decide_eq_false h2
      refine z_callH (H.useI [2, 3, 4, 5] (fun h => TakePage_yes hL hx.v.m h2p _ h)) fun v2 H => x_b H [.m, .m, .m, .m, .m] <| x_nil <| x_then <| x_seq <| x_seq <| x_region ?_
      refine x_b H [.m, .m] <| x_nil <| x_then <| x_f (by kernel_rfl) <| x_skipc <| x_then <| x_seq ?_
      refine x_region <| x_b H [.m, .m, .l 4 0, .m, .l 4 1, .m, .m, .m, .m] <| z_store H 5 1 [.int .i64 a.1, .int .i64 a.2, .int .i64 ((sn : Int) + ((x.pu : Nat) : Int)), .int .i64 0] (fun v3 H => ?_)
      refine x_nil <| x_then <| x_seq <| x_region <| x_b H [.m, .m, .l 4 1, .m, .m] <| x_box' H #[.int .i64 3, .int .i64 a.2, .int .i64 ((sn : Int) + ((x.pu : Nat) : Int))] 66 1 (by kernel_rfl) rfl (by kernel_rfl) ?_
      clear H
      intro v4 g2 H
      refine x_b H [.m] <| x_nil <| x_then <| x_retc <| x_ret (.slice (some ⟨g2, 0, none⟩) 1 1) (by kernel_rfl) (by kernel_rfl) ?_
      have ek : a.1 = 1 := by omega
      have e1 : (Rp.start r s z sn x a) = { x with pu := x.pu + 1, j := (1, a.2, (sn : Int) + x.pu, 0) } := by unfold Rp.start; rw [if_pos (by omega), if_neg (by omega)]
      have e2 : (Rp.startV r s z sn x a) = (3, a.2, (sn : Int) + x.pu) := by unfold Rp.startV; rw [if_pos (by omega), if_neg (by omega)]
      rw [e1, e2]
      rw [ek] at H
      replace H := H.rowLit 0 rfl 1 3 rfl (by decide)
      replace H := H.pk [0, 6, 1, 2, 3, 4]
      exact ⟨_, rfl, H⟩
    have h2p := of_decide_eq_true h2
    refine z_callH (H.useI [2, 3, 4, 5] (fun h => TakePage_no hL hx.v.m h2p _ h)) fun v5 H => x_b H [.m, .m, .m, .m, .m] <| x_nil <| x_then <| x_seq <| x_seq <| x_region ?_
    refine x_b H [.m, .m] <| x_nil <| x_then <| x_t (by kernel_rfl) <| x_seq <| x_region <| x_b H [.n 4 0 2 52] ?_
    refine z_call (spent_of a hk2 _) ?_
    rintro _ v6 ⟨ge1, rfl, hN'⟩
    refine ⟨_, rfl, ?_⟩
    replace H := H.more hN'
    clear hN'
    refine x_b H [.m] <| x_nil <| x_then <| x_retc <| x_then_ret <| x_ret (.slice (some ⟨ge1, 0, none⟩) 1 1) (by kernel_rfl) (by kernel_rfl) ?_
    have ek : a.1 = 1 := by omega
    have e1 : (Rp.start r s z sn x a) = x := by unfold Rp.start; rw [if_pos (by omega), if_pos (by omega)]
    have e2 : (Rp.startV r s z sn x a) = (5, a.2, 0) := by unfold Rp.startV; rw [if_pos (by omega), if_pos (by omega)]
    rw [e1, e2]
    rw [ek] at H
    replace H := H.pk [0, 6, 1, 2, 3, 4]
    exact ⟨_, rfl, H⟩
  have h1p := of_decide_eq_true h1
  refine x_t (by kernel_rfl) <| z_region_whole H <| q_b [.m, .m, .m, .l 1 0, .m, .m, .m] <| q_nil ?_
  clear H
  intro v7 H
  refine x_then <| x_seq <| x_region <| x_b H [.m] ?_
  cases h3 : decide (((x.ru : Nat) : Int) = s)
  · skip
    have h3p := of_decide_eq_false h3
    refine z_callH (H.useI [2, 3, 4, 5] (fun h => TakeSpare_yes hL hx.v.m h3p _ h)) fun v8 H => x_b H [.m, .m, .m, .m, .m] <| x_nil <| x_then <| x_seq <| x_seq <| x_region ?_
    refine x_b H [.m, .m] <| x_nil <| x_then <| x_f (by kernel_rfl) <| x_skipc <| x_then <| x_seq ?_
    refine x_region <| x_b H [.m, .m, .l 4 0, .m, .l 4 1, .m, .m, .m, .m] <| z_store H 5 1 [.int .i64 a.1, .int .i64 a.2, .int .i64 (r + ((x.ru : Nat) : Int)), .int .i64 0] (fun v9 H => ?_)
    refine x_nil <| x_then <| x_seq <| x_region <| x_b H [.m, .m, .l 4 1, .m, .m] <| x_box' H #[.int .i64 4, .int .i64 a.2, .int .i64 (r + ((x.ru : Nat) : Int))] 66 1 (by kernel_rfl) rfl (by kernel_rfl) ?_
    clear H
    intro v10 g3 H
    refine x_b H [.m] <| x_nil <| z_fr 46 [(4, .slice (some ⟨g3, 0, none⟩) 1 1)] [] fun uf1 => x_then <| x_retc <| x_ret (.slice (some ⟨g3, 0, none⟩) 1 1) (by kernel_rfl) (by kernel_rfl) ?_
    have ek : a.1 = 2 := by omega
    have e1 : (Rp.start r s z sn x a) = { x with ru := x.ru + 1, j := (2, a.2, r + x.ru, 0) } := by unfold Rp.start; rw [if_neg (by omega), if_neg (by omega)]
    have e2 : (Rp.startV r s z sn x a) = (4, a.2, r + x.ru) := by unfold Rp.startV; rw [if_neg (by omega), if_neg (by omega)]
    rw [e1, e2]
    rw [ek] at H
    replace H := H.rowLit 0 rfl 1 3 rfl (by decide)
    replace H := H.pk [0, 6, 1, 2, 3, 4]
    exact ⟨_, rfl, H⟩
  have h3p := of_decide_eq_true h3
  refine z_callH (H.useI [2, 3, 4, 5] (fun h => TakeSpare_no hL hx.v.m h3p _ h)) fun v11 H => x_b H [.m, .m, .m, .m, .m] <| x_nil <| x_then <| x_seq <| x_seq <| x_region ?_
  refine x_b H [.m, .m] <| x_nil <| x_then <| x_t (by kernel_rfl) <| x_seq <| x_region <| x_b H [.n 4 0 2 52] ?_
  refine z_call (spent_of a hk2 _) ?_
  rintro _ v12 ⟨ge2, rfl, hN'⟩
  refine ⟨_, rfl, ?_⟩
  replace H := H.more hN'
  clear hN'
  refine x_b H [.m] <| x_nil <| x_then <| x_retc <| x_then_ret <| x_ret (.slice (some ⟨ge2, 0, none⟩) 1 1) (by kernel_rfl) (by kernel_rfl) ?_
  have ek : a.1 = 2 := by omega
  have e1 : (Rp.start r s z sn x a) = x := by unfold Rp.start; rw [if_neg (by omega), if_pos (by omega)]
  have e2 : (Rp.startV r s z sn x a) = (5, a.2, 1) := by unfold Rp.startV; rw [if_neg (by omega), if_pos (by omega)]
  rw [e1, e2]
  rw [ek] at H
  replace H := H.pk [0, 6, 1, 2, 3, 4]
  exact ⟨_, rfl, H⟩
set_option maxRecDepth 100000 in
set_option maxHeartbeats 4000000 in
theorem ask_of {M : List Nat} {r s b o c y z : Int} {pg sn ns : Nat} (hL : Lay r s b o c y z pg sn ns) {p gl cl gd cd gs cs q gq cq rp : Nat} {x : Rp} {ls : List Ent} {ra qn : Nat} (hx : RpOk r s b o c z sn pg ns x) (hk : RgOk ls ra qn x.Q) (a : Ent) (w0 : World) (H0 : Hs M w0 w0 [.blk rp #[.pointer (some ⟨p, 0, none⟩), .int .i64 x.j.1, .int .i64 x.j.2.1, .int .i64 x.j.2.2.1, .int .i64 x.j.2.2.2, .pointer (some ⟨q, 0, none⟩)] 74, .blk p #[.int .i64 r, .int .i64 s, .int .i64 b, .int .i64 o, .int .i64 c, .int .i64 y, .int .i64 z, .slice (some ⟨gl, 0, none⟩) sn cl, .slice (some ⟨gd, 0, none⟩) pg cd, .slice (some ⟨gs, 0, none⟩) ns cs, .int .i64 ((x.pu : Nat) : Int), .int .i64 ((x.ru : Nat) : Int)] 109, .row (.slice (some ⟨gl, 0, none⟩) sn cl) 3 1 sn (List.map (Value.int .i64) x.L), .row (.slice (some ⟨gd, 0, none⟩) pg cd) 4 1 pg (List.map Value.bool x.D), .row (.slice (some ⟨gs, 0, none⟩) ns cs) 3 1 ns (List.map (Value.int .i64) x.S), .blk q #[.slice (some ⟨gq, 0, none⟩) 256 cq, .int .i64 ((ra : Nat) : Int), .int .i64 ((qn : Nat) : Int)] 123, .row (.slice (some ⟨gq, 0, none⟩) 256 cq) 52 2 256 (List.flatMap entL ls)]) :
    Calls Tryz.prog 12 #[.pointer (some ⟨rp, 0, none⟩), .agg #[.int .i64 a.1, .int .i64 a.2]] w0 fun e w' => ∃ u : Value × (List Ent × Nat × Nat), e = .returned u.1 ∧ Hs M w0 w' [.row (u.1) 66 3 (List.length (Rp.askV r s z sn ns x a)) (List.flatMap int3L (Rp.askV r s z sn ns x a)), .blk rp #[.pointer (some ⟨p, 0, none⟩), .int .i64 (((Rp.ask r s z sn ns x a).j).1), .int .i64 (((Rp.ask r s z sn ns x a).j).2.1), .int .i64 (((Rp.ask r s z sn ns x a).j).2.2.1), .int .i64 (((Rp.ask r s z sn ns x a).j).2.2.2), .pointer (some ⟨q, 0, none⟩)] 74, .blk p #[.int .i64 r, .int .i64 s, .int .i64 b, .int .i64 o, .int .i64 c, .int .i64 y, .int .i64 z, .slice (some ⟨gl, 0, none⟩) sn cl, .slice (some ⟨gd, 0, none⟩) pg cd, .slice (some ⟨gs, 0, none⟩) ns cs, .int .i64 (((Rp.ask r s z sn ns x a).pu : Nat) : Int), .int .i64 (((Rp.ask r s z sn ns x a).ru : Nat) : Int)] 109, .row (.slice (some ⟨gl, 0, none⟩) sn cl) 3 1 sn (List.map (Value.int .i64) ((Rp.ask r s z sn ns x a).L)), .row (.slice (some ⟨gd, 0, none⟩) pg cd) 4 1 pg (List.map Value.bool ((Rp.ask r s z sn ns x a).D)), .row (.slice (some ⟨gs, 0, none⟩) ns cs) 3 1 ns (List.map (Value.int .i64) ((Rp.ask r s z sn ns x a).S)), .blk q #[.slice (some ⟨gq, 0, none⟩) 256 cq, .int .i64 ((u.2.2.1 : Nat) : Int), .int .i64 ((u.2.2.2 : Nat) : Int)] 123, .row (.slice (some ⟨gq, 0, none⟩) 256 cq) 52 2 256 (List.flatMap entL u.2.1)] ∧ RgOk u.2.1 u.2.2.1 u.2.2.2 (Rp.ask r s z sn ns x a).Q := by
  refine z_enter Tryz.func12 rfl ?_
  have H := H0
  have hm := hx.v.m
  have hpu := hm.hp
  have hru := hm.hr
  have hsn := hL.hsn
  have hz0 := hL.z0
  have hz2 := hL.z2
  have hpg2 := hL.pg2
  have hr8 := hL.r8
  have hs8 := hL.s8
  have hr1 := hL.r1
  have hs0 := hL.s0
  have hns := hL.hns
  refine x_seq <| x_region <| z_box H #[.int .i64 a.1, .int .i64 a.2] 52 (fun v1 g1 H => ?_)
  refine x_b H [.m] <| x_nil <| x_then <| x_seq <| x_block <| x_seq <| x_region ?_
  refine x_b H [.m, .n 0 0 2 52] <| z_callB (v := .bool (Rp.void sn ns x a)) H (void_any hL hx a _ (H.ro1 [1, 2, 3, 4, 5])) fun v2 H => x_b H [.v (.bool (Rp.void sn ns x a))] <| x_nil <| x_then ?_
  cases h1 : Rp.void sn ns x a
  · skip
    refine x_f (by kernel_rfl) <| x_seq <| x_region <| x_b H [.m] <| z_callB (v := .bool (!(decide (x.j.1 = 0)))) H (busy_of _ (H.ro1 [1])) fun v3 H => x_b H [.v (.bool (!(!(decide (x.j.1 = 0))))), .v (.bool (!(!(decide (x.j.1 = 0)))))] <| x_nil ?_
    refine x_then ?_
    cases h2 : decide (x.j.1 = 0)
    · skip
      have h2p := of_decide_eq_false h2
      refine x_f (by kernel_rfl) <| x_skipc <| x_blk <| x_then <| x_seq <| x_seq <| z_region_head H 5 ?_
      refine q_b [.m, .m, .m, .l 1 5, .n 0 0 2 52] <| q_nil ?_
      clear H
      intro v4 H
      have hk2 := void_kind h1
      refine z_call (H.useEP [6, 7] (fun h => ROnce hk a _ h)) ?_
      rintro _ v5 ⟨⟨ls1, ra1, qn1⟩, rfl, H', hk1⟩
      refine ⟨_, rfl, ?_⟩
      clear H
      have H := hsCast H' (L2 := [.blk q #[.slice (some ⟨gq, 0, none⟩) 256 cq, .int .i64 (ra1 : Int), .int .i64 (qn1 : Int)] 123, .row (.slice (some ⟨gq, 0, none⟩) 256 cq) 52 2 256 (List.flatMap entL ls1), .blk g1 #[.int .i64 a.1, .int .i64 a.2] 52, .blk rp #[.pointer (some ⟨p, 0, none⟩), .int .i64 x.j.1, .int .i64 x.j.2.1, .int .i64 x.j.2.2.1, .int .i64 x.j.2.2.2, .pointer (some ⟨q, 0, none⟩)] 74, .blk p #[.int .i64 r, .int .i64 s, .int .i64 b, .int .i64 o, .int .i64 c, .int .i64 y, .int .i64 z, .slice (some ⟨gl, 0, none⟩) sn cl, .slice (some ⟨gd, 0, none⟩) pg cd, .slice (some ⟨gs, 0, none⟩) ns cs, .int .i64 ((x.pu : Nat) : Int), .int .i64 ((x.ru : Nat) : Int)] 109, .row (.slice (some ⟨gl, 0, none⟩) sn cl) 3 1 sn (List.map (Value.int .i64) x.L), .row (.slice (some ⟨gd, 0, none⟩) pg cd) 4 1 pg (List.map Value.bool x.D), .row (.slice (some ⟨gs, 0, none⟩) ns cs) 3 1 ns (List.map (Value.int .i64) x.S)]) (by kernel_rfl)
      clear H'
      refine x_b H [.v (.bool (decide ((onE x.Q a) = 14)))] <| x_nil <| x_then ?_
      cases h3 : decide ((onE x.Q a) = 14)
      · skip
        have h3p := of_decide_eq_false h3
        refine x_f (by kernel_rfl) <| x_skipc <| x_then <| x_seq <| x_region <| x_b H [.m] <| x_nil ?_
        refine x_then <| x_retc <| x_ret (.slice none 0 0) (by kernel_rfl) (by kernel_rfl) ?_
        have e1 : (Rp.ask r s z sn ns x a) = { x with Q := onQ x.Q a } := by unfold Rp.ask; rw [if_neg (by rw [h1]; decide), if_neg h2p]
        have e2 : (Rp.askV r s z sn ns x a) = [] := by unfold Rp.askV; rw [if_neg (by rw [h1]; decide), if_neg h2p]; rw [if_neg h3p]
        rw [e1, e2]
        replace H := H.nilRow 66 3
        replace H := H.pk [0, 4, 5, 6, 7, 8, 1, 2]
        exact ⟨(.slice none 0 0, (ls1, ra1, qn1)), rfl, H, hk1⟩
      have h3p := of_decide_eq_true h3
      refine x_t (by kernel_rfl) <| x_seq <| x_region <| x_b H [.n 2 0 2 52] <| z_call (spent_of a hk2 _) ?_
      rintro _ v6 ⟨ge1, rfl, hN'⟩
      refine ⟨_, rfl, ?_⟩
      replace H := H.more hN'
      clear hN'
      refine x_b H [.m] <| x_nil <| x_then <| x_retc <| x_then_ret <| x_ret (.slice (some ⟨ge1, 0, none⟩) 1 1) (by kernel_rfl) (by kernel_rfl) ?_
      have e1 : (Rp.ask r s z sn ns x a) = { x with Q := onQ x.Q a } := by unfold Rp.ask; rw [if_neg (by rw [h1]; decide), if_neg h2p]
      have e2 : (Rp.askV r s z sn ns x a) = [(5, a.2, a.1 - 1)] := by unfold Rp.askV; rw [if_neg (by rw [h1]; decide), if_neg h2p]; rw [if_pos h3p]
      rw [e1, e2]
      replace H := H.pk [0, 4, 5, 6, 7, 8, 1, 2]
      exact ⟨(.slice (some ⟨ge1, 0, none⟩) 1 1, (ls1, ra1, qn1)), rfl, H, hk1⟩
    have h2p := of_decide_eq_true h2
    refine x_t (by kernel_rfl) <| x_seq <| x_region <| x_b H [.m, .n 0 0 2 52] <| z_call (H.useEI [1, 2, 3, 4, 5] (fun h => start_of hL hx h1 _ h)) ?_
    rintro _ v7 ⟨gs, rfl, H'⟩
    refine ⟨_, rfl, ?_⟩
    clear H
    have H := H'
    clear H'
    have hk2 := void_kind h1
    refine x_b H [.m] <| x_nil <| x_then <| x_retc <| x_blk_ret <| x_then_ret <| x_ret (.slice (some ⟨gs, 0, none⟩) 1 1) (by kernel_rfl) (by kernel_rfl) ?_
    have e1 : (Rp.ask r s z sn ns x a) = (Rp.start r s z sn x a) := by unfold Rp.ask; rw [if_neg (by rw [h1]; decide), if_pos h2p]
    have e2 : (Rp.askV r s z sn ns x a) = [(Rp.startV r s z sn x a)] := by unfold Rp.askV; rw [if_neg (by rw [h1]; decide), if_pos h2p]
    rw [e1, e2]
    replace H := H.pk [0, 1, 2, 3, 4, 5, 7, 8]
    exact ⟨(.slice (some ⟨gs, 0, none⟩) 1 1, (ls, ra, qn)), rfl, H, (by rw [Rp.start_Q]; exact hk)⟩
  refine x_t (by kernel_rfl) <| x_seq <| x_region <| x_b H [.m] <| x_nil <| x_then <| x_retc ?_
  refine x_blk_ret <| x_then_ret <| x_ret (.slice none 0 0) (by kernel_rfl) (by kernel_rfl) ?_
  have e1 : (Rp.ask r s z sn ns x a) = x := by unfold Rp.ask; rw [if_pos h1]
  have e2 : (Rp.askV r s z sn ns x a) = [] := by unfold Rp.askV; rw [if_pos h1]
  rw [e1, e2]
  replace H := H.nilRow 66 3
  replace H := H.pk [0, 2, 3, 4, 5, 6, 7, 8]
  exact ⟨(.slice none 0 0, (ls, ra, qn)), rfl, H, hk⟩
end Go.Proofs.YtpmnnijjohlloaaGreat
