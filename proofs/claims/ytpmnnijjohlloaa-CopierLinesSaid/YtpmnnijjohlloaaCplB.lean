/- Contracts: lines at any number, what may be, a map behind steps, the lines in order. -/
import Derived.Test.YtpmnnijjohlloaaCplA
import Derived.Test.YtpmnnijjohlloaaRprN
import Derived.Test.YtpmnnijjohlloaaRemapPl
import Derived.Test.YtpmnnijjohlloaaPxZ
namespace Go.Proofs.Ytpmnnijjohlloaa
open Go Go.RowKit
set_option linter.unusedVariables false
set_option linter.unusedSimpArgs false
/-- What hasn't moved: sources and goals. -/
def linL (y r b o c : Int) (S : List Int) (j : Job4) (N : Nat) : List Ent := (List.range N).map fun (k : Nat) => (atI y r b o c S j.1 j.2.1 (j.2.2.2 + (k : Int)), atI y r b o c S j.1 j.2.2.1 (j.2.2.2 + (k : Int)))
theorem linL_len (y r b o c : Int) (S : List Int) (j : Job4) (N : Nat) : (linL y r b o c S j N).length = N := by simp [linL]
theorem linL_get (y r b o c : Int) (S : List Int) (j : Job4) {N k : Nat} (h : k < N) : (linL y r b o c S j N).getD k (0, 0) = (atI y r b o c S j.1 j.2.1 (j.2.2.2 + (k : Int)), atI y r b o c S j.1 j.2.2.1 (j.2.2.2 + (k : Int))) := by simp [linL, List.getD, h]
theorem prefix_getE {pre xs : List Ent} {x : Ent} (h : pre ++ [x] <+: xs) : xs.getD pre.length (0, 0) = x ∧ pre.length < xs.length := by
  obtain ⟨t, rfl⟩ := h
  simp [List.getD]
set_option maxRecDepth 100000 in
set_option maxHeartbeats 4000000 in
theorem at_out {r s b o c y z : Int} {pg sn ns : Nat} (hL : Lay r s b o c y z pg sn ns) {p gl cl gd cd gs cs : Nat} {L : List Int} {D : List Bool} {S : List Int} {pu ru : Nat} (hV : MapV r s z sn pg ns L D S pu ru) (j : Job4) (ht : -9223372036854775808 ≤ j.2.2.1 ∧ j.2.2.1 ≤ 9223372036854775807) (wh i : Int) (ho : ¬ (jrP r s b o c pg ns D S j ∧ 0 ≤ i ∧ i < (Rp.cnt b o c j))) (w0 : World) (hR : Ro w0 [.blk p #[.int .i64 r, .int .i64 s, .int .i64 b, .int .i64 o, .int .i64 c, .int .i64 y, .int .i64 z, .slice (some ⟨gl, 0, none⟩) sn cl, .slice (some ⟨gd, 0, none⟩) pg cd, .slice (some ⟨gs, 0, none⟩) ns cs, .int .i64 ((pu : Nat) : Int), .int .i64 ((ru : Nat) : Int)] 118, .row (.slice (some ⟨gl, 0, none⟩) sn cl) 3 1 sn (List.map (Value.int .i64) L), .row (.slice (some ⟨gd, 0, none⟩) pg cd) 4 1 pg (List.map Value.bool D), .row (.slice (some ⟨gs, 0, none⟩) ns cs) 3 1 ns (List.map (Value.int .i64) S)]) :
    Calls Try.prog 96 #[.agg #[.int .i64 j.1, .int .i64 j.2.1, .int .i64 j.2.2.1, .int .i64 j.2.2.2], .pointer (some ⟨p, 0, none⟩), .int .i64 wh, .int .i64 i] w0 fun e w' => e = .returned (.tuple #[.int .i64 0, .int .i64 12]) ∧ Below w0.heap.size w0 w' := by
  refine z_enter Try.func96 rfl ?_
  have H := Hs.nil w0
  have R0 := hR
  have hg := geom_of hL
  have hm := hV.m
  have hpu := hm.hp
  have hru := hm.hr
  have hsn := hL.hsn
  have hz0 := hL.z0
  have hz2 := hL.z2
  have hpg2 := hL.pg2
  have hr8 := hL.r8
  have hs8 := hL.s8
  have hr1 := hL.r1
  have hs0 := hL.s0
  have hns := hL.hns
  have hc1 := hL.c1
  have hc2 := hL.c2
  have hb1 := hL.b1
  have hb2 := hL.b2
  have ho1 := hL.o1
  have ho2 := hL.o2
  obtain ⟨hcn0, hcn1⟩ := cnt_bd hg j
  have hcp : ¬ j.1 = 1 ∨ Rp.cnt b o c j = c := by by_cases e : j.1 = 1; exact .inr (by unfold Rp.cnt; rw [if_pos e]); exact .inl e
  have hcr : ¬ j.1 = 2 ∨ Rp.cnt b o c j = b * o * c := by by_cases e : j.1 = 2; exact .inr (by unfold Rp.cnt; rw [if_neg (by omega), if_pos e]); exact .inl e
  refine x_seq <| x_region <| z_box H #[.int .i64 j.1, .int .i64 j.2.1, .int .i64 j.2.2.1, .int .i64 j.2.2.2] 77 (fun v1 g1 H => ?_)
  refine x_b H [.m, .m] <| x_nil <| x_then <| x_seq <| x_seq <| z_region_whole H <| q_b [.n 0 0 4 77, .m] ?_
  refine q_callR (.bool (decide (jrP r s b o c pg ns D S j))) (by kernel_rfl) (fun _ => by kernel_rfl) (fun _ H => (Right_any hL hV j ht _ (H.ro R0))) <| q_b [.v (.bool (!(decide (jrP r s b o c pg ns D S j)))), .v (.bool (!(decide (jrP r s b o c pg ns D S j))))] ?_
  cases h1 : decide (jrP r s b o c pg ns D S j)
  · skip
    have h1p := of_decide_eq_false h1
    refine q_b [.k, .k, .k, .k, .k, .k, .k, .m] <| q_nil ?_
    clear H
    intro v2 H
    refine x_then <| x_t (by kernel_rfl) <| x_seq <| x_region <| x_b H [.m, .m] <| x_nil <| x_then ?_
    refine x_retc <| x_then_ret <| x_ret (.tuple #[.int .i64 0, .int .i64 12]) (by kernel_rfl) (by kernel_rfl) ?_
    exact ⟨rfl, H.below⟩
  have h1p := of_decide_eq_true h1
  refine q_b [.m, .n 0 0 4 77, .m] <| q_callR (.agg #[.int .i64 r, .int .i64 s, .int .i64 b, .int .i64 o, .int .i64 c, .int .i64 y, .int .i64 z]) (by kernel_rfl) (fun _ => by kernel_rfl) (fun _ H => (Layout_of hL hV.m _ (H.ro R0))) <| q_callB (.int .i64 (Rp.cnt b o c j)) (by kernel_rfl) (fun _ => by kernel_rfl) (fun _ => (Count_any hL j _)) <| q_callB (.bool (decide (0 ≤ i) && decide (i < (Rp.cnt b o c j)))) (by kernel_rfl) (fun _ => by kernel_rfl) (fun _ => (cbelow_any _ _ _)) <| q_b [.v (.bool (!(decide (0 ≤ i) && decide (i < (Rp.cnt b o c j))))), .v (.bool (!(decide (0 ≤ i) && decide (i < (Rp.cnt b o c j)))))] <| q_nil ?_
  clear H
  intro v3 H
  refine x_then ?_
  cases h2 : decide (0 ≤ i) && decide (i < (Rp.cnt b o c j))
  · skip
    refine x_t (by kernel_rfl) <| x_seq <| x_region <| x_b H [.m, .m] <| x_nil <| x_then <| x_retc ?_
    refine x_then_ret <| x_ret (.tuple #[.int .i64 0, .int .i64 12]) (by kernel_rfl) (by kernel_rfl) ?_
    exact ⟨rfl, H.below⟩
  exfalso; simp only [Bool.and_eq_true, decide_eq_true_eq] at h2; exact ho ⟨of_decide_eq_true h1, h2⟩
set_option maxRecDepth 100000 in
set_option maxHeartbeats 4000000 in
theorem Source_out {r s b o c y z : Int} {pg sn ns : Nat} (hL : Lay r s b o c y z pg sn ns) {p gl cl gd cd gs cs : Nat} {L : List Int} {D : List Bool} {S : List Int} {pu ru : Nat} (hV : MapV r s z sn pg ns L D S pu ru) (j : Job4) (ht : -9223372036854775808 ≤ j.2.2.1 ∧ j.2.2.1 ≤ 9223372036854775807) (i : Int) (ho : ¬ (jrP r s b o c pg ns D S j ∧ 0 ≤ i ∧ i < (Rp.cnt b o c j))) (w0 : World) (hR : Ro w0 [.blk p #[.int .i64 r, .int .i64 s, .int .i64 b, .int .i64 o, .int .i64 c, .int .i64 y, .int .i64 z, .slice (some ⟨gl, 0, none⟩) sn cl, .slice (some ⟨gd, 0, none⟩) pg cd, .slice (some ⟨gs, 0, none⟩) ns cs, .int .i64 ((pu : Nat) : Int), .int .i64 ((ru : Nat) : Int)] 118, .row (.slice (some ⟨gl, 0, none⟩) sn cl) 3 1 sn (List.map (Value.int .i64) L), .row (.slice (some ⟨gd, 0, none⟩) pg cd) 4 1 pg (List.map Value.bool D), .row (.slice (some ⟨gs, 0, none⟩) ns cs) 3 1 ns (List.map (Value.int .i64) S)]) :
    Calls Try.prog 47 #[.agg #[.int .i64 j.1, .int .i64 j.2.1, .int .i64 j.2.2.1, .int .i64 j.2.2.2], .pointer (some ⟨p, 0, none⟩), .int .i64 i] w0 fun e w' => e = .returned (.tuple #[.int .i64 0, .int .i64 12]) ∧ Below w0.heap.size w0 w' := by
  refine z_enter Try.func47 rfl ?_
  have H := Hs.nil w0
  have R0 := hR
  refine x_seq <| x_region <| z_box H #[.int .i64 j.1, .int .i64 j.2.1, .int .i64 j.2.2.1, .int .i64 j.2.2.2] 77 (fun v1 g1 H => ?_)
  refine x_b H [.m, .m] <| x_nil <| x_then <| x_seq <| x_region <| x_b H [.n 0 0 4 77, .m, .m, .l 0 1, .m] <| z_callB H (at_out hL hV j ht j.2.1 i ho _ (H.ro R0)) fun v2 H => ?_
  refine x_b H [.m, .m, .m, .m] <| x_nil <| x_then <| x_retc <| x_ret (.tuple #[.int .i64 0, .int .i64 12]) (by kernel_rfl) (by kernel_rfl) ?_
  exact ⟨rfl, H.below⟩
set_option maxRecDepth 100000 in
set_option maxHeartbeats 4000000 in
theorem Goal_out {r s b o c y z : Int} {pg sn ns : Nat} (hL : Lay r s b o c y z pg sn ns) {p gl cl gd cd gs cs : Nat} {L : List Int} {D : List Bool} {S : List Int} {pu ru : Nat} (hV : MapV r s z sn pg ns L D S pu ru) (j : Job4) (ht : -9223372036854775808 ≤ j.2.2.1 ∧ j.2.2.1 ≤ 9223372036854775807) (i : Int) (ho : ¬ (jrP r s b o c pg ns D S j ∧ 0 ≤ i ∧ i < (Rp.cnt b o c j))) (w0 : World) (hR : Ro w0 [.blk p #[.int .i64 r, .int .i64 s, .int .i64 b, .int .i64 o, .int .i64 c, .int .i64 y, .int .i64 z, .slice (some ⟨gl, 0, none⟩) sn cl, .slice (some ⟨gd, 0, none⟩) pg cd, .slice (some ⟨gs, 0, none⟩) ns cs, .int .i64 ((pu : Nat) : Int), .int .i64 ((ru : Nat) : Int)] 118, .row (.slice (some ⟨gl, 0, none⟩) sn cl) 3 1 sn (List.map (Value.int .i64) L), .row (.slice (some ⟨gd, 0, none⟩) pg cd) 4 1 pg (List.map Value.bool D), .row (.slice (some ⟨gs, 0, none⟩) ns cs) 3 1 ns (List.map (Value.int .i64) S)]) :
    Calls Try.prog 48 #[.agg #[.int .i64 j.1, .int .i64 j.2.1, .int .i64 j.2.2.1, .int .i64 j.2.2.2], .pointer (some ⟨p, 0, none⟩), .int .i64 i] w0 fun e w' => e = .returned (.tuple #[.int .i64 0, .int .i64 12]) ∧ Below w0.heap.size w0 w' := by
  refine z_enter Try.func48 rfl ?_
  have H := Hs.nil w0
  have R0 := hR
  refine x_seq <| x_region <| z_box H #[.int .i64 j.1, .int .i64 j.2.1, .int .i64 j.2.2.1, .int .i64 j.2.2.2] 77 (fun v1 g1 H => ?_)
  refine x_b H [.m, .m] <| x_nil <| x_then <| x_seq <| x_region <| x_b H [.n 0 0 4 77, .m, .m, .l 0 2, .m] <| z_callB H (at_out hL hV j ht j.2.2.1 i ho _ (H.ro R0)) fun v2 H => ?_
  refine x_b H [.m, .m, .m, .m] <| x_nil <| x_then <| x_retc <| x_ret (.tuple #[.int .i64 0, .int .i64 12]) (by kernel_rfl) (by kernel_rfl) ?_
  exact ⟨rfl, H.below⟩
set_option maxRecDepth 100000 in
set_option maxHeartbeats 4000000 in
theorem pages20_p {r s b o c y z : Int} {pg sn ns : Nat} (hL : Lay r s b o c y z pg sn ns) {p gl cl gd cd gs cs : Nat} {L : List Int} {D : List Bool} {S : List Int} {pu ru : Nat} (hV : MapV r s z sn pg ns L D S pu ru) (w : Int) (hw : 0 ≤ w ∧ w < (pg : Int)) (w0 : World) (hR : Ro w0 [.blk p #[.int .i64 r, .int .i64 s, .int .i64 b, .int .i64 o, .int .i64 c, .int .i64 y, .int .i64 z, .slice (some ⟨gl, 0, none⟩) sn cl, .slice (some ⟨gd, 0, none⟩) pg cd, .slice (some ⟨gs, 0, none⟩) ns cs, .int .i64 ((pu : Nat) : Int), .int .i64 ((ru : Nat) : Int)] 118, .row (.slice (some ⟨gl, 0, none⟩) sn cl) 3 1 sn (List.map (Value.int .i64) L), .row (.slice (some ⟨gd, 0, none⟩) pg cd) 4 1 pg (List.map Value.bool D), .row (.slice (some ⟨gs, 0, none⟩) ns cs) 3 1 ns (List.map (Value.int .i64) S)]) :
    Calls Try.prog 53 #[.pointer (some ⟨p, 0, none⟩), .int .i64 w, .int .i64 1] w0 fun e w' => e = .returned (.int .i64 (idxP y r b o S w)) ∧ Below w0.heap.size w0 w' := by
  refine z_enter Try.func53 rfl ?_
  have H := Hs.nil w0
  have R0 := hR
  refine x_seq <| x_region <| x_b H [.m] <| x_nil <| x_then <| x_seq <| x_seq ?_
  refine x_region <| x_b H [.m, .m] <| x_nil <| x_then <| x_f (by kernel_rfl) <| x_skipc <| x_then ?_
  refine x_seq <| x_region <| x_b H [.m, .m] <| z_callB (v := .tuple #[.int .i64 (idxP y r b o S w), .int .i64 0]) H (by have h := Lies_any hL hV w _ (H.ro R0); unfold liV rngE at h; rw [if_pos hw, if_pos hw] at h; exact h) fun v1 H => x_b H [.m, .m, .m, .m, .m] <| x_nil <| x_then ?_
  refine x_seq <| x_region <| x_b H [.m, .m] <| x_nil <| x_then <| x_retc <| x_ret (.int .i64 (idxP y r b o S w)) (by kernel_rfl) (by kernel_rfl) ?_
  exact ⟨rfl, H.below⟩
set_option maxRecDepth 100000 in
set_option maxHeartbeats 4000000 in
theorem pages20_r (p : Nat) (w : Int) (w0 : World) :
    Calls Try.prog 53 #[.pointer (some ⟨p, 0, none⟩), .int .i64 w, .int .i64 2] w0 fun e w' => e = .returned (.int .i64 w) ∧ Below w0.heap.size w0 w' := by
  refine z_enter Try.func53 rfl ?_
  have H := Hs.nil w0
  refine x_seq <| x_region <| x_b H [.m] <| x_nil <| x_then <| x_seq <| x_seq ?_
  refine x_region <| x_b H [.m, .m] <| x_nil <| x_then <| x_t (by kernel_rfl) <| x_seq <| x_region ?_
  refine x_b H [.m, .m] <| x_nil <| x_then <| x_retc <| x_then_ret <| x_ret (.int .i64 w) (by kernel_rfl) (by kernel_rfl) ?_
  exact ⟨rfl, H.below⟩
set_option maxRecDepth 100000 in
set_option maxHeartbeats 4000000 in
theorem right20 {r s b o c y z : Int} {pg sn ns : Nat} (hL : Lay r s b o c y z pg sn ns) {p gl cl gd cd gs cs : Nat} {L : List Int} {D : List Bool} {S : List Int} {pu ru : Nat} (hV : MapV r s z sn pg ns L D S pu ru) (j : Job4) (ht : -9223372036854775808 ≤ j.2.2.1 ∧ j.2.2.1 ≤ 9223372036854775807) (w0 : World) (hR : Ro w0 [.blk p #[.int .i64 r, .int .i64 s, .int .i64 b, .int .i64 o, .int .i64 c, .int .i64 y, .int .i64 z, .slice (some ⟨gl, 0, none⟩) sn cl, .slice (some ⟨gd, 0, none⟩) pg cd, .slice (some ⟨gs, 0, none⟩) ns cs, .int .i64 ((pu : Nat) : Int), .int .i64 ((ru : Nat) : Int)] 118, .row (.slice (some ⟨gl, 0, none⟩) sn cl) 3 1 sn (List.map (Value.int .i64) L), .row (.slice (some ⟨gd, 0, none⟩) pg cd) 4 1 pg (List.map Value.bool D), .row (.slice (some ⟨gs, 0, none⟩) ns cs) 3 1 ns (List.map (Value.int .i64) S)]) :
    Calls Try.prog 50 #[.agg #[.int .i64 j.1, .int .i64 j.2.1, .int .i64 j.2.2.1, .int .i64 j.2.2.2], .pointer (some ⟨p, 0, none⟩)] w0 fun e w' => e = .returned (.bool (decide (jrP r s b o c pg ns D S j))) ∧ Below w0.heap.size w0 w' := by
  refine z_enter Try.func50 rfl ?_
  have H := Hs.nil w0
  have R0 := hR
  have hg := geom_of hL
  have hm := hV.m
  have hpu := hm.hp
  have hru := hm.hr
  have hsn := hL.hsn
  have hz0 := hL.z0
  have hz2 := hL.z2
  have hpg2 := hL.pg2
  have hr8 := hL.r8
  have hs8 := hL.s8
  have hr1 := hL.r1
  have hs0 := hL.s0
  have hns := hL.hns
  have hc1 := hL.c1
  have hc2 := hL.c2
  have hb1 := hL.b1
  have hb2 := hL.b2
  have ho1 := hL.o1
  have ho2 := hL.o2
  obtain ⟨hcn0, hcn1⟩ := cnt_bd hg j
  have hcp : ¬ j.1 = 1 ∨ Rp.cnt b o c j = c := by by_cases e : j.1 = 1; exact .inr (by unfold Rp.cnt; rw [if_pos e]); exact .inl e
  have hcr : ¬ j.1 = 2 ∨ Rp.cnt b o c j = b * o * c := by by_cases e : j.1 = 2; exact .inr (by unfold Rp.cnt; rw [if_neg (by omega), if_pos e]); exact .inl e
  refine x_seq <| x_region <| z_box H #[.int .i64 j.1, .int .i64 j.2.1, .int .i64 j.2.2.1, .int .i64 j.2.2.2] 77 (fun v1 g1 H => ?_)
  refine x_b H [.m] <| x_nil <| x_then <| x_seq <| x_region <| x_b H [.m] <| z_callB H (Layout_of hL hV.m _ (H.ro R0)) fun v2 H => ?_
  refine x_b H [.m] <| z_box H #[.int .i64 0, .int .i64 0, .int .i64 0, .int .i64 0, .int .i64 0] 23 (fun v3 g2 H => ?_)
  refine z_store H 0 0 [.int .i64 r, .int .i64 s, .int .i64 b, .int .i64 o, .int .i64 c] (fun v4 H => ?_)
  refine x_nil <| x_then <| x_seq <| x_region <| x_b H [.m] <| x_nil <| x_then ?_
  refine x_seq <| x_seq <| x_region <| x_b H [.m, .l 1 0] <| x_nil <| x_then <| x_block ?_
  refine x_seq <| x_region <| x_b H [.v (.bool (decide (j.1 = 0))), .v (.bool (decide (j.1 = 0)))] <| x_nil <| x_then ?_
  cases h1 : decide (j.1 = 0)
  · skip
    have h1p := of_decide_eq_false h1
    refine x_f (by kernel_rfl) <| x_seq <| x_region <| x_b H [.v (.bool (decide (j.1 = 1))), .v (.bool (decide (j.1 = 1)))] <| x_nil <| x_then ?_
    cases h2 : decide (j.1 = 1)
    · skip
      have h2p := of_decide_eq_false h2
      refine x_f (by kernel_rfl) <| x_seq <| x_region <| x_b H [.v (.bool (decide (j.1 = 2))), .v (.bool (decide (j.1 = 2)))] <| x_nil <| x_then ?_
      cases h3 : decide (j.1 = 2)
      · skip
        have h3p := of_decide_eq_false h3
        refine x_f (by kernel_rfl) <| x_skipc <| x_blk <| x_then <| x_seq <| z_region_whole H <| q_b [.m, .l 1 0, .v (.bool (decide (0 < j.1))), .v (.bool (decide (0 < j.1)))] ?_
        cases h4 : decide (0 < j.1)
        · skip
          have h4p := of_decide_eq_false h4
          refine q_b [.k, .k, .k, .m, .m, .k, .k, .k, .m, .m, .k, .k, .k, .k, .m, .m, .k, .k, .k, .k, .k, .k, .m, .m] <| q_nil ?_
          clear H
          intro v5 H
          refine z_fr 132 [(4, .bool false)] [] fun uf1 => x_then <| x_retc <| x_ret (.bool false) (by kernel_rfl) (by kernel_rfl) ?_
          have e : decide (jrP r s b o c pg ns D S j) = false := decide_eq_false (by unfold jrP; rintro (h | h | h) <;> first | omega | (have q1 := h.2.2.2.2.2.1; have q2 := h.2.2.2.2.2.2; simp_all))
          exact ⟨by rw [e], H.below⟩
        have h4p := of_decide_eq_true h4
        refine q_b [.m, .l 1 0, .v (.bool (decide (j.1 < 3))), .v (.bool (decide (j.1 < 3))), .v (.bool (decide (j.1 < 3)))] ?_
        cases h5 : decide (j.1 < 3)
        · skip
          have h5p := of_decide_eq_false h5
          refine q_b [.k, .k, .k, .m, .m, .k, .k, .k, .k, .m, .m, .k, .k, .k, .k, .k, .k, .m, .m] <| q_nil ?_
          clear H
          intro v6 H
          refine z_fr 132 [(4, .bool false)] [] fun uf2 => x_then <| x_retc <| x_ret (.bool false) (by kernel_rfl) (by kernel_rfl) ?_
          have e : decide (jrP r s b o c pg ns D S j) = false := decide_eq_false (by unfold jrP; rintro (h | h | h) <;> first | omega | (have q1 := h.2.2.2.2.2.1; have q2 := h.2.2.2.2.2.2; simp_all))
          exact ⟨by rw [e], H.below⟩
        have h5p := of_decide_eq_true h5
        refine q_b [.m, .l 1 3, .v (.bool (decide (0 ≤ j.2.2.2))), .v (.bool (decide (0 ≤ j.2.2.2))), .v (.bool (decide (0 ≤ j.2.2.2)))] ?_
        cases h6 : decide (0 ≤ j.2.2.2)
        · skip
          have h6p := of_decide_eq_false h6
          refine q_b [.k, .k, .k, .k, .m, .m, .k, .k, .k, .k, .k, .k, .m, .m] <| q_nil ?_
          clear H
          intro v7 H
          refine z_fr 132 [(4, .bool false)] [] fun uf3 => x_then <| x_retc <| x_ret (.bool false) (by kernel_rfl) (by kernel_rfl) ?_
          have e : decide (jrP r s b o c pg ns D S j) = false := decide_eq_false (by unfold jrP; rintro (h | h | h) <;> first | omega | (have q1 := h.2.2.2.2.2.1; have q2 := h.2.2.2.2.2.2; simp_all))
          exact ⟨by rw [e], H.below⟩
        have h6p := of_decide_eq_true h6
        refine q_b [.m, .l 1 3, .m, .v (.bool (decide (j.2.2.2 ≤ 0))), .v (.bool (decide (j.2.2.2 ≤ 0))), .v (.bool (decide (j.2.2.2 ≤ 0)))] ?_
        cases h7 : decide (j.2.2.2 ≤ 0)
        · skip
          have h7p := of_decide_eq_false h7
          refine q_b [.k, .k, .k, .k, .k, .k, .m, .m] <| q_nil ?_
          clear H
          intro v8 H
          refine z_fr 132 [(4, .bool false)] [] fun uf4 => x_then <| x_retc <| x_ret (.bool false) (by kernel_rfl) (by kernel_rfl) ?_
          have e : decide (jrP r s b o c pg ns D S j) = false := decide_eq_false (by unfold jrP; rintro (h | h | h) <;> first | omega | (have q1 := h.2.2.2.2.2.1; have q2 := h.2.2.2.2.2.2; simp_all))
          exact ⟨by rw [e], H.below⟩
        have h7p := of_decide_eq_true h7
        refine q_b [.n 1 0 4 77, .m] <| q_callR (.agg #[.int .i64 r, .int .i64 s, .int .i64 b, .int .i64 o, .int .i64 c, .int .i64 y, .int .i64 z]) (by kernel_rfl) (fun _ => by kernel_rfl) (fun _ H => (Layout_of hL hV.m _ (H.ro R0))) <| q_callB (.int .i64 (Rp.cnt b o c j)) (by kernel_rfl) (fun _ => by kernel_rfl) (fun _ => (Count_any hL j _)) <| q_b [.m, .v (.bool (decide ((Rp.cnt b o c j) = 0))), .v (.bool (decide ((Rp.cnt b o c j) = 0))), .v (.bool (decide ((Rp.cnt b o c j) = 0)))] <| q_nil ?_
        clear H
        intro v9 H
        refine z_fr 132 [(4, .bool (decide ((Rp.cnt b o c j) = 0)))] [] fun uf5 => x_then <| x_retc <| x_ret (.bool (decide ((Rp.cnt b o c j) = 0))) (by kernel_rfl) (by kernel_rfl) ?_
        have e : decide (jrP r s b o c pg ns D S j) = ((decide ((Rp.cnt b o c j) = 0))) := by
          rw [Bool.eq_iff_iff]
          simp only [Bool.and_eq_true, decide_eq_true_eq, and_true]
          unfold jrP
          refine ⟨?_, ?_⟩
          · rintro (h | h | h) <;> first | omega | (exfalso; omega)
          · intro h
            first | exact .inl (by omega) | exact .inr (.inl ⟨by omega, by omega, by omega, by omega, by omega, by assumption, by assumption⟩) | exact .inr (.inr ⟨by omega, by omega, by omega, by omega, by omega⟩)
        exact ⟨by rw [e], H.below⟩
      have h3p := of_decide_eq_true h3
      refine x_t (by kernel_rfl) <| x_seq <| x_region <| x_b H [.n 0 0 5 23] <| z_callB H (PerRank_of hg _) fun v10 H => x_b H [.m] <| x_nil ?_
      refine x_then <| x_seq <| x_region <| x_b H [.m, .m, .l 1 1] ?_
      cases h8 : decide (0 ≤ j.2.1 ∧ j.2.1 < (ns : Int))
      · skip
        have h8p := of_decide_eq_false h8
        refine z_callB (v := .tuple #[.int .i64 0, .bool false]) H (by have h := Spare_any hL hV j.2.1 _ (H.ro R0); unfold spV spK at h; rw [h8, Bool.false_and] at h; exact h) fun v11 H => x_b H [.m, .m, .m, .m, .m] <| x_nil <| x_then <| x_seq <| x_region <| x_b H [.m, .m, .m, .l 1 1, .v (.bool (decide (j.2.1 < 0))), .v (.bool (decide (j.2.1 < 0))), .v (.bool (decide (j.2.1 < 0)))] ?_
        cases h9 : decide (j.2.1 < 0)
        · skip
          have h9p := of_decide_eq_false h9
          refine x_b H [.m, .l 1 1, .m, .l 0 0, .v (.bool (decide (r ≤ j.2.1))), .v (.bool (decide (r ≤ j.2.1))), .v (.bool (decide (r ≤ j.2.1)))] ?_
          cases h10 : decide (r ≤ j.2.1)
          · skip
            have h10p := of_decide_eq_false h10
            exfalso; have := h8p; omega
          have h10p := of_decide_eq_true h10
          refine x_b H [.k, .k, .k, .k, .k, .m, .m, .k, .k, .k, .k, .k, .k, .k, .k, .m] <| x_nil <| z_fr 132 [(1, .pointer (some ⟨p, 0, none⟩)), (2, .pointer (some ⟨g1, 0, none⟩)), (6, .int .i64 (b * o * c)), (104, .bool true)] [] fun uf6 => x_then <| x_t (by kernel_rfl) <| x_seq <| x_region ?_
          refine x_b H [.m] <| x_nil <| x_then <| x_retc <| x_blk_ret <| x_then_ret <| x_ret (.bool false) (by kernel_rfl) (by kernel_rfl) ?_
          have e : decide (jrP r s b o c pg ns D S j) = false := decide_eq_false (by unfold jrP; rintro (h | h | h) <;> first | omega | (have q1 := h.2.2.2.2.2.1; have q2 := h.2.2.2.2.2.2; simp_all))
          exact ⟨by rw [e], H.below⟩
        have h9p := of_decide_eq_true h9
        refine x_b H [.k, .k, .k, .k, .k, .m, .m, .k, .k, .k, .k, .k, .m, .m, .k, .k, .k, .k, .k, .k, .k, .k, .m] <| x_nil <| z_fr 132 [(1, .pointer (some ⟨p, 0, none⟩)), (2, .pointer (some ⟨g1, 0, none⟩)), (6, .int .i64 (b * o * c)), (104, .bool true)] [] fun uf7 => x_then <| x_t (by kernel_rfl) <| x_seq <| x_region ?_
        refine x_b H [.m] <| x_nil <| x_then <| x_retc <| x_blk_ret <| x_then_ret <| x_ret (.bool false) (by kernel_rfl) (by kernel_rfl) ?_
        have e : decide (jrP r s b o c pg ns D S j) = false := decide_eq_false (by unfold jrP; rintro (h | h | h) <;> first | omega | (have q1 := h.2.2.2.2.2.1; have q2 := h.2.2.2.2.2.2; simp_all))
        exact ⟨by rw [e], H.below⟩
      have h8p := of_decide_eq_true h8
      cases h11 : decide (S.getD (Int.toNat j.2.1) 0 = -1)
      · skip
        have h11p := of_decide_eq_false h11
        refine z_callB (v := .tuple #[.int .i64 (S.getD (Int.toNat j.2.1) 0), .bool true]) H (by have h := Spare_any hL hV j.2.1 _ (H.ro R0); unfold spV spK at h; rw [h8, h11] at h; exact h) fun v12 H => x_b H [.m, .m, .m, .m, .m] <| x_nil <| x_then <| x_seq <| x_region <| x_b H [.m, .m, .k, .k, .k, .m, .m, .k, .k, .k, .k, .k, .m, .m, .k, .k, .k, .k, .k, .m, .m, .k, .k, .k, .k, .k, .k, .k, .k, .m] ?_
        refine x_nil <| z_fr 132 [(1, .pointer (some ⟨p, 0, none⟩)), (2, .pointer (some ⟨g1, 0, none⟩)), (6, .int .i64 (b * o * c)), (104, .bool true)] [] fun uf8 => x_then <| x_t (by kernel_rfl) <| x_seq <| x_region <| x_b H [.m] ?_
        refine x_nil <| x_then <| x_retc <| x_blk_ret <| x_then_ret <| x_ret (.bool false) (by kernel_rfl) (by kernel_rfl) ?_
        have e : decide (jrP r s b o c pg ns D S j) = false := decide_eq_false (by unfold jrP; rintro (h | h | h) <;> first | omega | (have q1 := h.2.2.2.2.2.1; have q2 := h.2.2.2.2.2.2; simp_all))
        exact ⟨by rw [e], H.below⟩
      have h11p := of_decide_eq_true h11
      refine z_callB (v := .tuple #[.int .i64 0, .bool false]) H (by have h := Spare_any hL hV j.2.1 _ (H.ro R0); unfold spV spK at h; rw [h8, h11] at h; exact h) fun v13 H => x_b H [.m, .m, .m, .m, .m] <| x_nil <| x_then <| x_seq <| x_region <| x_b H [.m, .m, .m, .l 1 1, .v (.bool (decide (j.2.1 < 0))), .v (.bool (decide (j.2.1 < 0))), .v (.bool (decide (j.2.1 < 0)))] ?_
      cases h12 : decide (j.2.1 < 0)
      · skip
        have h12p := of_decide_eq_false h12
        refine x_b H [.m, .l 1 1, .m, .l 0 0, .v (.bool (decide (r ≤ j.2.1))), .v (.bool (decide (r ≤ j.2.1))), .v (.bool (decide (r ≤ j.2.1)))] ?_
        cases h13 : decide (r ≤ j.2.1)
        · skip
          have h13p := of_decide_eq_false h13
          refine x_b H [.m, .l 1 2, .m, .l 0 0, .v (.bool (decide (j.2.2.1 < r))), .v (.bool (decide (j.2.2.1 < r))), .v (.bool (decide (j.2.2.1 < r)))] ?_
          cases h14 : decide (j.2.2.1 < r)
          · skip
            have h14p := of_decide_eq_false h14
            refine x_b H [.m, .l 1 2, .m, .l 0 0, .m, .l 0 1] <| z_ar (r + s) <| x_b H [.v (.bool (decide ((r + s) ≤ j.2.2.1))), .v (.bool (decide ((r + s) ≤ j.2.2.1)))] <| x_nil <| z_fr 132 [(1, .pointer (some ⟨p, 0, none⟩)), (2, .pointer (some ⟨g1, 0, none⟩)), (6, .int .i64 (b * o * c)), (104, .bool (decide ((r + s) ≤ j.2.2.1)))] [] fun uf9 => x_then ?_
            cases h15 : decide ((r + s) ≤ j.2.2.1)
            · skip
              have h15p := of_decide_eq_false h15
              refine x_f (by kernel_rfl) <| x_skipc <| x_blk <| x_then <| x_seq <| z_region_whole H <| q_b [.m, .l 1 0, .v (.bool (decide (0 < j.1))), .v (.bool (decide (0 < j.1)))] ?_
              cases h16 : decide (0 < j.1)
              · skip
                have h16p := of_decide_eq_false h16
                refine q_b [.k, .k, .k, .m, .m, .k, .k, .k, .m, .m, .k, .k, .k, .k, .m, .m, .k, .k, .k, .k, .k, .k, .m, .m] <| q_nil ?_
                clear H
                intro v14 H
                refine x_then <| x_retc <| x_ret (.bool false) (by kernel_rfl) (by kernel_rfl) ?_
                have e : decide (jrP r s b o c pg ns D S j) = false := decide_eq_false (by unfold jrP; rintro (h | h | h) <;> first | omega | (have q1 := h.2.2.2.2.2.1; have q2 := h.2.2.2.2.2.2; simp_all))
                exact ⟨by rw [e], H.below⟩
              have h16p := of_decide_eq_true h16
              refine q_b [.m, .l 1 0, .v (.bool (decide (j.1 < 3))), .v (.bool (decide (j.1 < 3))), .v (.bool (decide (j.1 < 3)))] ?_
              cases h17 : decide (j.1 < 3)
              · skip
                have h17p := of_decide_eq_false h17
                refine q_b [.k, .k, .k, .m, .m, .k, .k, .k, .k, .m, .m, .k, .k, .k, .k, .k, .k, .m, .m] <| q_nil ?_
                clear H
                intro v15 H
                refine x_then <| x_retc <| x_ret (.bool false) (by kernel_rfl) (by kernel_rfl) ?_
                have e : decide (jrP r s b o c pg ns D S j) = false := decide_eq_false (by unfold jrP; rintro (h | h | h) <;> first | omega | (have q1 := h.2.2.2.2.2.1; have q2 := h.2.2.2.2.2.2; simp_all))
                exact ⟨by rw [e], H.below⟩
              have h17p := of_decide_eq_true h17
              refine q_b [.m, .l 1 3, .v (.bool (decide (0 ≤ j.2.2.2))), .v (.bool (decide (0 ≤ j.2.2.2))), .v (.bool (decide (0 ≤ j.2.2.2)))] ?_
              cases h18 : decide (0 ≤ j.2.2.2)
              · skip
                have h18p := of_decide_eq_false h18
                refine q_b [.k, .k, .k, .k, .m, .m, .k, .k, .k, .k, .k, .k, .m, .m] <| q_nil ?_
                clear H
                intro v16 H
                refine x_then <| x_retc <| x_ret (.bool false) (by kernel_rfl) (by kernel_rfl) ?_
                have e : decide (jrP r s b o c pg ns D S j) = false := decide_eq_false (by unfold jrP; rintro (h | h | h) <;> first | omega | (have q1 := h.2.2.2.2.2.1; have q2 := h.2.2.2.2.2.2; simp_all))
                exact ⟨by rw [e], H.below⟩
              have h18p := of_decide_eq_true h18
              refine q_b [.m, .l 1 3, .m, .v (.bool (decide (j.2.2.2 ≤ (b * o * c)))), .v (.bool (decide (j.2.2.2 ≤ (b * o * c)))), .v (.bool (decide (j.2.2.2 ≤ (b * o * c))))] ?_
              cases h19 : decide (j.2.2.2 ≤ (b * o * c))
              · skip
                have h19p := of_decide_eq_false h19
                refine q_b [.k, .k, .k, .k, .k, .k, .m, .m] <| q_nil ?_
                clear H
                intro v17 H
                refine x_then <| x_retc <| x_ret (.bool false) (by kernel_rfl) (by kernel_rfl) ?_
                have e : decide (jrP r s b o c pg ns D S j) = false := decide_eq_false (by unfold jrP; rintro (h | h | h) <;> first | omega | (have q1 := h.2.2.2.2.2.1; have q2 := h.2.2.2.2.2.2; simp_all))
                exact ⟨by rw [e], H.below⟩
              have h19p := of_decide_eq_true h19
              refine q_b [.n 1 0 4 77, .m] <| q_callR (.agg #[.int .i64 r, .int .i64 s, .int .i64 b, .int .i64 o, .int .i64 c, .int .i64 y, .int .i64 z]) (by kernel_rfl) (fun _ => by kernel_rfl) (fun _ H => (Layout_of hL hV.m _ (H.ro R0))) <| q_callB (.int .i64 (Rp.cnt b o c j)) (by kernel_rfl) (fun _ => by kernel_rfl) (fun _ => (Count_any hL j _)) <| q_b [.m, .v (.bool (decide ((Rp.cnt b o c j) = (b * o * c)))), .v (.bool (decide ((Rp.cnt b o c j) = (b * o * c)))), .v (.bool (decide ((Rp.cnt b o c j) = (b * o * c))))] <| q_nil ?_
              clear H
              intro v18 H
              refine x_then <| x_retc <| x_ret (.bool (decide ((Rp.cnt b o c j) = (b * o * c)))) (by kernel_rfl) (by kernel_rfl) ?_
              have e : decide (jrP r s b o c pg ns D S j) = ((decide ((Rp.cnt b o c j) = (b * o * c)))) := by
                rw [Bool.eq_iff_iff]
                simp only [Bool.and_eq_true, decide_eq_true_eq, and_true]
                unfold jrP
                refine ⟨?_, ?_⟩
                · rintro (h | h | h) <;> first | omega | (exfalso; omega)
                · intro h
                  first | exact .inl (by omega) | exact .inr (.inl ⟨by omega, by omega, by omega, by omega, by omega, by assumption, by assumption⟩) | exact .inr (.inr ⟨by omega, by omega, by omega, by omega, by omega⟩)
              exact ⟨by rw [e], H.below⟩
            have h15p := of_decide_eq_true h15
            refine x_t (by kernel_rfl) <| x_seq <| x_region <| x_b H [.m] <| x_nil <| x_then <| x_retc ?_
            refine x_blk_ret <| x_then_ret <| x_ret (.bool false) (by kernel_rfl) (by kernel_rfl) ?_
            have e : decide (jrP r s b o c pg ns D S j) = false := decide_eq_false (by unfold jrP; rintro (h | h | h) <;> first | omega | (have q1 := h.2.2.2.2.2.1; have q2 := h.2.2.2.2.2.2; simp_all))
            exact ⟨by rw [e], H.below⟩
          have h14p := of_decide_eq_true h14
          refine x_b H [.k, .k, .k, .k, .k, .k, .k, .k, .m] <| x_nil <| z_fr 132 [(1, .pointer (some ⟨p, 0, none⟩)), (2, .pointer (some ⟨g1, 0, none⟩)), (6, .int .i64 (b * o * c)), (104, .bool true)] [] fun uf10 => x_then <| x_t (by kernel_rfl) <| x_seq <| x_region ?_
          refine x_b H [.m] <| x_nil <| x_then <| x_retc <| x_blk_ret <| x_then_ret <| x_ret (.bool false) (by kernel_rfl) (by kernel_rfl) ?_
          have e : decide (jrP r s b o c pg ns D S j) = false := decide_eq_false (by unfold jrP; rintro (h | h | h) <;> first | omega | (have q1 := h.2.2.2.2.2.1; have q2 := h.2.2.2.2.2.2; simp_all))
          exact ⟨by rw [e], H.below⟩
        have h13p := of_decide_eq_true h13
        exfalso; have := h8p; omega
      have h12p := of_decide_eq_true h12
      exfalso; have := h8p; omega
    have h2p := of_decide_eq_true h2
    refine x_t (by kernel_rfl) <| x_seq <| x_region <| x_b H [.m, .l 0 4, .m] <| x_nil <| x_then <| x_seq ?_
    refine z_region_whole H <| q_b [.m, .l 1 1, .v (.bool (decide (j.2.1 < 0))), .v (.bool (decide (j.2.1 < 0)))] ?_
    cases h20 : decide (j.2.1 < 0)
    · skip
      have h20p := of_decide_eq_false h20
      refine q_b [.m, .l 1 2, .v (.bool (decide (j.2.2.1 < 0))), .v (.bool (decide (j.2.2.1 < 0))), .v (.bool (decide (j.2.2.1 < 0)))] ?_
      cases h21 : decide (j.2.2.1 < 0)
      · skip
        have h21p := of_decide_eq_false h21
        refine q_b [.m, .l 1 1, .n 0 0 5 23] <| q_callB (.int .i64 (pg : Int)) (by kernel_rfl) (fun _ => by kernel_rfl) (fun _ => (pages_of hL _)) <| q_b [.v (.bool (decide ((pg : Int) ≤ j.2.1))), .v (.bool (decide ((pg : Int) ≤ j.2.1))), .v (.bool (decide ((pg : Int) ≤ j.2.1)))] ?_
        cases h22 : decide ((pg : Int) ≤ j.2.1)
        · skip
          have h22p := of_decide_eq_false h22
          refine q_b [.m, .l 1 2, .n 0 0 5 23] <| q_callB (.int .i64 (pg : Int)) (by kernel_rfl) (fun _ => by kernel_rfl) (fun _ => (pages_of hL _)) <| q_b [.v (.bool (decide ((pg : Int) ≤ j.2.2.1))), .v (.bool (decide ((pg : Int) ≤ j.2.2.1))), .v (.bool (decide ((pg : Int) ≤ j.2.2.1)))] ?_
          cases h23 : decide ((pg : Int) ≤ j.2.2.1)
          · skip
            have h23p := of_decide_eq_false h23
            refine q_b [.m, .l 1 1, .m, .l 1 2, .v (.bool (decide (j.2.1 = j.2.2.1))), .v (.bool (decide (j.2.1 = j.2.2.1))), .v (.bool (decide (j.2.1 = j.2.2.1)))] ?_
            cases h24 : decide (j.2.1 = j.2.2.1)
            · skip
              have h24p := of_decide_eq_false h24
              refine q_b [.m, .m, .l 1 1] ?_
              cases h25 : D.getD (Int.toNat j.2.1) false
              · skip
                refine q_callR (.bool false) (by kernel_rfl) (fun _ => by kernel_rfl) (fun _ H => (by have h := Dead_any hL hV j.2.1 _ (H.ro R0); unfold ddV at h; rw [decide_eq_true (show 0 ≤ j.2.1 ∧ j.2.1 < (pg : Int) by omega), Bool.true_and, h25] at h; exact h)) <| q_b [.m, .m, .m, .m, .l 1 2] ?_
                cases h26 : D.getD (Int.toNat j.2.2.1) false
                · skip
                  refine q_callR (.bool false) (by kernel_rfl) (fun _ => by kernel_rfl) (fun _ H => (by have h := Dead_any hL hV j.2.2.1 _ (H.ro R0); unfold ddV at h; rw [decide_eq_true (show 0 ≤ j.2.2.1 ∧ j.2.2.1 < (pg : Int) by omega), Bool.true_and, h26] at h; exact h)) <| q_b [.m] <| q_nil ?_
                  clear H
                  intro v19 H
                  refine z_fr 132 [(1, .pointer (some ⟨p, 0, none⟩)), (2, .pointer (some ⟨g1, 0, none⟩)), (6, .int .i64 c), (63, .bool false)] [] fun uf11 => x_then <| x_f (by kernel_rfl) <| x_skipc <| x_blk <| x_then <| x_seq ?_
                  refine z_region_whole H <| q_b [.m, .l 1 0, .v (.bool (decide (0 < j.1))), .v (.bool (decide (0 < j.1)))] ?_
                  cases h27 : decide (0 < j.1)
                  · skip
                    have h27p := of_decide_eq_false h27
                    refine q_b [.k, .k, .k, .m, .m, .k, .k, .k, .m, .m, .k, .k, .k, .k, .m, .m, .k, .k, .k, .k, .k, .k, .m, .m] <| q_nil ?_
                    clear H
                    intro v20 H
                    refine x_then <| x_retc <| x_ret (.bool false) (by kernel_rfl) (by kernel_rfl) ?_
                    have e : decide (jrP r s b o c pg ns D S j) = false := decide_eq_false (by unfold jrP; rintro (h | h | h) <;> first | omega | (have q1 := h.2.2.2.2.2.1; have q2 := h.2.2.2.2.2.2; simp_all))
                    exact ⟨by rw [e], H.below⟩
                  have h27p := of_decide_eq_true h27
                  refine q_b [.m, .l 1 0, .v (.bool (decide (j.1 < 3))), .v (.bool (decide (j.1 < 3))), .v (.bool (decide (j.1 < 3)))] ?_
                  cases h28 : decide (j.1 < 3)
                  · skip
                    have h28p := of_decide_eq_false h28
                    refine q_b [.k, .k, .k, .m, .m, .k, .k, .k, .k, .m, .m, .k, .k, .k, .k, .k, .k, .m, .m] <| q_nil ?_
                    clear H
                    intro v21 H
                    refine x_then <| x_retc <| x_ret (.bool false) (by kernel_rfl) (by kernel_rfl) ?_
                    have e : decide (jrP r s b o c pg ns D S j) = false := decide_eq_false (by unfold jrP; rintro (h | h | h) <;> first | omega | (have q1 := h.2.2.2.2.2.1; have q2 := h.2.2.2.2.2.2; simp_all))
                    exact ⟨by rw [e], H.below⟩
                  have h28p := of_decide_eq_true h28
                  refine q_b [.m, .l 1 3, .v (.bool (decide (0 ≤ j.2.2.2))), .v (.bool (decide (0 ≤ j.2.2.2))), .v (.bool (decide (0 ≤ j.2.2.2)))] ?_
                  cases h29 : decide (0 ≤ j.2.2.2)
                  · skip
                    have h29p := of_decide_eq_false h29
                    refine q_b [.k, .k, .k, .k, .m, .m, .k, .k, .k, .k, .k, .k, .m, .m] <| q_nil ?_
                    clear H
                    intro v22 H
                    refine x_then <| x_retc <| x_ret (.bool false) (by kernel_rfl) (by kernel_rfl) ?_
                    have e : decide (jrP r s b o c pg ns D S j) = false := decide_eq_false (by unfold jrP; rintro (h | h | h) <;> first | omega | (have q1 := h.2.2.2.2.2.1; have q2 := h.2.2.2.2.2.2; simp_all))
                    exact ⟨by rw [e], H.below⟩
                  have h29p := of_decide_eq_true h29
                  refine q_b [.m, .l 1 3, .m, .v (.bool (decide (j.2.2.2 ≤ c))), .v (.bool (decide (j.2.2.2 ≤ c))), .v (.bool (decide (j.2.2.2 ≤ c)))] ?_
                  cases h30 : decide (j.2.2.2 ≤ c)
                  · skip
                    have h30p := of_decide_eq_false h30
                    refine q_b [.k, .k, .k, .k, .k, .k, .m, .m] <| q_nil ?_
                    clear H
                    intro v23 H
                    refine x_then <| x_retc <| x_ret (.bool false) (by kernel_rfl) (by kernel_rfl) ?_
                    have e : decide (jrP r s b o c pg ns D S j) = false := decide_eq_false (by unfold jrP; rintro (h | h | h) <;> first | omega | (have q1 := h.2.2.2.2.2.1; have q2 := h.2.2.2.2.2.2; simp_all))
                    exact ⟨by rw [e], H.below⟩
                  have h30p := of_decide_eq_true h30
                  refine q_b [.n 1 0 4 77, .m] <| q_callR (.agg #[.int .i64 r, .int .i64 s, .int .i64 b, .int .i64 o, .int .i64 c, .int .i64 y, .int .i64 z]) (by kernel_rfl) (fun _ => by kernel_rfl) (fun _ H => (Layout_of hL hV.m _ (H.ro R0))) <| q_callB (.int .i64 (Rp.cnt b o c j)) (by kernel_rfl) (fun _ => by kernel_rfl) (fun _ => (Count_any hL j _)) <| q_b [.m, .v (.bool (decide ((Rp.cnt b o c j) = c))), .v (.bool (decide ((Rp.cnt b o c j) = c))), .v (.bool (decide ((Rp.cnt b o c j) = c)))] <| q_nil ?_
                  clear H
                  intro v24 H
                  refine x_then <| x_retc <| x_ret (.bool (decide ((Rp.cnt b o c j) = c))) (by kernel_rfl) (by kernel_rfl) ?_
                  have e : decide (jrP r s b o c pg ns D S j) = ((decide ((Rp.cnt b o c j) = c))) := by
                    rw [Bool.eq_iff_iff]
                    simp only [Bool.and_eq_true, decide_eq_true_eq, and_true]
                    unfold jrP
                    refine ⟨?_, ?_⟩
                    · rintro (h | h | h) <;> first | omega | (exfalso; omega)
                    · intro h
                      first | exact .inl (by omega) | exact .inr (.inl ⟨by omega, by omega, by omega, by omega, by omega, by assumption, by assumption⟩) | exact .inr (.inr ⟨by omega, by omega, by omega, by omega, by omega⟩)
                  exact ⟨by rw [e], H.below⟩
                refine q_callR (.bool true) (by kernel_rfl) (fun _ => by kernel_rfl) (fun _ H => (by have h := Dead_any hL hV j.2.2.1 _ (H.ro R0); unfold ddV at h; rw [decide_eq_true (show 0 ≤ j.2.2.1 ∧ j.2.2.1 < (pg : Int) by omega), Bool.true_and, h26] at h; exact h)) <| q_b [.m] <| q_nil ?_
                clear H
                intro v25 H
                refine z_fr 132 [(1, .pointer (some ⟨p, 0, none⟩)), (2, .pointer (some ⟨g1, 0, none⟩)), (6, .int .i64 c), (63, .bool true)] [] fun uf12 => x_then <| x_t (by kernel_rfl) <| x_seq <| x_region <| x_b H [.m] <| x_nil ?_
                refine x_then <| x_retc <| x_blk_ret <| x_then_ret <| x_ret (.bool false) (by kernel_rfl) (by kernel_rfl) ?_
                have e : decide (jrP r s b o c pg ns D S j) = false := decide_eq_false (by unfold jrP; rintro (h | h | h) <;> first | omega | (have q1 := h.2.2.2.2.2.1; have q2 := h.2.2.2.2.2.2; simp_all))
                exact ⟨by rw [e], H.below⟩
              refine q_callR (.bool true) (by kernel_rfl) (fun _ => by kernel_rfl) (fun _ H => (by have h := Dead_any hL hV j.2.1 _ (H.ro R0); unfold ddV at h; rw [decide_eq_true (show 0 ≤ j.2.1 ∧ j.2.1 < (pg : Int) by omega), Bool.true_and, h25] at h; exact h)) <| q_b [.m, .m, .k, .k, .k, .k, .m] <| q_nil ?_
              clear H
              intro v26 H
              refine z_fr 132 [(1, .pointer (some ⟨p, 0, none⟩)), (2, .pointer (some ⟨g1, 0, none⟩)), (6, .int .i64 c), (63, .bool true)] [] fun uf13 => x_then <| x_t (by kernel_rfl) <| x_seq <| x_region <| x_b H [.m] <| x_nil ?_
              refine x_then <| x_retc <| x_blk_ret <| x_then_ret <| x_ret (.bool false) (by kernel_rfl) (by kernel_rfl) ?_
              have e : decide (jrP r s b o c pg ns D S j) = false := decide_eq_false (by unfold jrP; rintro (h | h | h) <;> first | omega | (have q1 := h.2.2.2.2.2.1; have q2 := h.2.2.2.2.2.2; simp_all))
              exact ⟨by rw [e], H.below⟩
            have h24p := of_decide_eq_true h24
            refine q_b [.k, .k, .k, .k, .m, .m, .k, .k, .k, .k, .m] <| q_nil ?_
            clear H
            intro v27 H
            refine z_fr 132 [(1, .pointer (some ⟨p, 0, none⟩)), (2, .pointer (some ⟨g1, 0, none⟩)), (6, .int .i64 c), (63, .bool true)] [] fun uf14 => x_then <| x_t (by kernel_rfl) <| x_seq <| x_region <| x_b H [.m] <| x_nil ?_
            refine x_then <| x_retc <| x_blk_ret <| x_then_ret <| x_ret (.bool false) (by kernel_rfl) (by kernel_rfl) ?_
            have e : decide (jrP r s b o c pg ns D S j) = false := decide_eq_false (by unfold jrP; rintro (h | h | h) <;> first | omega | (have q1 := h.2.2.2.2.2.1; have q2 := h.2.2.2.2.2.2; simp_all))
            exact ⟨by rw [e], H.below⟩
          have h23p := of_decide_eq_true h23
          refine q_b [.k, .k, .k, .k, .k, .m, .m, .k, .k, .k, .k, .m, .m, .k, .k, .k, .k, .m] <| q_nil ?_
          clear H
          intro v28 H
          refine z_fr 132 [(1, .pointer (some ⟨p, 0, none⟩)), (2, .pointer (some ⟨g1, 0, none⟩)), (6, .int .i64 c), (63, .bool true)] [] fun uf15 => x_then <| x_t (by kernel_rfl) <| x_seq <| x_region <| x_b H [.m] <| x_nil ?_
          refine x_then <| x_retc <| x_blk_ret <| x_then_ret <| x_ret (.bool false) (by kernel_rfl) (by kernel_rfl) ?_
          have e : decide (jrP r s b o c pg ns D S j) = false := decide_eq_false (by unfold jrP; rintro (h | h | h) <;> first | omega | (have q1 := h.2.2.2.2.2.1; have q2 := h.2.2.2.2.2.2; simp_all))
          exact ⟨by rw [e], H.below⟩
        have h22p := of_decide_eq_true h22
        refine q_b [.k, .k, .k, .k, .k, .m, .m, .k, .k, .k, .k, .k, .m, .m, .k, .k, .k, .k, .m, .m, .k, .k, .k, .k, .m] <| q_nil ?_
        clear H
        intro v29 H
        refine z_fr 132 [(1, .pointer (some ⟨p, 0, none⟩)), (2, .pointer (some ⟨g1, 0, none⟩)), (6, .int .i64 c), (63, .bool true)] [] fun uf16 => x_then <| x_t (by kernel_rfl) <| x_seq <| x_region <| x_b H [.m] <| x_nil ?_
        refine x_then <| x_retc <| x_blk_ret <| x_then_ret <| x_ret (.bool false) (by kernel_rfl) (by kernel_rfl) ?_
        have e : decide (jrP r s b o c pg ns D S j) = false := decide_eq_false (by unfold jrP; rintro (h | h | h) <;> first | omega | (have q1 := h.2.2.2.2.2.1; have q2 := h.2.2.2.2.2.2; simp_all))
        exact ⟨by rw [e], H.below⟩
      have h21p := of_decide_eq_true h21
      refine q_b [.k, .k, .k, .k, .k, .m, .m, .k, .k, .k, .k, .k, .m, .m, .k, .k, .k, .k, .k, .m, .m, .k, .k, .k, .k, .m, .m, .k, .k, .k, .k, .m] <| q_nil ?_
      clear H
      intro v30 H
      refine z_fr 132 [(1, .pointer (some ⟨p, 0, none⟩)), (2, .pointer (some ⟨g1, 0, none⟩)), (6, .int .i64 c), (63, .bool true)] [] fun uf17 => x_then <| x_t (by kernel_rfl) <| x_seq <| x_region <| x_b H [.m] <| x_nil ?_
      refine x_then <| x_retc <| x_blk_ret <| x_then_ret <| x_ret (.bool false) (by kernel_rfl) (by kernel_rfl) ?_
      have e : decide (jrP r s b o c pg ns D S j) = false := decide_eq_false (by unfold jrP; rintro (h | h | h) <;> first | omega | (have q1 := h.2.2.2.2.2.1; have q2 := h.2.2.2.2.2.2; simp_all))
      exact ⟨by rw [e], H.below⟩
    have h20p := of_decide_eq_true h20
    refine q_b [.k, .k, .k, .m, .m, .k, .k, .k, .k, .k, .m, .m, .k, .k, .k, .k, .k, .m, .m, .k, .k, .k, .k, .k, .m, .m, .k, .k, .k, .k, .m, .m, .k, .k, .k, .k, .m] <| q_nil ?_
    clear H
    intro v31 H
    refine z_fr 132 [(1, .pointer (some ⟨p, 0, none⟩)), (2, .pointer (some ⟨g1, 0, none⟩)), (6, .int .i64 c), (63, .bool true)] [] fun uf18 => x_then <| x_t (by kernel_rfl) <| x_seq <| x_region <| x_b H [.m] <| x_nil ?_
    refine x_then <| x_retc <| x_blk_ret <| x_then_ret <| x_ret (.bool false) (by kernel_rfl) (by kernel_rfl) ?_
    have e : decide (jrP r s b o c pg ns D S j) = false := decide_eq_false (by unfold jrP; rintro (h | h | h) <;> first | omega | (have q1 := h.2.2.2.2.2.1; have q2 := h.2.2.2.2.2.2; simp_all))
    exact ⟨by rw [e], H.below⟩
  have h1p := of_decide_eq_true h1
  refine x_t (by kernel_rfl) <| x_seq <| x_region <| x_b H [.n 1 0 4 77, .m] <| x_val (.bool (decide ((j.1 : Int) = 0) && (decide ((j.2.1 : Int) = 0) && (decide ((j.2.2.1 : Int) = 0) && (decide ((j.2.2.2 : Int) = 0) && true))))) (by kernel_rfl) rfl (run_eqS (t := 77) (x := .tmp 16) (y := .tmp 17) (xs := #[.int .i64 j.1, .int .i64 j.2.1, .int .i64 j.2.2.1, .int .i64 j.2.2.2]) (ys := #[.int .i64 0, .int .i64 0, .int .i64 0, .int .i64 0]) (B := decide ((j.1 : Int) = 0) && (decide ((j.2.1 : Int) = 0) && (decide ((j.2.2.1 : Int) = 0) && (decide ((j.2.2.2 : Int) = 0) && true)))) (by kernel_rfl) (by kernel_rfl) (by kernel_rfl)) <| x_b H [.v (.bool (decide ((j.1 : Int) = 0) && (decide ((j.2.1 : Int) = 0) && (decide ((j.2.2.1 : Int) = 0) && (decide ((j.2.2.2 : Int) = 0) && true)))))] <| x_nil ?_
  refine x_then <| x_retc <| x_blk_ret <| x_then_ret <| x_ret (.bool (decide ((j.1 : Int) = 0) && (decide ((j.2.1 : Int) = 0) && (decide ((j.2.2.1 : Int) = 0) && (decide ((j.2.2.2 : Int) = 0) && true))))) (by kernel_rfl) (by kernel_rfl) ?_
  have e : decide (jrP r s b o c pg ns D S j) = ((decide ((j.1 : Int) = 0) && (decide ((j.2.1 : Int) = 0) && (decide ((j.2.2.1 : Int) = 0) && (decide ((j.2.2.2 : Int) = 0) && true))))) := by
    rw [Bool.eq_iff_iff]
    simp only [Bool.and_eq_true, decide_eq_true_eq, and_true]
    unfold jrP
    refine ⟨?_, ?_⟩
    · rintro (h | h | h) <;> first | omega | (exfalso; omega)
    · intro h
      first | exact .inl (by omega) | exact .inr (.inl ⟨by omega, by omega, by omega, by omega, by omega, by assumption, by assumption⟩) | exact .inr (.inr ⟨by omega, by omega, by omega, by omega, by omega⟩)
  exact ⟨by rw [e], H.below⟩
set_option maxRecDepth 100000 in
set_option maxHeartbeats 4000000 in
theorem moved_no (r s b o c y z : Int) (ad : Option Addr) (nA cA : Nat) (hbd : r ≤ 9223372036854775807 ∧ b ≤ 9223372036854775807 ∧ o ≤ 9223372036854775807 ∧ c ≤ 9223372036854775807) (hok : layoutOk r s b o c y z = false) (w0 : World) :
    Calls Try.prog 46 #[.agg #[.int .i64 r, .int .i64 s, .int .i64 b, .int .i64 o, .int .i64 c, .int .i64 y, .int .i64 z], .slice ad nA cA] w0 fun e w' => e = .returned (.pointer none) ∧ Below w0.heap.size w0 w' := by
  refine z_enter Try.func46 rfl ?_
  have H := Hs.nil w0
  refine x_seq <| x_region <| z_box H #[.int .i64 r, .int .i64 s, .int .i64 b, .int .i64 o, .int .i64 c, .int .i64 y, .int .i64 z] 25 (fun v1 g1 H => ?_)
  refine x_b H [.m] <| x_nil <| x_then <| x_seq <| x_region <| x_b H [.n 0 0 7 25] <| z_callB H (New_no r s b o c y z hbd hok _) fun v2 H => ?_
  refine x_b H [.m, .m, .m, .m, .m] <| x_nil <| x_then <| x_seq <| x_seq <| x_region <| x_b H [.m, .m] ?_
  refine x_nil <| x_then <| x_t (by kernel_rfl) <| x_seq <| x_region <| x_b H [.m] <| x_nil ?_
  refine x_then <| x_retc <| x_then_ret <| x_ret (.pointer none) (by kernel_rfl) (by kernel_rfl) ?_
  exact ⟨rfl, H.below⟩
set_option maxRecDepth 100000 in
set_option maxHeartbeats 4000000 in
theorem moved_yes {r s b o c y z : Int} {pg sn ns : Nat} (hL : Lay r s b o c y z pg sn ns) (ad : Option Addr) (nA cA : Nat) (hA9 : nA ≤ 100) (l : List Ent) (w0 : World) (hA : RAt entL 2 (0, 0) w0 ad nA l) :
    Calls Try.prog 46 #[.agg #[.int .i64 r, .int .i64 s, .int .i64 b, .int .i64 o, .int .i64 c, .int .i64 y, .int .i64 z], .slice ad nA cA] w0 fun e w' => ∃ p gl cl gd cd gs cs L D S pu ru, e = .returned (.pointer (some ⟨p, 0, none⟩)) ∧ Hs [] w0 w' [.blk p #[.int .i64 r, .int .i64 s, .int .i64 b, .int .i64 o, .int .i64 c, .int .i64 y, .int .i64 z, .slice (some ⟨gl, 0, none⟩) sn cl, .slice (some ⟨gd, 0, none⟩) pg cd, .slice (some ⟨gs, 0, none⟩) ns cs, .int .i64 ((pu : Nat) : Int), .int .i64 ((ru : Nat) : Int)] 118, .row (.slice (some ⟨gl, 0, none⟩) sn cl) 3 1 sn (List.map (Value.int .i64) L), .row (.slice (some ⟨gd, 0, none⟩) pg cd) 4 1 pg (List.map Value.bool D), .row (.slice (some ⟨gs, 0, none⟩) ns cs) 3 1 ns (List.map (Value.int .i64) S)] ∧ MapV r s z sn pg ns L D S pu ru := by
  refine z_enter Try.func46 rfl ?_
  have H := Hs.nil w0
  have hok := hL.ok
  obtain ⟨-, r1, r8, s0, s8, b1, b2, o1, o2, c1, c2, y0, y4, z0, z2, hpg, hsn, hns, sn1, pg2, ln0, ln2⟩ := id hL
  refine x_seq <| x_region <| z_box H #[.int .i64 r, .int .i64 s, .int .i64 b, .int .i64 o, .int .i64 c, .int .i64 y, .int .i64 z] 25 (fun v1 g1 H => ?_)
  refine x_b H [.m] <| x_nil <| x_then <| x_seq <| x_region <| x_b H [.n 0 0 7 25] <| z_call (New_yes hL _) ?_
  rintro _ v2 ⟨p, gl, cl, gd, cd, gs, cs, rfl, hN'⟩
  refine ⟨_, rfl, ?_⟩
  replace H := hsCast (H.more hN') (L2 := [.blk p #[.int .i64 r, .int .i64 s, .int .i64 b, .int .i64 o, .int .i64 c, .int .i64 y, .int .i64 z, .slice (some ⟨gl, 0, none⟩) sn cl, .slice (some ⟨gd, 0, none⟩) pg cd, .slice (some ⟨gs, 0, none⟩) ns cs, .int .i64 ((0 : Nat) : Int), .int .i64 ((0 : Nat) : Int)] 118, .row (.slice (some ⟨gl, 0, none⟩) sn cl) 3 1 sn (List.map (Value.int .i64) (iota sn)), .row (.slice (some ⟨gd, 0, none⟩) pg cd) 4 1 pg (List.map Value.bool (List.replicate pg false)), .row (.slice (some ⟨gs, 0, none⟩) ns cs) 3 1 ns (List.map (Value.int .i64) (List.replicate ns (-1))), .blk g1 #[.int .i64 r, .int .i64 s, .int .i64 b, .int .i64 o, .int .i64 c, .int .i64 y, .int .i64 z] 25]) (by kernel_rfl)
  clear hN'
  refine x_b H [.m, .m, .m, .m, .m] <| x_nil <| x_then <| x_seq <| x_seq <| x_region <| x_b H [.m, .m] ?_
  refine x_nil <| x_then <| x_f (by kernel_rfl) <| x_skipc <| x_then <| x_seq <| x_seq ?_
  refine x_region <| x_b H [.m, .m, .m] <| x_nil <| x_then <| x_block ?_
  replace H := H.pk [0, 1, 2, 3, 4]
  refine x_loop (G := Nat × List Int × List Bool × List Int × Nat × Nat) (fun gh a w' => match gh with | (k, L, D, S, pu, ru) => ∃ uf1 : Nat → Value, a = frm 101 uf1 [(2, .pointer (some ⟨g1, 0, none⟩)), (5, .pointer (some ⟨p, 0, none⟩)), (22, .slice ad nA cA), (23, .int .i64 (nA : Int)), (24, .int .i64 (k : Int))] [] ∧ Hs [] w0 w' [.blk p #[.int .i64 r, .int .i64 s, .int .i64 b, .int .i64 o, .int .i64 c, .int .i64 y, .int .i64 z, .slice (some ⟨gl, 0, none⟩) sn cl, .slice (some ⟨gd, 0, none⟩) pg cd, .slice (some ⟨gs, 0, none⟩) ns cs, .int .i64 (pu : Int), .int .i64 (ru : Int)] 118, .row (.slice (some ⟨gl, 0, none⟩) sn cl) 3 1 sn (List.map (Value.int .i64) L), .row (.slice (some ⟨gd, 0, none⟩) pg cd) 4 1 pg (List.map Value.bool D), .row (.slice (some ⟨gs, 0, none⟩) ns cs) 3 1 ns (List.map (Value.int .i64) S), .blk g1 #[.int .i64 r, .int .i64 s, .int .i64 b, .int .i64 o, .int .i64 c, .int .i64 y, .int .i64 z] 25] ∧ (k ≤ nA) ∧ (MapV r s z sn pg ns L D S pu ru)) (fun gh => match gh with | (k, L, D, S, pu, ru) => nA - k) (0, (iota sn), (List.replicate pg false), (List.replicate ns (-1)), 0, 0) ⟨_, frm_of, H, (Nat.zero_le _), (MapV.new hL)⟩ ?_
  clear H
  rintro ⟨k, L, D, S, pu, ru⟩ _ v3 ⟨uf1, rfl, H, r1, r2⟩
  have hV := r2
  refine x_seq <| x_region <| x_b H [.v (.bool (decide ((k : Int) < (nA : Int))))] <| x_nil <| x_then <| x_seq ?_
  cases h1 : decide ((k : Int) < (nA : Int))
  · skip
    have h1p := of_decide_eq_false h1
    refine x_f (by kernel_rfl) <| x_exit <| x_then_exit <| x_then_exit <| x_blk_exit <| x_then <| x_seq ?_
    refine x_region <| x_b H [.m, .m] <| x_nil <| x_then <| x_retc <| x_ret (.pointer (some ⟨p, 0, none⟩)) (by kernel_rfl) (by kernel_rfl) ?_
    exact ⟨p, gl, cl, gd, cd, gs, cs, L, D, S, pu, ru, rfl, H.pk [0, 1, 2, 3], hV⟩
  have h1p := of_decide_eq_true h1
  refine x_t (by kernel_rfl) <| x_skipc <| x_then <| x_seq <| x_block <| x_seq <| x_region ?_
  obtain ⟨ga, oa, had, hcell⟩ := hA (by omega)
  have hm := hV.m
  have hpu := hm.hp
  have hru := hm.hr
  have hfs : 0 ≤ fsV r s ru ∧ fsV r s ru ≤ 16 := by unfold fsV; split <;> omega
  have hfp : 0 ≤ fpV z sn pu ∧ fpV z sn pu ≤ 5000 := by unfold fpV; split <;> omega
  refine x_ixO (t := 85) had k nA cA 141 2 (oa + k * 2) (by omega) (by omega) (by kernel_rfl) (by kernel_rfl) (by kernel_rfl) rfl (by kernel_rfl) <| x_loadcn (t := 141) ga (oa + k * 2) [.int .i64 ((l.getD k (0, 0)).1), .int .i64 ((l.getD k (0, 0)).2)] (hcell _ H.below k (by omega)) (by kernel_rfl) rfl (by kernel_rfl) (by kernel_rfl) <| z_box H #[.int .i64 0, .int .i64 0] 141 (fun v4 g2 H => ?_)
  refine z_store H 0 0 [.int .i64 ((l.getD k (0, 0)).1), .int .i64 ((l.getD k (0, 0)).2)] (fun v5 H => ?_)
  refine x_nil <| x_then <| x_seq <| x_region <| x_b H [.m, .l 0 0] <| x_nil <| x_then ?_
  refine x_block <| x_seq <| x_region <| x_b H [.v (.bool (decide (((l.getD k (0, 0)).1) = 1))), .v (.bool (decide (((l.getD k (0, 0)).1) = 1)))] <| x_nil <| x_then ?_
  cases h2 : decide (((l.getD k (0, 0)).1) = 1)
  · skip
    have h2p := of_decide_eq_false h2
    refine x_f (by kernel_rfl) <| x_seq <| x_region <| x_b H [.v (.bool (decide (((l.getD k (0, 0)).1) = 2))), .v (.bool (decide (((l.getD k (0, 0)).1) = 2)))] <| x_nil <| x_then ?_
    cases h3 : decide (((l.getD k (0, 0)).1) = 2)
    · skip
      have h3p := of_decide_eq_false h3
      refine x_f (by kernel_rfl) <| x_skipc <| x_blk <| x_blk <| x_then <| x_region <| z_ar ((k : Int) + 1) ?_
      refine x_b H [.m] <| x_nil <| x_then ?_
      replace H := H.pk [1, 2, 3, 4, 5]
      exact ⟨(k + 1, L, D, S, pu, ru), (by dsimp only; omega), _, frm_of, H, (by omega), hV⟩
    have h3p := of_decide_eq_true h3
    refine x_t (by kernel_rfl) <| x_seq <| x_region <| x_b H [.m, .m, .l 0 1] <| z_callB (v := .tuple #[.int .i64 (spV ns S ((l.getD k (0, 0)).2)), .bool (spK ns S ((l.getD k (0, 0)).2))]) H (Spare_any hL hV ((l.getD k (0, 0)).2) _ (H.ro1 [1, 2, 3, 4])) fun v6 H => x_b H [.v (.tuple #[.int .i64 (spV ns S ((l.getD k (0, 0)).2)), .bool (spK ns S ((l.getD k (0, 0)).2))]), .m, .v (.bool (spK ns S ((l.getD k (0, 0)).2))), .m, .v (.bool (spK ns S ((l.getD k (0, 0)).2)))] <| x_nil ?_
    refine x_then <| x_seq <| x_region <| x_b H [.v (.bool (spK ns S ((l.getD k (0, 0)).2))), .v (.bool (!(spK ns S ((l.getD k (0, 0)).2)))), .v (.bool (!(spK ns S ((l.getD k (0, 0)).2))))] ?_
    cases h4 : spK ns S ((l.getD k (0, 0)).2)
    · skip
      refine x_b H [.m, .l 0 1, .v (.bool (decide (0 ≤ ((l.getD k (0, 0)).2)))), .v (.bool (decide (0 ≤ ((l.getD k (0, 0)).2)))), .v (.bool (decide (0 ≤ ((l.getD k (0, 0)).2))))] ?_
      cases h5 : decide (0 ≤ ((l.getD k (0, 0)).2))
      · skip
        have h5p := of_decide_eq_false h5
        refine x_b H [.k, .k, .k, .k, .k, .k, .m] <| x_nil <| x_then <| x_f (by kernel_rfl) <| x_skipc <| x_blk <| x_blk ?_
        refine x_then <| x_region <| z_ar ((k : Int) + 1) <| x_b H [.m] <| x_nil <| x_then ?_
        replace H := H.pk [1, 2, 3, 4, 5]
        exact ⟨(k + 1, L, D, S, pu, ru), (by dsimp only; omega), _, frm_of, H, (by omega), hV⟩
      have h5p := of_decide_eq_true h5
      refine x_b H [.m, .l 0 1, .m, .m, .l 5 0, .v (.bool (decide (((l.getD k (0, 0)).2) < r))), .v (.bool (decide (((l.getD k (0, 0)).2) < r)))] <| x_nil <| x_then ?_
      cases h6 : decide (((l.getD k (0, 0)).2) < r)
      · skip
        have h6p := of_decide_eq_false h6
        refine x_f (by kernel_rfl) <| x_skipc <| x_blk <| x_blk <| x_then <| x_region <| z_ar ((k : Int) + 1) ?_
        refine x_b H [.m] <| x_nil <| x_then ?_
        replace H := H.pk [1, 2, 3, 4, 5]
        exact ⟨(k + 1, L, D, S, pu, ru), (by dsimp only; omega), _, frm_of, H, (by omega), hV⟩
      have h6p := of_decide_eq_true h6
      refine x_t (by kernel_rfl) <| x_seq <| x_region <| x_b H [.m] ?_
      have hV2 := hV.takeS
      refine z_callH (H.useI [1, 2, 3, 4] (fun h => TakeSpare_any hL hV  _ h)) fun v7 H => x_b H [.m, .m, .m, .m, .m] <| x_nil <| z_fr 101 [(2, .pointer (some ⟨g1, 0, none⟩)), (5, .pointer (some ⟨p, 0, none⟩)), (8, .pointer (some ⟨g2, 0, none⟩)), (13, .int .i64 (fsV r s ru)), (14, .int .i64 (tkE s ru)), (22, .slice ad nA cA), (23, .int .i64 (nA : Int)), (24, .int .i64 (k : Int))] [] fun uf2 => x_then <| x_seq <| x_region ?_
      refine x_b H [.m, .v (.bool (decide ((tkE s ru) = 0)))] <| x_nil <| x_then ?_
      cases h7 : decide ((tkE s ru) = 0)
      · skip
        have h7p := of_decide_eq_false h7
        refine x_f (by kernel_rfl) <| x_skipc <| x_blk <| x_blk <| x_then <| x_region <| z_ar ((k : Int) + 1) ?_
        refine x_b H [.m] <| x_nil <| x_then ?_
        replace H := H.pk [0, 1, 2, 3, 5]
        exact ⟨(k + 1, L, D, S, pu, (tkN s ru)), (by dsimp only; omega), _, frm_of, H, (by omega), hV2⟩
      have h7p := of_decide_eq_true h7
      refine x_t (by kernel_rfl) <| x_region <| x_b H [.m, .m, .l 4 1, .m] ?_
      have hV3 := hV2.replace ((l.getD k (0, 0)).2) (fsV r s ru)
      refine z_callH (v := .int .i64 (rpE r ns (tkN s ru) S ((l.getD k (0, 0)).2) (fsV r s ru))) (H.useI [0, 1, 2, 3] (fun h => Replace_any hL hV2 ((l.getD k (0, 0)).2) (fsV r s ru) (by omega) _ h)) fun v8 H => x_nil <| x_blk <| x_blk <| x_then <| x_region <| z_ar ((k : Int) + 1) ?_
      refine x_b H [.m] <| x_nil <| x_then ?_
      replace H := H.pk [0, 1, 2, 3, 5]
      exact ⟨(k + 1, L, D, (rpS r ns (tkN s ru) S ((l.getD k (0, 0)).2) (fsV r s ru)), pu, (tkN s ru)), (by dsimp only; omega), _, frm_of, H, (by omega), hV3⟩
    refine x_b H [.k, .k, .k, .m, .m, .k, .k, .k, .k, .k, .k, .m] <| x_nil <| x_then <| x_f (by kernel_rfl) <| x_skipc <| x_blk <| x_blk ?_
    refine x_then <| x_region <| z_ar ((k : Int) + 1) <| x_b H [.m] <| x_nil <| x_then ?_
    replace H := H.pk [1, 2, 3, 4, 5]
    exact ⟨(k + 1, L, D, S, pu, ru), (by dsimp only; omega), _, frm_of, H, (by omega), hV⟩
  have h2p := of_decide_eq_true h2
  refine x_t (by kernel_rfl) <| x_seq <| x_region <| x_b H [.m] <| z_callB (v := .tuple #[.int .i64 (fpV z sn pu), .bool (!(decide ((pu : Int) = z)))]) H (FreePage_any hL hV  _ (H.ro1 [1, 2, 3, 4])) fun v9 H => x_b H [.v (.tuple #[.int .i64 (fpV z sn pu), .bool (!(decide ((pu : Int) = z)))]), .m, .v (.bool (!(decide ((pu : Int) = z)))), .m, .v (.bool (!(decide ((pu : Int) = z))))] <| x_nil ?_
  refine x_then <| x_seq <| x_region <| x_b H [.v (.bool (!(decide ((pu : Int) = z)))), .v (.bool (!(decide ((pu : Int) = z))))] ?_
  cases h8 : decide ((pu : Int) = z)
  · skip
    have h8p := of_decide_eq_false h8
    refine x_b H [.m, .l 0 1, .v (.bool (decide (0 ≤ ((l.getD k (0, 0)).2)))), .v (.bool (decide (0 ≤ ((l.getD k (0, 0)).2)))), .v (.bool (decide (0 ≤ ((l.getD k (0, 0)).2))))] ?_
    cases h9 : decide (0 ≤ ((l.getD k (0, 0)).2))
    · skip
      have h9p := of_decide_eq_false h9
      refine x_b H [.k, .k, .k, .k, .m, .m, .k, .k, .k, .k, .k, .m] <| x_nil <| x_then <| x_f (by kernel_rfl) <| x_skipc <| x_blk <| x_blk ?_
      refine x_then <| x_region <| z_ar ((k : Int) + 1) <| x_b H [.m] <| x_nil <| x_then ?_
      replace H := H.pk [1, 2, 3, 4, 5]
      exact ⟨(k + 1, L, D, S, pu, ru), (by dsimp only; omega), _, frm_of, H, (by omega), hV⟩
    have h9p := of_decide_eq_true h9
    refine x_b H [.m, .l 0 1, .m, .v (.bool (decide (((l.getD k (0, 0)).2) < (fpV z sn pu)))), .v (.bool (decide (((l.getD k (0, 0)).2) < (fpV z sn pu)))), .v (.bool (decide (((l.getD k (0, 0)).2) < (fpV z sn pu))))] ?_
    cases h10 : decide (((l.getD k (0, 0)).2) < (fpV z sn pu))
    · skip
      have h10p := of_decide_eq_false h10
      refine x_b H [.k, .k, .k, .k, .k, .m] <| x_nil <| x_then <| x_f (by kernel_rfl) <| x_skipc <| x_blk <| x_blk ?_
      refine x_then <| x_region <| z_ar ((k : Int) + 1) <| x_b H [.m] <| x_nil <| x_then ?_
      replace H := H.pk [1, 2, 3, 4, 5]
      exact ⟨(k + 1, L, D, S, pu, ru), (by dsimp only; omega), _, frm_of, H, (by omega), hV⟩
    have h10p := of_decide_eq_true h10
    refine x_b H [.m, .m, .l 0 1] <| z_callB (v := .bool (ddV pg D ((l.getD k (0, 0)).2))) H (Dead_any hL hV ((l.getD k (0, 0)).2) _ (H.ro1 [1, 2, 3, 4])) fun v10 H => x_b H [.v (.bool (!(ddV pg D ((l.getD k (0, 0)).2)))), .v (.bool (!(ddV pg D ((l.getD k (0, 0)).2))))] <| x_nil <| x_then ?_
    cases h11 : ddV pg D ((l.getD k (0, 0)).2)
    · skip
      refine x_t (by kernel_rfl) <| x_seq <| x_region <| x_b H [.m] ?_
      have hV2 := hV.take
      refine z_callH (H.useI [1, 2, 3, 4] (fun h => TakePage_any hL hV  _ h)) fun v11 H => x_nil <| x_then <| x_region <| x_b H [.m, .m, .l 4 1, .m] ?_
      have hV3 := hV2.retire hL ((l.getD k (0, 0)).2) (fpV z sn pu)
      refine z_callH (v := .int .i64 (reE sn pg (tkN z pu) D ((l.getD k (0, 0)).2) (fpV z sn pu))) (H.useI [0, 1, 2, 3] (fun h => Retire_any hL hV2 ((l.getD k (0, 0)).2) (fpV z sn pu) (by omega) _ h)) fun v12 H => x_nil <| z_fr 101 [(2, .pointer (some ⟨g1, 0, none⟩)), (5, .pointer (some ⟨p, 0, none⟩)), (22, .slice ad nA cA), (23, .int .i64 (nA : Int)), (24, .int .i64 (k : Int))] [] fun uf3 => x_blk <| x_blk <| x_then <| x_region ?_
      refine z_ar ((k : Int) + 1) <| x_b H [.m] <| x_nil <| x_then ?_
      replace H := H.pk [0, 1, 2, 3, 5]
      exact ⟨(k + 1, (reL sn pg (tkN z pu) D ((l.getD k (0, 0)).2) (fpV z sn pu) L), (reD sn pg (tkN z pu) D ((l.getD k (0, 0)).2) (fpV z sn pu)), S, (tkN z pu), ru), (by dsimp only; omega), _, frm_of, H, (by omega), hV3⟩
    refine x_f (by kernel_rfl) <| x_skipc <| x_blk <| x_blk <| x_then <| x_region <| z_ar ((k : Int) + 1) ?_
    refine x_b H [.m] <| x_nil <| x_then ?_
    replace H := H.pk [1, 2, 3, 4, 5]
    exact ⟨(k + 1, L, D, S, pu, ru), (by dsimp only; omega), _, frm_of, H, (by omega), hV⟩
  have h8p := of_decide_eq_true h8
  refine x_b H [.k, .k, .k, .m, .m, .k, .k, .k, .k, .m, .m, .k, .k, .k, .k, .k, .m] <| x_nil <| x_then <| x_f (by kernel_rfl) <| x_skipc <| x_blk <| x_blk ?_
  refine x_then <| x_region <| z_ar ((k : Int) + 1) <| x_b H [.m] <| x_nil <| x_then ?_
  replace H := H.pk [1, 2, 3, 4, 5]
  exact ⟨(k + 1, L, D, S, pu, ru), (by dsimp only; omega), _, frm_of, H, (by omega), hV⟩
end Go.Proofs.Ytpmnnijjohlloaa
