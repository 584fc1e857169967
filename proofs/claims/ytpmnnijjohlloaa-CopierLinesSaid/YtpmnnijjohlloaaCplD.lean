/- The law CopierLines, walked. -/
import Derived.Test.YtpmnnijjohlloaaCplC
import Derived.Test.YtpmnnijjohlloaaPxZ
namespace Go.Proofs.Ytpmnnijjohlloaa
open Go Go.RowKit
set_option linter.unusedVariables false
set_option linter.unusedSimpArgs false
theorem jr_kind {r s b o c : Int} {pg ns : Nat} {D : List Bool} {S : List Int} {j : Job4} (hj : jrP r s b o c pg ns D S j) {i : Int} (h0 : 0 ≤ i) (h1 : i < Rp.cnt b o c j) : j.1 = 1 ∨ j.1 = 2 := by
  unfold jrP at hj
  unfold Rp.cnt at h1
  by_cases e : j.1 = 0
  · rw [if_neg (by omega), if_neg (by omega)] at h1; omega
  · omega
/-- Where a page lies; a rank as it is. -/
def pgI (y r b o : Int) (S : List Int) (kd w : Int) : Int := if kd = 2 then w else idxP y r b o S w
theorem pages20_any {r s b o c y z : Int} {pg sn ns : Nat} (hL : Lay r s b o c y z pg sn ns) {p gl cl gd cd gs cs : Nat} {L : List Int} {D : List Bool} {S : List Int} {pu ru : Nat} (hV : MapV r s z sn pg ns L D S pu ru) {j : Job4} (hj : jrP r s b o c pg ns D S j) (hk : j.1 = 1 ∨ j.1 = 2) {w : Int} (hw : w = j.2.1 ∨ w = j.2.2.1) (w0 : World) (hR : Ro w0 [.blk p #[.int .i64 r, .int .i64 s, .int .i64 b, .int .i64 o, .int .i64 c, .int .i64 y, .int .i64 z, .slice (some ⟨gl, 0, none⟩) sn cl, .slice (some ⟨gd, 0, none⟩) pg cd, .slice (some ⟨gs, 0, none⟩) ns cs, .int .i64 ((pu : Nat) : Int), .int .i64 ((ru : Nat) : Int)] 118, .row (.slice (some ⟨gl, 0, none⟩) sn cl) 3 1 sn (List.map (Value.int .i64) L), .row (.slice (some ⟨gd, 0, none⟩) pg cd) 4 1 pg (List.map Value.bool D), .row (.slice (some ⟨gs, 0, none⟩) ns cs) 3 1 ns (List.map (Value.int .i64) S)]) : Calls Try.prog 53 #[.pointer (some ⟨p, 0, none⟩), .int .i64 w, .int .i64 j.1] w0 fun e w' => e = .returned (.int .i64 (pgI y r b o S j.1 w)) ∧ Below w0.heap.size w0 w' := by
  unfold jrP at hj
  rcases hk with hk | hk
  · have e : pgI y r b o S j.1 w = idxP y r b o S w := by unfold pgI; rw [if_neg (by omega)]
    rw [e, hk]; exact pages20_p hL hV w (by omega) w0 hR
  · have e : pgI y r b o S j.1 w = w := by unfold pgI; rw [if_pos hk]
    rw [e, hk]; exact pages20_r _ w w0
theorem ix20_any {r s b o c y z : Int} {pg sn ns : Nat} (hL : Lay r s b o c y z pg sn ns) {p gl cl gd cd gs cs : Nat} {L : List Int} {D : List Bool} {S : List Int} {pu ru : Nat} (hV : MapV r s z sn pg ns L D S pu ru) {j : Job4} (hj : jrP r s b o c pg ns D S j) (hk : j.1 = 1 ∨ j.1 = 2) {w : Int} (hw : w = j.2.1 ∨ w = j.2.2.1) (i : Int) (hi : 0 ≤ i ∧ i < (Rp.cnt b o c j)) (w0 : World) : Calls Try.prog 52 #[.agg #[.int .i64 r, .int .i64 s, .int .i64 b, .int .i64 o, .int .i64 c], .int .i64 j.1, .int .i64 (pgI y r b o S j.1 w), .int .i64 i] w0 fun e w' => e = .returned (.int .i64 (atI y r b o c S j.1 w i)) ∧ Below w0.heap.size w0 w' := by
  have hg := geom_of hL
  have hns := hL.hns
  have hc2 := hL.c2
  unfold jrP at hj
  rcases hk with hk | hk
  · have e : pgI y r b o S j.1 w = idxP y r b o S w := by unfold pgI; rw [if_neg (by omega)]
    have e2 : (atI y r b o c S j.1 w i) = idxP y r b o S w * 64 + i := by unfold atI; rw [if_neg (by omega)]
    have hq := idxP_in hL hV (h := w) (by omega) (by omega)
    have hcn : (Rp.cnt b o c j) = c := by unfold Rp.cnt; rw [if_pos hk]
    rw [e, e2, hk]; exact ix20_page r s b o c _ i hq (by omega) w0
  · have e : pgI y r b o S j.1 w = w := by unfold pgI; rw [if_pos hk]
    have e2 : (atI y r b o c S j.1 w i) = nthI o c w i := by unfold atI; rw [if_pos hk]
    have hcn : (Rp.cnt b o c j) = b * o * c := by unfold Rp.cnt; rw [if_neg (by omega), if_pos hk]
    have hb := hL.b1
    have ho := hL.o1
    have hc := hL.c1
    have hs0 := hL.s0
    have hr1 := hL.r1
    rw [e, e2, hk]
    rw [hcn] at hi
    have hw2 : 0 ≤ w ∧ w < r + s := by omega
    clear e e2 hcn hj hw
    obtain ⟨bn, rfl⟩ := Int.eq_ofNat_of_zero_le (show 0 ≤ b by omega)
    obtain ⟨on, rfl⟩ := Int.eq_ofNat_of_zero_le (show 0 ≤ o by omega)
    obtain ⟨cn, rfl⟩ := Int.eq_ofNat_of_zero_le (show 0 ≤ c by omega)
    obtain ⟨tn, ht⟩ := Int.eq_ofNat_of_zero_le (show 0 ≤ r + s by omega)
    exact ix20_rank hg ht.symm w i hw2 hi w0
theorem Done_b {r s b o c y z : Int} {pg sn ns : Nat} (hL : Lay r s b o c y z pg sn ns) (j : Job4) (h0 : ¬ j.1 = 0) (w0 : World) : Calls Try.prog 55 #[.agg #[.int .i64 j.1, .int .i64 j.2.1, .int .i64 j.2.2.1, .int .i64 j.2.2.2], .agg #[.int .i64 r, .int .i64 s, .int .i64 b, .int .i64 o, .int .i64 c, .int .i64 y, .int .i64 z]] w0 fun e w' => e = .returned (.bool (decide (j.2.2.2 = (Rp.cnt b o c j)))) ∧ Below w0.heap.size w0 w' := by
  have h := Done_any hL j w0
  rw [decide_eq_false h0, Bool.not_false, Bool.true_and] at h
  exact h
set_option maxRecDepth 100000 in
set_option maxHeartbeats 4000000 in
theorem cpl_no (r s b o c y z : Int) (ad : Option Addr) (nA cA : Nat) (j : Job4) (i : Int) (hbd : r ≤ 9223372036854775807 ∧ b ≤ 9223372036854775807 ∧ o ≤ 9223372036854775807 ∧ c ≤ 9223372036854775807) (hok : layoutOk r s b o c y z = false) (w0 : World) :
    Calls Try.prog 8 #[.agg #[.int .i64 r, .int .i64 s, .int .i64 b, .int .i64 o, .int .i64 c, .int .i64 y, .int .i64 z], .slice ad nA cA, .agg #[.int .i64 j.1, .int .i64 j.2.1, .int .i64 j.2.2.1, .int .i64 j.2.2.2], .int .i64 i] w0 fun e w' => e = .returned (.bool true) ∧ Below w0.heap.size w0 w' := by
  refine x_enterM Try.func8 rfl #[.agg #[.int .i64 r, .int .i64 s, .int .i64 b, .int .i64 o, .int .i64 c, .int .i64 y, .int .i64 z], .slice ad nA cA, .agg #[.int .i64 j.1, .int .i64 j.2.1, .int .i64 j.2.2.1, .int .i64 j.2.2.2], .int .i64 i, undef, undef, undef, undef, undef, undef, undef, undef, undef, undef, undef, undef, undef, undef, undef, undef, undef, undef, undef, undef, undef, undef, undef, undef, undef, undef, undef, undef, undef, undef, undef, undef, undef, undef, undef, undef, undef, undef, undef, undef, undef, undef, undef, undef, undef, undef, undef, undef, undef, undef, undef, undef, undef, undef, undef, undef, undef, undef, undef, undef, undef, undef, undef, undef, undef, undef, undef, undef, undef, undef, undef, undef, undef, undef, undef, undef, undef, undef, undef, undef, undef, undef, undef, undef, undef, undef, undef, undef, undef, undef, undef, undef, undef, undef, undef, undef, undef, undef, undef, undef, undef, undef, undef, undef, undef, undef, undef, undef, undef, undef, undef, undef, undef, undef, undef, undef, undef, undef, undef, undef, undef, undef, undef, undef, undef, undef, undef, undef, undef, undef, undef, undef, undef, undef, undef, undef, undef, undef, undef, undef, undef, undef, undef, undef, undef, undef, undef, undef, undef, undef, undef, undef, undef, undef, undef, undef, undef, undef, undef, undef, undef, undef, undef, undef, undef, undef, undef, undef, undef, undef, undef, undef, undef, undef, undef, undef, undef, undef, undef, undef, undef, undef, undef] (by kernel_rfl) ?_
  have H := Hs.nil w0
  obtain ⟨hb1, hb2, hb3, hb4⟩ := id hbd
  refine x_seq <| x_region <| z_box H #[.int .i64 r, .int .i64 s, .int .i64 b, .int .i64 o, .int .i64 c, .int .i64 y, .int .i64 z] 25 (fun v1 g1 H => ?_)
  refine z_box H #[.int .i64 j.1, .int .i64 j.2.1, .int .i64 j.2.2.1, .int .i64 j.2.2.2] 77 (fun v2 g2 H => ?_)
  refine z_box H #[.bool false] 4 (fun v3 g3 H => ?_)
  refine x_nil <| x_then <| x_seq <| x_seq <| x_region <| z_callB H (anchor20 _) fun v4 H => x_b H [.m] ?_
  refine x_nil <| x_then <| x_f (by kernel_rfl) <| x_skipc <| x_then <| x_seq <| x_seq ?_
  refine x_region <| x_b H [.n 2 0 7 25] <| z_call (small20_any r s b o c y z (by omega) (by omega) (by omega) (by omega) _) ?_
  rintro _ v5 ⟨tS, rfl, hB⟩
  refine ⟨_, rfl, ?_⟩
  replace H := H.via hB
  clear hB
  refine x_b H [.v (.bool (!tS)), .v (.bool (!tS))] ?_
  cases h1 : tS
  · skip
    refine x_b H [.k, .k, .k, .m] <| x_nil <| x_then <| x_t (by kernel_rfl) <| x_seq <| x_region <| z_store H 0 0 [.bool true] (fun v6 H => ?_)
    refine x_nil <| x_then <| x_retc <| x_then_ret <| x_ret0 (.bool true) (by kernel_rfl) (x_rescell1 H 0 g3 0 #[.bool true] 4 (.bool true) (fun x => x) (by kernel_rfl) (by kernel_rfl) (by kernel_rfl)) ?_
    exact ⟨rfl, H.below⟩
  refine x_b H [.m, .m, .v (.bool (decide (20 < (nA : Int)))), .v (.bool (decide (20 < (nA : Int))))] <| x_nil <| x_then ?_
  cases h2 : decide (20 < (nA : Int))
  · skip
    have h2p := of_decide_eq_false h2
    refine x_f (by kernel_rfl) <| x_skipc <| x_then <| x_seq <| x_region <| x_b H [.n 2 0 7 25, .m] <| z_callB H (moved_no r s b o c y z ad nA cA hbd hok _) fun v7 H => ?_
    refine z_box H #[.pointer none] 27 (fun v8 g4 H => ?_)
    refine z_store H 0 0 [.pointer none] (fun v9 H => ?_)
    refine x_nil <| x_then <| x_seq <| x_seq <| x_region <| x_b H [.l 0 0, .m] <| x_nil ?_
    refine x_then <| x_t (by kernel_rfl) <| x_seq <| x_region <| x_b H [.n 3 0 7 25] <| z_callB (v := .bool (layoutOk r s b o c y z)) H (lRight_any _ _ _ _ _ _ _ (by omega) (by omega) (by omega) (by omega) _) fun v10 H => x_b H [.v (.bool (!(layoutOk r s b o c y z)))] ?_
    refine z_store H 1 0 [.bool (!(layoutOk r s b o c y z))] (fun v11 H => ?_)
    refine x_nil <| x_then <| x_retc <| x_then_ret <| x_ret0 (.bool (!(layoutOk r s b o c y z))) (by kernel_rfl) (x_rescell1 H 1 g3 0 #[.bool (!(layoutOk r s b o c y z))] 4 (.bool (!(layoutOk r s b o c y z))) (fun x => x) (by kernel_rfl) (by kernel_rfl) (by kernel_rfl)) ?_
    exact ⟨by rw [hok]; rfl, H.below⟩
  have h2p := of_decide_eq_true h2
  refine x_t (by kernel_rfl) <| x_seq <| x_region <| z_store H 0 0 [.bool true] (fun v12 H => ?_)
  refine x_nil <| x_then <| x_retc <| x_then_ret <| x_ret0 (.bool true) (by kernel_rfl) (x_rescell1 H 0 g3 0 #[.bool true] 4 (.bool true) (fun x => x) (by kernel_rfl) (by kernel_rfl) (by kernel_rfl)) ?_
  exact ⟨rfl, H.below⟩
set_option maxRecDepth 100000 in
set_option maxHeartbeats 4000000 in
theorem cpl_yes {r s b o c y z : Int} {pg sn ns : Nat} (hL : Lay r s b o c y z pg sn ns) (ad : Option Addr) (nA cA : Nat) (j : Job4) (ht : -9223372036854775808 ≤ j.2.2.1 ∧ j.2.2.1 ≤ 9223372036854775807) (i : Int) (l : List Ent) (w0 : World) (hA : RAt entL 2 (0, 0) w0 ad nA l) :
    Calls Try.prog 8 #[.agg #[.int .i64 r, .int .i64 s, .int .i64 b, .int .i64 o, .int .i64 c, .int .i64 y, .int .i64 z], .slice ad nA cA, .agg #[.int .i64 j.1, .int .i64 j.2.1, .int .i64 j.2.2.1, .int .i64 j.2.2.2], .int .i64 i] w0 fun e w' => e = .returned (.bool true) ∧ Below w0.heap.size w0 w' := by
  refine x_enterM Try.func8 rfl #[.agg #[.int .i64 r, .int .i64 s, .int .i64 b, .int .i64 o, .int .i64 c, .int .i64 y, .int .i64 z], .slice ad nA cA, .agg #[.int .i64 j.1, .int .i64 j.2.1, .int .i64 j.2.2.1, .int .i64 j.2.2.2], .int .i64 i, undef, undef, undef, undef, undef, undef, undef, undef, undef, undef, undef, undef, undef, undef, undef, undef, undef, undef, undef, undef, undef, undef, undef, undef, undef, undef, undef, undef, undef, undef, undef, undef, undef, undef, undef, undef, undef, undef, undef, undef, undef, undef, undef, undef, undef, undef, undef, undef, undef, undef, undef, undef, undef, undef, undef, undef, undef, undef, undef, undef, undef, undef, undef, undef, undef, undef, undef, undef, undef, undef, undef, undef, undef, undef, undef, undef, undef, undef, undef, undef, undef, undef, undef, undef, undef, undef, undef, undef, undef, undef, undef, undef, undef, undef, undef, undef, undef, undef, undef, undef, undef, undef, undef, undef, undef, undef, undef, undef, undef, undef, undef, undef, undef, undef, undef, undef, undef, undef, undef, undef, undef, undef, undef, undef, undef, undef, undef, undef, undef, undef, undef, undef, undef, undef, undef, undef, undef, undef, undef, undef, undef, undef, undef, undef, undef, undef, undef, undef, undef, undef, undef, undef, undef, undef, undef, undef, undef, undef, undef, undef, undef, undef, undef, undef, undef, undef, undef, undef, undef, undef, undef, undef, undef, undef, undef, undef, undef, undef, undef, undef, undef, undef, undef] (by kernel_rfl) ?_
  have H := Hs.nil w0
  have hok := hL.ok
  obtain ⟨-, r1, r8, s0, s8, b1, b2, o1, o2, c1, c2, y0, y4, z0, z2, hpg, hsn, hns, sn1, pg2, ln0, ln2⟩ := id hL
  obtain ⟨hcb0, hcb1⟩ := cnt_bd (geom_of hL) j
  refine x_seq <| x_region <| z_box H #[.int .i64 r, .int .i64 s, .int .i64 b, .int .i64 o, .int .i64 c, .int .i64 y, .int .i64 z] 25 (fun v1 g1 H => ?_)
  refine z_box H #[.int .i64 j.1, .int .i64 j.2.1, .int .i64 j.2.2.1, .int .i64 j.2.2.2] 77 (fun v2 g2 H => ?_)
  refine z_box H #[.bool false] 4 (fun v3 g3 H => ?_)
  refine x_nil <| x_then <| x_seq <| x_seq <| x_region <| z_callB H (anchor20 _) fun v4 H => x_b H [.m] ?_
  refine x_nil <| x_then <| x_f (by kernel_rfl) <| x_skipc <| x_then <| x_seq <| x_seq ?_
  refine x_region <| x_b H [.n 2 0 7 25] <| z_call (small20_any r s b o c y z (by omega) (by omega) (by omega) (by omega) _) ?_
  rintro _ v5 ⟨tS, rfl, hB⟩
  refine ⟨_, rfl, ?_⟩
  replace H := H.via hB
  clear hB
  refine x_b H [.v (.bool (!tS)), .v (.bool (!tS))] ?_
  cases h1 : tS
  · skip
    refine x_b H [.k, .k, .k, .m] <| x_nil <| x_then <| x_t (by kernel_rfl) <| x_seq <| x_region <| z_store H 0 0 [.bool true] (fun v6 H => ?_)
    refine x_nil <| x_then <| x_retc <| x_then_ret <| x_ret0 (.bool true) (by kernel_rfl) (x_rescell1 H 0 g3 0 #[.bool true] 4 (.bool true) (fun x => x) (by kernel_rfl) (by kernel_rfl) (by kernel_rfl)) ?_
    exact ⟨rfl, H.below⟩
  refine x_b H [.m, .m, .v (.bool (decide (20 < (nA : Int)))), .v (.bool (decide (20 < (nA : Int))))] <| x_nil <| x_then ?_
  cases h2 : decide (20 < (nA : Int))
  · skip
    have h2p := of_decide_eq_false h2
    refine x_f (by kernel_rfl) <| x_skipc <| x_then <| x_seq <| x_region <| x_b H [.n 2 0 7 25, .m] <| z_call (moved_yes hL ad nA cA (by omega) l _ (hA.at H.below)) ?_
    rintro _ v7 ⟨p, gl, cl, gd, cd, gs, cs, L, D, S, pu, ru, rfl, hN', hV⟩
    refine ⟨_, rfl, ?_⟩
    replace H := hsCast (H.more hN') (L2 := [.blk p #[.int .i64 r, .int .i64 s, .int .i64 b, .int .i64 o, .int .i64 c, .int .i64 y, .int .i64 z, .slice (some ⟨gl, 0, none⟩) sn cl, .slice (some ⟨gd, 0, none⟩) pg cd, .slice (some ⟨gs, 0, none⟩) ns cs, .int .i64 (pu : Int), .int .i64 (ru : Int)] 118, .row (.slice (some ⟨gl, 0, none⟩) sn cl) 3 1 sn (List.map (Value.int .i64) L), .row (.slice (some ⟨gd, 0, none⟩) pg cd) 4 1 pg (List.map Value.bool D), .row (.slice (some ⟨gs, 0, none⟩) ns cs) 3 1 ns (List.map (Value.int .i64) S), .blk g3 #[.bool false] 4, .blk g2 #[.int .i64 j.1, .int .i64 j.2.1, .int .i64 j.2.2.1, .int .i64 j.2.2.2] 77, .blk g1 #[.int .i64 r, .int .i64 s, .int .i64 b, .int .i64 o, .int .i64 c, .int .i64 y, .int .i64 z] 25]) (by kernel_rfl)
    clear hN'
    refine z_box H #[.pointer none] 27 (fun v8 g4 H => ?_)
    refine z_store H 0 0 [.pointer (some ⟨p, 0, none⟩)] (fun v9 H => ?_)
    refine x_nil <| x_then <| x_seq <| x_seq <| x_region <| x_b H [.l 0 0, .m] <| x_nil ?_
    refine x_then <| x_f (by kernel_rfl) <| x_skipc <| x_then <| x_seq <| x_region <| x_b H [.n 6 0 4 77, .l 0 0, .m] ?_
    cases h3 : decide (jrP r s b o c pg ns D S j)
    · skip
      have h3p := of_decide_eq_false h3
      refine z_callB H (Source_out hL hV j ht i (fun h => absurd h.1 h3p) _ (H.ro1 [1, 2, 3, 4])) fun v10 H => x_b H [.m, .m, .m, .m, .m] <| x_nil <| x_then <| x_seq <| x_region <| x_b H [.n 6 0 4 77, .l 0 0, .m] ?_
      refine z_callB H (Goal_out hL hV j ht i (fun h => absurd h.1 h3p) _ (H.ro1 [1, 2, 3, 4])) fun v11 H => x_b H [.m, .m, .m, .m, .m] <| x_nil <| x_then <| x_seq <| x_seq <| z_region_whole H ?_
      refine q_b [.n 6 0 4 77, .l 0 0] <| q_callR (.bool false) (by kernel_rfl) (fun _ => by kernel_rfl) (fun _ H => (by have h := Right_any hL hV j ht _ (H.ro1 [1, 2, 3, 4]); rw [h3] at h; exact h)) <| q_b [.n 6 0 4 77, .l 0 0] <| q_callR (.bool false) (by kernel_rfl) (fun _ => by kernel_rfl) (fun _ H => (by have h := right20 hL hV j ht _ (H.ro1 [1, 2, 3, 4]); rw [h3] at h; exact h)) <| q_b [.m] <| q_nil ?_
      clear H
      intro v12 H
      refine z_fr 187 [(0, .agg #[.int .i64 r, .int .i64 s, .int .i64 b, .int .i64 o, .int .i64 c, .int .i64 y, .int .i64 z]), (1, .slice ad nA cA), (2, .agg #[.int .i64 j.1, .int .i64 j.2.1, .int .i64 j.2.2.1, .int .i64 j.2.2.2]), (3, .int .i64 i), (4, .pointer (some ⟨g1, 0, none⟩)), (6, .pointer (some ⟨g2, 0, none⟩)), (8, .pointer (some ⟨g3, 0, none⟩)), (9, .pointer (some ⟨g4, 0, none⟩)), (10, .int .i64 0), (11, .int .i64 12), (12, .int .i64 0), (13, .int .i64 12), (24, .bool true), (25, .bool false), (26, .agg #[.int .i64 r, .int .i64 s, .int .i64 b, .int .i64 o, .int .i64 c, .int .i64 y, .int .i64 z]), (27, .bool true), (28, .bool false), (29, .bool false), (30, .slice ad nA cA), (31, .int .i64 (nA : Int)), (32, .bool false), (33, .bool false), (34, .agg #[.int .i64 r, .int .i64 s, .int .i64 b, .int .i64 o, .int .i64 c, .int .i64 y, .int .i64 z]), (35, .slice ad nA cA), (36, .pointer (some ⟨p, 0, none⟩)), (37, .pointer (some ⟨p, 0, none⟩)), (38, .bool false), (42, .tuple #[.int .i64 0, .int .i64 12]), (43, .agg #[.int .i64 j.1, .int .i64 j.2.1, .int .i64 j.2.2.1, .int .i64 j.2.2.2]), (44, .pointer (some ⟨p, 0, none⟩)), (45, .int .i64 i), (46, .tuple #[.int .i64 0, .int .i64 12]), (47, .int .i64 0), (48, .int .i64 12), (49, .tuple #[.int .i64 0, .int .i64 12]), (50, .agg #[.int .i64 j.1, .int .i64 j.2.1, .int .i64 j.2.2.1, .int .i64 j.2.2.2]), (51, .pointer (some ⟨p, 0, none⟩)), (52, .int .i64 i), (53, .tuple #[.int .i64 0, .int .i64 12]), (54, .int .i64 0), (55, .int .i64 12), (56, .agg #[.int .i64 j.1, .int .i64 j.2.1, .int .i64 j.2.2.1, .int .i64 j.2.2.2]), (57, .pointer (some ⟨p, 0, none⟩)), (58, .bool false), (59, .agg #[.int .i64 j.1, .int .i64 j.2.1, .int .i64 j.2.2.1, .int .i64 j.2.2.2]), (60, .pointer (some ⟨p, 0, none⟩)), (61, .bool false), (62, .bool false)] [] fun uf1 => ?_
      refine x_then <| x_f (by kernel_rfl) <| x_skipc <| x_then <| x_seq <| x_region <| x_b H [.n 6 0 4 77, .n 7 0 7 25] ?_
      refine z_callB H (Count_any hL j _) fun v13 H => x_b H [.m] <| x_nil <| x_then <| x_seq <| x_seq <| x_region ?_
      refine x_b H [.n 6 0 4 77, .l 0 0] <| z_callB (v := .bool false) H (by have h := right20 hL hV j ht _ (H.ro1 [1, 2, 3, 4]); rw [h3] at h; exact h) fun v14 H => x_b H [.m, .m, .k, .k, .m, .m, .k, .k, .k, .m] <| x_nil <| x_then <| x_t (by kernel_rfl) <| x_seq ?_
      refine x_region <| x_b H [.m, .m, .m, .m, .m, .m, .m, .m, .m, .m, .m, .m, .m, .m] <| z_store H 5 0 [.bool true] (fun v15 H => ?_)
      refine x_nil <| x_then <| x_retc <| x_then_ret <| x_ret0 (.bool true) (by kernel_rfl) (x_rescell1 H 5 g3 0 #[.bool true] 4 (.bool true) (fun x => x) (by kernel_rfl) (by kernel_rfl) (by kernel_rfl)) ?_
      exact ⟨rfl, H.below⟩
    have h3p := of_decide_eq_true h3
    cases h4 : decide (0 ≤ i ∧ i < (Rp.cnt b o c j))
    · skip
      have h4p := of_decide_eq_false h4
      refine z_callB H (Source_out hL hV j ht i (fun h => by first | exact absurd h.1 h3p | exact absurd h.2 h4p) _ (H.ro1 [1, 2, 3, 4])) fun v16 H => x_b H [.m, .m, .m, .m, .m] <| x_nil <| x_then <| x_seq <| x_region <| x_b H [.n 6 0 4 77, .l 0 0, .m] ?_
      refine z_callB H (Goal_out hL hV j ht i (fun h => by first | exact absurd h.1 h3p | exact absurd h.2 h4p) _ (H.ro1 [1, 2, 3, 4])) fun v17 H => x_b H [.m, .m, .m, .m, .m] <| x_nil <| x_then <| x_seq <| x_seq <| z_region_whole H ?_
      refine q_b [.n 6 0 4 77, .l 0 0] <| q_callR (.bool true) (by kernel_rfl) (fun _ => by kernel_rfl) (fun _ H => (by have h := Right_any hL hV j ht _ (H.ro1 [1, 2, 3, 4]); rw [h3] at h; exact h)) <| q_b [.n 6 0 4 77, .l 0 0] <| q_callR (.bool true) (by kernel_rfl) (fun _ => by kernel_rfl) (fun _ H => (by have h := right20 hL hV j ht _ (H.ro1 [1, 2, 3, 4]); rw [h3] at h; exact h)) <| q_b [.m] <| q_nil ?_
      clear H
      intro v18 H
      refine z_fr 187 [(0, .agg #[.int .i64 r, .int .i64 s, .int .i64 b, .int .i64 o, .int .i64 c, .int .i64 y, .int .i64 z]), (1, .slice ad nA cA), (2, .agg #[.int .i64 j.1, .int .i64 j.2.1, .int .i64 j.2.2.1, .int .i64 j.2.2.2]), (3, .int .i64 i), (4, .pointer (some ⟨g1, 0, none⟩)), (6, .pointer (some ⟨g2, 0, none⟩)), (8, .pointer (some ⟨g3, 0, none⟩)), (9, .pointer (some ⟨g4, 0, none⟩)), (10, .int .i64 0), (11, .int .i64 12), (12, .int .i64 0), (13, .int .i64 12), (24, .bool true), (25, .bool false), (26, .agg #[.int .i64 r, .int .i64 s, .int .i64 b, .int .i64 o, .int .i64 c, .int .i64 y, .int .i64 z]), (27, .bool true), (28, .bool false), (29, .bool false), (30, .slice ad nA cA), (31, .int .i64 (nA : Int)), (32, .bool false), (33, .bool false), (34, .agg #[.int .i64 r, .int .i64 s, .int .i64 b, .int .i64 o, .int .i64 c, .int .i64 y, .int .i64 z]), (35, .slice ad nA cA), (36, .pointer (some ⟨p, 0, none⟩)), (37, .pointer (some ⟨p, 0, none⟩)), (38, .bool false), (42, .tuple #[.int .i64 0, .int .i64 12]), (43, .agg #[.int .i64 j.1, .int .i64 j.2.1, .int .i64 j.2.2.1, .int .i64 j.2.2.2]), (44, .pointer (some ⟨p, 0, none⟩)), (45, .int .i64 i), (46, .tuple #[.int .i64 0, .int .i64 12]), (47, .int .i64 0), (48, .int .i64 12), (49, .tuple #[.int .i64 0, .int .i64 12]), (50, .agg #[.int .i64 j.1, .int .i64 j.2.1, .int .i64 j.2.2.1, .int .i64 j.2.2.2]), (51, .pointer (some ⟨p, 0, none⟩)), (52, .int .i64 i), (53, .tuple #[.int .i64 0, .int .i64 12]), (54, .int .i64 0), (55, .int .i64 12), (56, .agg #[.int .i64 j.1, .int .i64 j.2.1, .int .i64 j.2.2.1, .int .i64 j.2.2.2]), (57, .pointer (some ⟨p, 0, none⟩)), (58, .bool true), (59, .agg #[.int .i64 j.1, .int .i64 j.2.1, .int .i64 j.2.2.1, .int .i64 j.2.2.2]), (60, .pointer (some ⟨p, 0, none⟩)), (61, .bool true), (62, .bool false)] [] fun uf2 => ?_
      refine x_then <| x_f (by kernel_rfl) <| x_skipc <| x_then <| x_seq <| x_region <| x_b H [.n 6 0 4 77, .n 7 0 7 25] ?_
      refine z_callB H (Count_any hL j _) fun v19 H => x_b H [.m] <| x_nil <| x_then <| x_seq <| x_seq <| x_region ?_
      refine x_b H [.n 6 0 4 77, .l 0 0] <| z_callB (v := .bool true) H (by have h := right20 hL hV j ht _ (H.ro1 [1, 2, 3, 4]); rw [h3] at h; exact h) fun v20 H => x_b H [.m, .m, .m, .v (.bool (decide (i < 0))), .v (.bool (decide (i < 0))), .v (.bool (decide (i < 0)))] ?_
      cases h5 : decide (i < 0)
      · skip
        have h5p := of_decide_eq_false h5
        refine x_b H [.m, .m, .v (.bool (decide ((Rp.cnt b o c j) ≤ i))), .v (.bool (decide ((Rp.cnt b o c j) ≤ i)))] <| x_nil <| x_then ?_
        cases h6 : decide ((Rp.cnt b o c j) ≤ i)
        · skip
          have h6p := of_decide_eq_false h6
          exfalso; have := h4p; omega
        have h6p := of_decide_eq_true h6
        refine x_t (by kernel_rfl) <| x_seq <| x_region <| x_b H [.m, .m, .m, .m, .m, .m, .m, .m, .m, .m, .m, .m, .m, .m] <| z_store H 5 0 [.bool true] (fun v21 H => ?_)
        refine x_nil <| x_then <| x_retc <| x_then_ret <| x_ret0 (.bool true) (by kernel_rfl) (x_rescell1 H 5 g3 0 #[.bool true] 4 (.bool true) (fun x => x) (by kernel_rfl) (by kernel_rfl) (by kernel_rfl)) ?_
        exact ⟨rfl, H.below⟩
      have h5p := of_decide_eq_true h5
      refine x_b H [.k, .k, .k, .m] <| x_nil <| x_then <| x_t (by kernel_rfl) <| x_seq <| x_region <| x_b H [.m, .m, .m, .m, .m, .m, .m, .m, .m, .m, .m, .m, .m, .m] ?_
      refine z_store H 5 0 [.bool true] (fun v22 H => ?_)
      refine x_nil <| x_then <| x_retc <| x_then_ret <| x_ret0 (.bool true) (by kernel_rfl) (x_rescell1 H 5 g3 0 #[.bool true] 4 (.bool true) (fun x => x) (by kernel_rfl) (by kernel_rfl) (by kernel_rfl)) ?_
      exact ⟨rfl, H.below⟩
    have h4p := of_decide_eq_true h4
    have hkk := jr_kind (of_decide_eq_true ‹decide (jrP r s b o c pg ns D S j) = true›) h4p.1 h4p.2
    have hnx : 0 ≤ j.2.2.2 ∧ j.2.2.2 ≤ (Rp.cnt b o c j) := by have hj := of_decide_eq_true ‹decide (jrP r s b o c pg ns D S j) = true›; obtain ⟨z1, z2⟩ := h4p; unfold jrP at hj; unfold Rp.cnt at z2 ⊢; rcases hkk with e | e; (rw [if_pos e] at z2 ⊢; omega); (rw [if_neg (by omega), if_pos e] at z2 ⊢; omega)
    refine z_callB H (Source_in hL hV j h3p ht hkk i h4p _ (H.ro1 [1, 2, 3, 4])) fun v23 H => x_b H [.m, .m, .m, .m, .m] <| x_nil <| x_then <| x_seq <| x_region <| x_b H [.n 6 0 4 77, .l 0 0, .m] ?_
    refine z_callB H (Goal_in hL hV j h3p ht hkk i h4p _ (H.ro1 [1, 2, 3, 4])) fun v24 H => x_b H [.m, .m, .m, .m, .m] <| x_nil <| x_then <| x_seq <| x_seq <| z_region_whole H ?_
    refine q_b [.n 6 0 4 77, .l 0 0] <| q_callR (.bool true) (by kernel_rfl) (fun _ => by kernel_rfl) (fun _ H => (by have h := Right_any hL hV j ht _ (H.ro1 [1, 2, 3, 4]); rw [h3] at h; exact h)) <| q_b [.n 6 0 4 77, .l 0 0] <| q_callR (.bool true) (by kernel_rfl) (fun _ => by kernel_rfl) (fun _ H => (by have h := right20 hL hV j ht _ (H.ro1 [1, 2, 3, 4]); rw [h3] at h; exact h)) <| q_b [.m] <| q_nil ?_
    clear H
    intro v25 H
    refine z_fr 187 [(0, .agg #[.int .i64 r, .int .i64 s, .int .i64 b, .int .i64 o, .int .i64 c, .int .i64 y, .int .i64 z]), (1, .slice ad nA cA), (2, .agg #[.int .i64 j.1, .int .i64 j.2.1, .int .i64 j.2.2.1, .int .i64 j.2.2.2]), (3, .int .i64 i), (4, .pointer (some ⟨g1, 0, none⟩)), (6, .pointer (some ⟨g2, 0, none⟩)), (8, .pointer (some ⟨g3, 0, none⟩)), (9, .pointer (some ⟨g4, 0, none⟩)), (10, .int .i64 (atI y r b o c S j.1 j.2.1 i)), (11, .int .i64 0), (12, .int .i64 (atI y r b o c S j.1 j.2.2.1 i)), (13, .int .i64 0), (24, .bool true), (25, .bool false), (26, .agg #[.int .i64 r, .int .i64 s, .int .i64 b, .int .i64 o, .int .i64 c, .int .i64 y, .int .i64 z]), (27, .bool true), (28, .bool false), (29, .bool false), (30, .slice ad nA cA), (31, .int .i64 (nA : Int)), (32, .bool false), (33, .bool false), (34, .agg #[.int .i64 r, .int .i64 s, .int .i64 b, .int .i64 o, .int .i64 c, .int .i64 y, .int .i64 z]), (35, .slice ad nA cA), (36, .pointer (some ⟨p, 0, none⟩)), (37, .pointer (some ⟨p, 0, none⟩)), (38, .bool false), (42, .tuple #[.int .i64 (atI y r b o c S j.1 j.2.1 i), .int .i64 0]), (43, .agg #[.int .i64 j.1, .int .i64 j.2.1, .int .i64 j.2.2.1, .int .i64 j.2.2.2]), (44, .pointer (some ⟨p, 0, none⟩)), (45, .int .i64 i), (46, .tuple #[.int .i64 (atI y r b o c S j.1 j.2.1 i), .int .i64 0]), (47, .int .i64 (atI y r b o c S j.1 j.2.1 i)), (48, .int .i64 0), (49, .tuple #[.int .i64 (atI y r b o c S j.1 j.2.2.1 i), .int .i64 0]), (50, .agg #[.int .i64 j.1, .int .i64 j.2.1, .int .i64 j.2.2.1, .int .i64 j.2.2.2]), (51, .pointer (some ⟨p, 0, none⟩)), (52, .int .i64 i), (53, .tuple #[.int .i64 (atI y r b o c S j.1 j.2.2.1 i), .int .i64 0]), (54, .int .i64 (atI y r b o c S j.1 j.2.2.1 i)), (55, .int .i64 0), (56, .agg #[.int .i64 j.1, .int .i64 j.2.1, .int .i64 j.2.2.1, .int .i64 j.2.2.2]), (57, .pointer (some ⟨p, 0, none⟩)), (58, .bool true), (59, .agg #[.int .i64 j.1, .int .i64 j.2.1, .int .i64 j.2.2.1, .int .i64 j.2.2.2]), (60, .pointer (some ⟨p, 0, none⟩)), (61, .bool true), (62, .bool false)] [] fun uf3 => ?_
    refine x_then <| x_f (by kernel_rfl) <| x_skipc <| x_then <| x_seq <| x_region <| x_b H [.n 6 0 4 77, .n 7 0 7 25] ?_
    refine z_callB H (Count_any hL j _) fun v26 H => x_b H [.m] <| x_nil <| x_then <| x_seq <| x_seq <| x_region ?_
    refine x_b H [.n 6 0 4 77, .l 0 0] <| z_callB (v := .bool true) H (by have h := right20 hL hV j ht _ (H.ro1 [1, 2, 3, 4]); rw [h3] at h; exact h) fun v27 H => x_b H [.m, .m, .m, .v (.bool (decide (i < 0))), .v (.bool (decide (i < 0))), .v (.bool (decide (i < 0)))] ?_
    cases h7 : decide (i < 0)
    · skip
      have h7p := of_decide_eq_false h7
      refine x_b H [.m, .m, .v (.bool (decide ((Rp.cnt b o c j) ≤ i))), .v (.bool (decide ((Rp.cnt b o c j) ≤ i)))] <| x_nil <| x_then ?_
      cases h8 : decide ((Rp.cnt b o c j) ≤ i)
      · skip
        have h8p := of_decide_eq_false h8
        refine x_f (by kernel_rfl) <| x_skipc <| x_then <| x_seq <| z_region_whole H <| q_b [.m, .n 7 0 5 23, .m, .l 6 0, .l 0 0, .m, .l 6 1, .m, .l 6 0] <| q_callR (.int .i64 (pgI y r b o S j.1 j.2.1)) (by kernel_rfl) (fun _ => by kernel_rfl) (fun _ H => (pages20_any hL hV h3p hkk (.inl rfl) _ (H.ro1 [1, 2, 3, 4]))) ?_
        refine q_b [.m] <| q_callR (.int .i64 (atI y r b o c S j.1 j.2.1 i)) (by kernel_rfl) (fun _ => by kernel_rfl) (fun _ H => (ix20_any (p := p) (gl := gl) (cl := cl) (gd := gd) (cd := cd) (gs := gs) (cs := cs) hL hV h3p hkk (.inl rfl) i h4p _)) <| q_b [.m, .n 7 0 5 23, .m, .l 6 0, .l 0 0, .m, .l 6 2, .m, .l 6 0] <| q_callR (.int .i64 (pgI y r b o S j.1 j.2.2.1)) (by kernel_rfl) (fun _ => by kernel_rfl) (fun _ H => (pages20_any hL hV h3p hkk (.inr rfl) _ (H.ro1 [1, 2, 3, 4]))) <| q_b [.m] <| q_callR (.int .i64 (atI y r b o c S j.1 j.2.2.1 i)) (by kernel_rfl) (fun _ => by kernel_rfl) (fun _ H => (ix20_any (p := p) (gl := gl) (cl := cl) (gd := gd) (cd := cd) (gs := gs) (cs := cs) hL hV h3p hkk (.inr rfl) i h4p _)) <| q_b [.m, .m] ?_
        refine q_nil ?_
        clear H
        intro v28 H
        refine z_fr 187 [(0, .agg #[.int .i64 r, .int .i64 s, .int .i64 b, .int .i64 o, .int .i64 c, .int .i64 y, .int .i64 z]), (1, .slice ad nA cA), (2, .agg #[.int .i64 j.1, .int .i64 j.2.1, .int .i64 j.2.2.1, .int .i64 j.2.2.2]), (3, .int .i64 i), (4, .pointer (some ⟨g1, 0, none⟩)), (5, (uf3 5)), (6, .pointer (some ⟨g2, 0, none⟩)), (7, (uf3 7)), (8, .pointer (some ⟨g3, 0, none⟩)), (9, .pointer (some ⟨g4, 0, none⟩)), (10, .int .i64 (atI y r b o c S j.1 j.2.1 i)), (11, .int .i64 0), (12, .int .i64 (atI y r b o c S j.1 j.2.2.1 i)), (13, .int .i64 0), (14, .int .i64 (Rp.cnt b o c j)), (15, .int .i64 (atI y r b o c S j.1 j.2.1 i)), (16, .int .i64 (atI y r b o c S j.1 j.2.2.1 i)), (17, (uf3 17)), (18, (uf3 18)), (19, (uf3 19)), (20, (uf3 20)), (21, (uf3 21)), (22, (uf3 22)), (23, (uf3 23)), (24, .bool true), (25, .bool false), (26, .agg #[.int .i64 r, .int .i64 s, .int .i64 b, .int .i64 o, .int .i64 c, .int .i64 y, .int .i64 z]), (27, .bool true), (28, .bool false), (29, .bool false), (30, .slice ad nA cA), (31, .int .i64 (nA : Int)), (32, .bool false), (33, .bool false), (34, .agg #[.int .i64 r, .int .i64 s, .int .i64 b, .int .i64 o, .int .i64 c, .int .i64 y, .int .i64 z]), (35, .slice ad nA cA), (36, .pointer (some ⟨p, 0, none⟩)), (37, .pointer (some ⟨p, 0, none⟩)), (38, .bool false), (39, (uf3 39)), (40, (uf3 40)), (41, (uf3 41)), (42, .tuple #[.int .i64 (atI y r b o c S j.1 j.2.1 i), .int .i64 0]), (43, .agg #[.int .i64 j.1, .int .i64 j.2.1, .int .i64 j.2.2.1, .int .i64 j.2.2.2]), (44, .pointer (some ⟨p, 0, none⟩)), (45, .int .i64 i), (46, .tuple #[.int .i64 (atI y r b o c S j.1 j.2.1 i), .int .i64 0]), (47, .int .i64 (atI y r b o c S j.1 j.2.1 i)), (48, .int .i64 0), (49, .tuple #[.int .i64 (atI y r b o c S j.1 j.2.2.1 i), .int .i64 0]), (50, .agg #[.int .i64 j.1, .int .i64 j.2.1, .int .i64 j.2.2.1, .int .i64 j.2.2.2]), (51, .pointer (some ⟨p, 0, none⟩)), (52, .int .i64 i), (53, .tuple #[.int .i64 (atI y r b o c S j.1 j.2.2.1 i), .int .i64 0]), (54, .int .i64 (atI y r b o c S j.1 j.2.2.1 i)), (55, .int .i64 0), (56, .agg #[.int .i64 j.1, .int .i64 j.2.1, .int .i64 j.2.2.1, .int .i64 j.2.2.2]), (57, .pointer (some ⟨p, 0, none⟩)), (58, .bool true), (59, .agg #[.int .i64 j.1, .int .i64 j.2.1, .int .i64 j.2.2.1, .int .i64 j.2.2.2]), (60, .pointer (some ⟨p, 0, none⟩)), (61, .bool true), (62, .bool false), (63, .agg #[.int .i64 j.1, .int .i64 j.2.1, .int .i64 j.2.2.1, .int .i64 j.2.2.2]), (64, .agg #[.int .i64 r, .int .i64 s, .int .i64 b, .int .i64 o, .int .i64 c, .int .i64 y, .int .i64 z]), (65, .int .i64 (Rp.cnt b o c j)), (66, .agg #[.int .i64 j.1, .int .i64 j.2.1, .int .i64 j.2.2.1, .int .i64 j.2.2.2]), (67, .pointer (some ⟨p, 0, none⟩)), (68, .bool true), (69, .bool false), (70, .bool false), (71, .int .i64 i), (72, .bool false), (73, .bool false), (74, .bool false), (75, .int .i64 i), (76, .int .i64 (Rp.cnt b o c j)), (77, .bool false), (78, .bool false), (79, (uf3 79)), (80, (uf3 80)), (81, (uf3 81)), (82, (uf3 82)), (83, (uf3 83)), (84, (uf3 84)), (85, (uf3 85)), (86, (uf3 86)), (87, (uf3 87)), (88, (uf3 88)), (89, (uf3 89)), (90, (uf3 90)), (91, (uf3 91)), (92, (uf3 92)), (93, .pointer (some ⟨g1, 0, none⟩)), (94, .agg #[.int .i64 r, .int .i64 s, .int .i64 b, .int .i64 o, .int .i64 c]), (95, .pointer (some ⟨g2, 0, none⟩)), (96, .int .i64 j.1), (97, .pointer (some ⟨p, 0, none⟩)), (98, .pointer (some ⟨g2, 1, none⟩)), (99, .int .i64 j.2.1), (100, .pointer (some ⟨g2, 0, none⟩)), (101, .int .i64 j.1), (102, .int .i64 (pgI y r b o S j.1 j.2.1)), (103, .int .i64 i), (104, .int .i64 (atI y r b o c S j.1 j.2.1 i)), (105, .pointer (some ⟨g1, 0, none⟩)), (106, .agg #[.int .i64 r, .int .i64 s, .int .i64 b, .int .i64 o, .int .i64 c]), (107, .pointer (some ⟨g2, 0, none⟩)), (108, .int .i64 j.1), (109, .pointer (some ⟨p, 0, none⟩)), (110, .pointer (some ⟨g2, 2, none⟩)), (111, .int .i64 j.2.2.1), (112, .pointer (some ⟨g2, 0, none⟩)), (113, .int .i64 j.1), (114, .int .i64 (pgI y r b o S j.1 j.2.2.1)), (115, .int .i64 i), (116, .int .i64 (atI y r b o c S j.1 j.2.2.1 i)), (117, (uf3 117)), (118, (uf3 118)), (119, (uf3 119)), (120, (uf3 120)), (121, (uf3 121)), (122, (uf3 122)), (123, (uf3 123)), (124, (uf3 124)), (125, (uf3 125)), (126, (uf3 126)), (127, (uf3 127)), (128, (uf3 128)), (129, (uf3 129)), (130, (uf3 130)), (131, (uf3 131)), (132, (uf3 132)), (133, (uf3 133)), (134, (uf3 134)), (135, (uf3 135)), (136, (uf3 136)), (137, (uf3 137)), (138, (uf3 138)), (139, (uf3 139)), (140, (uf3 140)), (141, (uf3 141)), (142, (uf3 142)), (143, (uf3 143)), (144, (uf3 144)), (145, (uf3 145)), (146, (uf3 146)), (147, (uf3 147)), (148, (uf3 148)), (149, (uf3 149)), (150, (uf3 150)), (151, (uf3 151)), (152, (uf3 152)), (153, (uf3 153)), (154, (uf3 154)), (155, (uf3 155)), (156, (uf3 156)), (157, (uf3 157)), (158, (uf3 158)), (159, (uf3 159)), (160, (uf3 160)), (161, (uf3 161)), (162, (uf3 162)), (163, (uf3 163)), (164, (uf3 164)), (165, (uf3 165)), (166, (uf3 166)), (167, (uf3 167)), (168, (uf3 168)), (169, (uf3 169)), (170, (uf3 170)), (171, (uf3 171)), (172, (uf3 172)), (173, (uf3 173)), (174, (uf3 174)), (175, (uf3 175)), (176, (uf3 176)), (177, (uf3 177)), (178, (uf3 178)), (179, (uf3 179)), (180, (uf3 180)), (181, (uf3 181)), (182, (uf3 182)), (183, (uf3 183)), (184, (uf3 184)), (185, (uf3 185)), (186, (uf3 186))] [] fun uf4 => ?_
        refine x_then <| x_seq <| x_region <| x_b H [.m, .l 6 3] <| z_box H #[.int .i64 0] 3 (fun v29 g5 H => ?_)
        refine z_store H 0 0 [.int .i64 j.2.2.2] (fun v30 H => ?_)
        refine x_nil <| x_then <| x_seq <| x_seq <| x_region <| x_b H [.n 7 0 4 77, .l 1 0] <| z_call (LinesOf p j _) ?_
        rintro _ v31 ⟨jb, mb, rfl, hN'⟩
        refine ⟨_, rfl, ?_⟩
        replace H := hsCast (H.more hN') (L2 := [.blk jb #[.int .i64 j.1, .int .i64 j.2.1, .int .i64 j.2.2.1, .int .i64 j.2.2.2] 77, .blk mb #[.pointer (some ⟨p, 0, none⟩)] 27, .blk g5 #[.int .i64 j.2.2.2] 3, .blk g4 #[.pointer (some ⟨p, 0, none⟩)] 27, .blk p #[.int .i64 r, .int .i64 s, .int .i64 b, .int .i64 o, .int .i64 c, .int .i64 y, .int .i64 z, .slice (some ⟨gl, 0, none⟩) sn cl, .slice (some ⟨gd, 0, none⟩) pg cd, .slice (some ⟨gs, 0, none⟩) ns cs, .int .i64 (pu : Int), .int .i64 (ru : Int)] 118, .row (.slice (some ⟨gl, 0, none⟩) sn cl) 3 1 sn (List.map (Value.int .i64) L), .row (.slice (some ⟨gd, 0, none⟩) pg cd) 4 1 pg (List.map Value.bool D), .row (.slice (some ⟨gs, 0, none⟩) ns cs) 3 1 ns (List.map (Value.int .i64) S), .blk g3 #[.bool false] 4, .blk g2 #[.int .i64 j.1, .int .i64 j.2.1, .int .i64 j.2.2.1, .int .i64 j.2.2.2] 77, .blk g1 #[.int .i64 r, .int .i64 s, .int .i64 b, .int .i64 o, .int .i64 c, .int .i64 y, .int .i64 z] 25]) (by kernel_rfl)
        clear hN'
        refine x_nil <| x_then <| x_block ?_
        replace H := H.pk [0, 1, 4, 5, 6, 7, 2, 3, 8, 9, 10]
        refine x_rangeB (α := Ent) (G := Int) (linL y r b o c S j ((Rp.cnt b o c j) - j.2.2.2).toNat) (fun xe => #[.int .i64 xe.1, .int .i64 xe.2]) [.blk jb #[.int .i64 j.1, .int .i64 j.2.1, .int .i64 j.2.2.1, .int .i64 j.2.2.2] 77, .blk mb #[.pointer (some ⟨p, 0, none⟩)] 27, .blk p #[.int .i64 r, .int .i64 s, .int .i64 b, .int .i64 o, .int .i64 c, .int .i64 y, .int .i64 z, .slice (some ⟨gl, 0, none⟩) sn cl, .slice (some ⟨gd, 0, none⟩) pg cd, .slice (some ⟨gs, 0, none⟩) ns cs, .int .i64 (pu : Int), .int .i64 (ru : Int)] 118, .row (.slice (some ⟨gl, 0, none⟩) sn cl) 3 1 sn (List.map (Value.int .i64) L), .row (.slice (some ⟨gd, 0, none⟩) pg cd) 4 1 pg (List.map Value.bool D), .row (.slice (some ⟨gs, 0, none⟩) ns cs) 3 1 ns (List.map (Value.int .i64) S)] [0, 1, 2, 3, 4, 5] (fps [.blk jb #[.int .i64 j.1, .int .i64 j.2.1, .int .i64 j.2.2.1, .int .i64 j.2.2.2] 77, .blk mb #[.pointer (some ⟨p, 0, none⟩)] 27, .blk p #[.int .i64 r, .int .i64 s, .int .i64 b, .int .i64 o, .int .i64 c, .int .i64 y, .int .i64 z, .slice (some ⟨gl, 0, none⟩) sn cl, .slice (some ⟨gd, 0, none⟩) pg cd, .slice (some ⟨gs, 0, none⟩) ns cs, .int .i64 (pu : Int), .int .i64 (ru : Int)] 118, .row (.slice (some ⟨gl, 0, none⟩) sn cl) 3 1 sn (List.map (Value.int .i64) L), .row (.slice (some ⟨gd, 0, none⟩) pg cd) 4 1 pg (List.map Value.bool D), .row (.slice (some ⟨gs, 0, none⟩) ns cs) 3 1 ns (List.map (Value.int .i64) S), .blk g5 #[.int .i64 j.2.2.2] 3, .blk g4 #[.pointer (some ⟨p, 0, none⟩)] 27, .blk g3 #[.bool false] 4, .blk g2 #[.int .i64 j.1, .int .i64 j.2.1, .int .i64 j.2.2.1, .int .i64 j.2.2.2] 77, .blk g1 #[.int .i64 r, .int .i64 s, .int .i64 b, .int .i64 o, .int .i64 c, .int .i64 y, .int .i64 z] 25]) (fun pre (kk : Int) => kk = j.2.2.2 + ((List.length pre : Nat) : Int)) (fun pre (kk : Int) => [.blk jb #[.int .i64 j.1, .int .i64 j.2.1, .int .i64 j.2.2.1, .int .i64 j.2.2.2] 77, .blk mb #[.pointer (some ⟨p, 0, none⟩)] 27, .blk p #[.int .i64 r, .int .i64 s, .int .i64 b, .int .i64 o, .int .i64 c, .int .i64 y, .int .i64 z, .slice (some ⟨gl, 0, none⟩) sn cl, .slice (some ⟨gd, 0, none⟩) pg cd, .slice (some ⟨gs, 0, none⟩) ns cs, .int .i64 (pu : Int), .int .i64 (ru : Int)] 118, .row (.slice (some ⟨gl, 0, none⟩) sn cl) 3 1 sn (List.map (Value.int .i64) L), .row (.slice (some ⟨gd, 0, none⟩) pg cd) 4 1 pg (List.map Value.bool D), .row (.slice (some ⟨gs, 0, none⟩) ns cs) 3 1 ns (List.map (Value.int .i64) S), .blk g5 #[.int .i64 kk] 3, .blk g4 #[.pointer (some ⟨p, 0, none⟩)] 27, .blk g3 #[.bool false] 4, .blk g2 #[.int .i64 j.1, .int .i64 j.2.1, .int .i64 j.2.2.1, .int .i64 j.2.2.2] 77, .blk g1 #[.int .i64 r, .int .i64 s, .int .i64 b, .int .i64 o, .int .i64 c, .int .i64 y, .int .i64 z] 25]) (fun cd pre (kk : Int) => (cd = .ret ∧ (¬ (pre <+: (linL y r b o c S j ((Rp.cnt b o c j) - j.2.2.2).toNat))))) (fun xe be => []) (fun xe be => { tmps := #[.agg #[.int .i64 r, .int .i64 s, .int .i64 b, .int .i64 o, .int .i64 c, .int .i64 y, .int .i64 z], .slice ad nA cA, .agg #[.int .i64 j.1, .int .i64 j.2.1, .int .i64 j.2.2.1, .int .i64 j.2.2.2], .int .i64 i, .pointer (some ⟨g1, 0, none⟩), (uf3 5), .pointer (some ⟨g2, 0, none⟩), (uf3 7), .pointer (some ⟨g3, 0, none⟩), .pointer (some ⟨g4, 0, none⟩), .int .i64 (atI y r b o c S j.1 j.2.1 i), .int .i64 0, .int .i64 (atI y r b o c S j.1 j.2.2.1 i), .int .i64 0, .int .i64 (Rp.cnt b o c j), .int .i64 (atI y r b o c S j.1 j.2.1 i), .int .i64 (atI y r b o c S j.1 j.2.2.1 i), .pointer (some ⟨g5, 0, none⟩), .int .i64 xe.1, .int .i64 xe.2, (uf3 20), (uf3 21), (uf3 22), (uf3 23), .bool true, .bool false, .agg #[.int .i64 r, .int .i64 s, .int .i64 b, .int .i64 o, .int .i64 c, .int .i64 y, .int .i64 z], .bool true, .bool false, .bool false, .slice ad nA cA, .int .i64 (nA : Int), .bool false, .bool false, .agg #[.int .i64 r, .int .i64 s, .int .i64 b, .int .i64 o, .int .i64 c, .int .i64 y, .int .i64 z], .slice ad nA cA, .pointer (some ⟨p, 0, none⟩), .pointer (some ⟨p, 0, none⟩), .bool false, (uf3 39), (uf3 40), (uf3 41), .tuple #[.int .i64 (atI y r b o c S j.1 j.2.1 i), .int .i64 0], .agg #[.int .i64 j.1, .int .i64 j.2.1, .int .i64 j.2.2.1, .int .i64 j.2.2.2], .pointer (some ⟨p, 0, none⟩), .int .i64 i, .tuple #[.int .i64 (atI y r b o c S j.1 j.2.1 i), .int .i64 0], .int .i64 (atI y r b o c S j.1 j.2.1 i), .int .i64 0, .tuple #[.int .i64 (atI y r b o c S j.1 j.2.2.1 i), .int .i64 0], .agg #[.int .i64 j.1, .int .i64 j.2.1, .int .i64 j.2.2.1, .int .i64 j.2.2.2], .pointer (some ⟨p, 0, none⟩), .int .i64 i, .tuple #[.int .i64 (atI y r b o c S j.1 j.2.2.1 i), .int .i64 0], .int .i64 (atI y r b o c S j.1 j.2.2.1 i), .int .i64 0, .agg #[.int .i64 j.1, .int .i64 j.2.1, .int .i64 j.2.2.1, .int .i64 j.2.2.2], .pointer (some ⟨p, 0, none⟩), .bool true, .agg #[.int .i64 j.1, .int .i64 j.2.1, .int .i64 j.2.2.1, .int .i64 j.2.2.2], .pointer (some ⟨p, 0, none⟩), .bool true, .bool false, .agg #[.int .i64 j.1, .int .i64 j.2.1, .int .i64 j.2.2.1, .int .i64 j.2.2.2], .agg #[.int .i64 r, .int .i64 s, .int .i64 b, .int .i64 o, .int .i64 c, .int .i64 y, .int .i64 z], .int .i64 (Rp.cnt b o c j), .agg #[.int .i64 j.1, .int .i64 j.2.1, .int .i64 j.2.2.1, .int .i64 j.2.2.2], .pointer (some ⟨p, 0, none⟩), .bool true, .bool false, .bool false, .int .i64 i, .bool false, .bool false, .bool false, .int .i64 i, .int .i64 (Rp.cnt b o c j), .bool false, .bool false, (uf3 79), (uf3 80), (uf3 81), (uf3 82), (uf3 83), (uf3 84), (uf3 85), (uf3 86), (uf3 87), (uf3 88), (uf3 89), (uf3 90), (uf3 91), (uf3 92), .pointer (some ⟨g1, 0, none⟩), .agg #[.int .i64 r, .int .i64 s, .int .i64 b, .int .i64 o, .int .i64 c], .pointer (some ⟨g2, 0, none⟩), .int .i64 j.1, .pointer (some ⟨p, 0, none⟩), .pointer (some ⟨g2, 1, none⟩), .int .i64 j.2.1, .pointer (some ⟨g2, 0, none⟩), .int .i64 j.1, .int .i64 (pgI y r b o S j.1 j.2.1), .int .i64 i, .int .i64 (atI y r b o c S j.1 j.2.1 i), .pointer (some ⟨g1, 0, none⟩), .agg #[.int .i64 r, .int .i64 s, .int .i64 b, .int .i64 o, .int .i64 c], .pointer (some ⟨g2, 0, none⟩), .int .i64 j.1, .pointer (some ⟨p, 0, none⟩), .pointer (some ⟨g2, 2, none⟩), .int .i64 j.2.2.1, .pointer (some ⟨g2, 0, none⟩), .int .i64 j.1, .int .i64 (pgI y r b o S j.1 j.2.2.1), .int .i64 i, .int .i64 (atI y r b o c S j.1 j.2.2.1 i), .pointer (some ⟨g2, 3, none⟩), .int .i64 j.2.2.2, .agg #[.int .i64 j.1, .int .i64 j.2.1, .int .i64 j.2.2.1, .int .i64 j.2.2.2], .pointer (some ⟨p, 0, none⟩), .func (.func 102) #[] #[.pointer (some ⟨jb, 0, none⟩), .pointer (some ⟨mb, 0, none⟩)], .int .i64 xe.1, .int .i64 xe.2, (uf3 124), (uf3 125), (uf3 126), (uf3 127), (uf3 128), (uf3 129), (uf3 130), (uf3 131), (uf3 132), (uf3 133), (uf3 134), (uf3 135), (uf3 136), (uf3 137), (uf3 138), (uf3 139), (uf3 140), (uf3 141), (uf3 142), (uf3 143), (uf3 144), (uf3 145), (uf3 146), (uf3 147), (uf3 148), (uf3 149), (uf3 150), (uf3 151), (uf3 152), (uf3 153), (uf3 154), (uf3 155), (uf3 156), (uf3 157), (uf3 158), (uf3 159), (uf3 160), (uf3 161), (uf3 162), (uf3 163), (uf3 164), (uf3 165), (uf3 166), (uf3 167), (uf3 168), (uf3 169), (uf3 170), (uf3 171), (uf3 172), (uf3 173), (uf3 174), (uf3 175), (uf3 176), (uf3 177), (uf3 178), (uf3 179), (uf3 180), (uf3 181), (uf3 182), (uf3 183), (uf3 184), (uf3 185), (uf3 186)], defers := [] }) j.2.2.2 (by kernel_rfl) (enters_of Try.func102 (by kernel_rfl) rfl) (lvals hL hV j ht h3p hkk _ (H.roOf [0, 1, 2, 3, 4, 5] _ (by kernel_rfl))) (fun _ => rfl) rfl (by rintro _ kk; rfl) (by rintro _ kk; rfl) (by rintro _ kk; rfl) (fun _ _ => rfl) (fun _ _ => rfl) H (by simp) ?_ ?_ ?_ ?_
        · skip
          clear H
          rintro lrnd pre xe kk W1 hI H
          refine x_at (b := { tmps := #[.agg #[.int .i64 r, .int .i64 s, .int .i64 b, .int .i64 o, .int .i64 c, .int .i64 y, .int .i64 z], .slice ad nA cA, .agg #[.int .i64 j.1, .int .i64 j.2.1, .int .i64 j.2.2.1, .int .i64 j.2.2.2], .int .i64 i, .pointer (some ⟨g1, 0, none⟩), (uf3 5), .pointer (some ⟨g2, 0, none⟩), (uf3 7), .pointer (some ⟨g3, 0, none⟩), .pointer (some ⟨g4, 0, none⟩), .int .i64 (atI y r b o c S j.1 j.2.1 i), .int .i64 0, .int .i64 (atI y r b o c S j.1 j.2.2.1 i), .int .i64 0, .int .i64 (Rp.cnt b o c j), .int .i64 (atI y r b o c S j.1 j.2.1 i), .int .i64 (atI y r b o c S j.1 j.2.2.1 i), .pointer (some ⟨g5, 0, none⟩), (uf3 18), (uf3 19), (uf3 20), (uf3 21), (uf3 22), (uf3 23), .bool true, .bool false, .agg #[.int .i64 r, .int .i64 s, .int .i64 b, .int .i64 o, .int .i64 c, .int .i64 y, .int .i64 z], .bool true, .bool false, .bool false, .slice ad nA cA, .int .i64 (nA : Int), .bool false, .bool false, .agg #[.int .i64 r, .int .i64 s, .int .i64 b, .int .i64 o, .int .i64 c, .int .i64 y, .int .i64 z], .slice ad nA cA, .pointer (some ⟨p, 0, none⟩), .pointer (some ⟨p, 0, none⟩), .bool false, (uf3 39), (uf3 40), (uf3 41), .tuple #[.int .i64 (atI y r b o c S j.1 j.2.1 i), .int .i64 0], .agg #[.int .i64 j.1, .int .i64 j.2.1, .int .i64 j.2.2.1, .int .i64 j.2.2.2], .pointer (some ⟨p, 0, none⟩), .int .i64 i, .tuple #[.int .i64 (atI y r b o c S j.1 j.2.1 i), .int .i64 0], .int .i64 (atI y r b o c S j.1 j.2.1 i), .int .i64 0, .tuple #[.int .i64 (atI y r b o c S j.1 j.2.2.1 i), .int .i64 0], .agg #[.int .i64 j.1, .int .i64 j.2.1, .int .i64 j.2.2.1, .int .i64 j.2.2.2], .pointer (some ⟨p, 0, none⟩), .int .i64 i, .tuple #[.int .i64 (atI y r b o c S j.1 j.2.2.1 i), .int .i64 0], .int .i64 (atI y r b o c S j.1 j.2.2.1 i), .int .i64 0, .agg #[.int .i64 j.1, .int .i64 j.2.1, .int .i64 j.2.2.1, .int .i64 j.2.2.2], .pointer (some ⟨p, 0, none⟩), .bool true, .agg #[.int .i64 j.1, .int .i64 j.2.1, .int .i64 j.2.2.1, .int .i64 j.2.2.2], .pointer (some ⟨p, 0, none⟩), .bool true, .bool false, .agg #[.int .i64 j.1, .int .i64 j.2.1, .int .i64 j.2.2.1, .int .i64 j.2.2.2], .agg #[.int .i64 r, .int .i64 s, .int .i64 b, .int .i64 o, .int .i64 c, .int .i64 y, .int .i64 z], .int .i64 (Rp.cnt b o c j), .agg #[.int .i64 j.1, .int .i64 j.2.1, .int .i64 j.2.2.1, .int .i64 j.2.2.2], .pointer (some ⟨p, 0, none⟩), .bool true, .bool false, .bool false, .int .i64 i, .bool false, .bool false, .bool false, .int .i64 i, .int .i64 (Rp.cnt b o c j), .bool false, .bool false, (uf3 79), (uf3 80), (uf3 81), (uf3 82), (uf3 83), (uf3 84), (uf3 85), (uf3 86), (uf3 87), (uf3 88), (uf3 89), (uf3 90), (uf3 91), (uf3 92), .pointer (some ⟨g1, 0, none⟩), .agg #[.int .i64 r, .int .i64 s, .int .i64 b, .int .i64 o, .int .i64 c], .pointer (some ⟨g2, 0, none⟩), .int .i64 j.1, .pointer (some ⟨p, 0, none⟩), .pointer (some ⟨g2, 1, none⟩), .int .i64 j.2.1, .pointer (some ⟨g2, 0, none⟩), .int .i64 j.1, .int .i64 (pgI y r b o S j.1 j.2.1), .int .i64 i, .int .i64 (atI y r b o c S j.1 j.2.1 i), .pointer (some ⟨g1, 0, none⟩), .agg #[.int .i64 r, .int .i64 s, .int .i64 b, .int .i64 o, .int .i64 c], .pointer (some ⟨g2, 0, none⟩), .int .i64 j.1, .pointer (some ⟨p, 0, none⟩), .pointer (some ⟨g2, 2, none⟩), .int .i64 j.2.2.1, .pointer (some ⟨g2, 0, none⟩), .int .i64 j.1, .int .i64 (pgI y r b o S j.1 j.2.2.1), .int .i64 i, .int .i64 (atI y r b o c S j.1 j.2.2.1 i), .pointer (some ⟨g2, 3, none⟩), .int .i64 j.2.2.2, .agg #[.int .i64 j.1, .int .i64 j.2.1, .int .i64 j.2.2.1, .int .i64 j.2.2.2], .pointer (some ⟨p, 0, none⟩), .func (.func 102) #[] #[.pointer (some ⟨jb, 0, none⟩), .pointer (some ⟨mb, 0, none⟩)], .int .i64 xe.1, .int .i64 xe.2, (uf3 124), (uf3 125), (uf3 126), (uf3 127), (uf3 128), (uf3 129), (uf3 130), (uf3 131), (uf3 132), (uf3 133), (uf3 134), (uf3 135), (uf3 136), (uf3 137), (uf3 138), (uf3 139), (uf3 140), (uf3 141), (uf3 142), (uf3 143), (uf3 144), (uf3 145), (uf3 146), (uf3 147), (uf3 148), (uf3 149), (uf3 150), (uf3 151), (uf3 152), (uf3 153), (uf3 154), (uf3 155), (uf3 156), (uf3 157), (uf3 158), (uf3 159), (uf3 160), (uf3 161), (uf3 162), (uf3 163), (uf3 164), (uf3 165), (uf3 166), (uf3 167), (uf3 168), (uf3 169), (uf3 170), (uf3 171), (uf3 172), (uf3 173), (uf3 174), (uf3 175), (uf3 176), (uf3 177), (uf3 178), (uf3 179), (uf3 180), (uf3 181), (uf3 182), (uf3 183), (uf3 184), (uf3 185), (uf3 186)], defers := [] }) (by kernel_rfl) ?_
          refine x_seq <| x_region <| x_b H [.m] <| x_nil <| x_then <| x_region <| x_b H [.m] ?_
          refine x_nil <| x_then ?_
          exact ⟨0, (by kernel_rfl), H⟩
        · skip
          clear H
          rintro lrnd pre xe kk be W1 hI hlen H
          have hI' : kk = j.2.2.2 + ((List.length pre : Nat) : Int) := hI
          have hlx := linL_len y r b o c S j ((Rp.cnt b o c j) - j.2.2.2).toNat
          refine x_block <| x_seq <| x_region <| x_b H [.n 9 0 4 77, .l 7 0, .l 6 0] <| z_callB (v := .tuple #[.int .i64 (atI y r b o c S j.1 j.2.1 kk), .int .i64 0]) H (Source_in hL hV j h3p ht hkk kk ⟨by omega, by omega⟩ _ (H.ro1 [2, 3, 4, 5])) fun v32 H => x_b H [.m, .m, .m, .m, .m] <| x_nil ?_
          refine x_then <| x_seq <| x_region <| x_b H [.n 9 0 4 77, .l 7 0, .l 6 0] <| z_callB (v := .tuple #[.int .i64 (atI y r b o c S j.1 j.2.2.1 kk), .int .i64 0]) H (Goal_in hL hV j h3p ht hkk kk ⟨by omega, by omega⟩ _ (H.ro1 [2, 3, 4, 5])) fun v33 H => x_b H [.m, .m, .m, .m, .m] <| x_nil ?_
          refine x_then <| x_seq <| x_seq <| x_region <| x_b H [.m, .m, .m, .m, .m, .m, .m, .m, .m, .v (.bool (!(decide (xe.1 = (atI y r b o c S j.1 j.2.1 kk))))), .v (.bool (!(decide (xe.1 = (atI y r b o c S j.1 j.2.1 kk))))), .v (.bool (!(decide (xe.1 = (atI y r b o c S j.1 j.2.1 kk)))))] ?_
          cases h9 : decide (xe.1 = (atI y r b o c S j.1 j.2.1 kk))
          · skip
            have h9p := of_decide_eq_false h9
            refine x_b H [.k, .k, .k, .m] <| x_nil <| x_then <| x_t (by kernel_rfl) <| x_seq <| x_region <| z_store H 8 0 [.bool false] (fun v34 H => ?_)
            refine x_nil <| x_then <| x_retc <| x_then_ret <| x_blk_ret ?_
            have hff : ¬ ((pre ++ [xe]) <+: (linL y r b o c S j ((Rp.cnt b o c j) - j.2.2.2).toNat)) := fun hp => by
              have q := prefix_getE hp
              rw [linL_len] at q
              have q3 := q.1
              rw [linL_get _ _ _ _ _ _ _ q.2] at q3
              have z := h9p
              rw [hI', ← q3] at z
              exact z rfl
            replace H := H.pk [0, 1, 2, 3, 4, 5, 6, 7, 8, 9, 10]
            exact ⟨kk, ⟨rfl, hff⟩, H⟩
          have h9p := of_decide_eq_true h9
          refine x_b H [.m, .m, .v (.bool (!(decide (xe.2 = (atI y r b o c S j.1 j.2.2.1 kk))))), .v (.bool (!(decide (xe.2 = (atI y r b o c S j.1 j.2.2.1 kk)))))] <| x_nil <| x_then ?_
          cases h10 : decide (xe.2 = (atI y r b o c S j.1 j.2.2.1 kk))
          · skip
            have h10p := of_decide_eq_false h10
            refine x_t (by kernel_rfl) <| x_seq <| x_region <| z_store H 8 0 [.bool false] (fun v35 H => ?_)
            refine x_nil <| x_then <| x_retc <| x_then_ret <| x_blk_ret ?_
            have hff : ¬ ((pre ++ [xe]) <+: (linL y r b o c S j ((Rp.cnt b o c j) - j.2.2.2).toNat)) := fun hp => by
              have q := prefix_getE hp
              rw [linL_len] at q
              have q3 := q.1
              rw [linL_get _ _ _ _ _ _ _ q.2] at q3
              have z := h10p
              rw [hI', ← q3] at z
              exact z rfl
            replace H := H.pk [0, 1, 2, 3, 4, 5, 6, 7, 8, 9, 10]
            exact ⟨kk, ⟨rfl, hff⟩, H⟩
          have h10p := of_decide_eq_true h10
          refine x_f (by kernel_rfl) <| x_skipc <| x_then <| x_region <| x_b H [.l 6 0] <| z_ar (kk + 1) <| z_store H 6 0 [.int .i64 (kk + 1)] (fun v36 H => ?_)
          refine x_nil <| x_blk ?_
          replace H := H.pk [0, 1, 2, 3, 4, 5, 6, 7, 8, 9, 10]
          exact ⟨(kk + 1), (by show _ = j.2.2.2 + ((pre ++ [xe]).length : Int); rw [List.length_append]; simp only [List.length_cons, List.length_nil]; omega), H⟩
        · skip
          clear H
          rintro Dq_ kk W1 hI H
          have hI2 : kk = j.2.2.2 + ((List.length (linL y r b o c S j ((Rp.cnt b o c j) - j.2.2.2).toNat) : Nat) : Int) := hI
          rw [linL_len] at hI2
          refine x_blk <| x_then <| x_seq <| z_region_head H 31 ?_
          simp only [List.take_succ_cons, List.take_zero, List.drop_succ_cons, List.drop_zero]
          refine q_b [.m, .m, .m, .m, .m, .m, .m, .m, .m] <| q_eq (.bool true) (show Value.bool (decide ((atI y r b o c S j.1 j.2.1 i) = (atI y r b o c S j.1 j.2.1 i))) = Value.bool true by simp) (by kernel_rfl) (fun _ => by kernel_rfl) <| q_b [.m, .m, .m, .m] <| q_eq (.bool true) (show Value.bool (decide ((atI y r b o c S j.1 j.2.2.1 i) = (atI y r b o c S j.1 j.2.2.1 i))) = Value.bool true by simp) (by kernel_rfl) (fun _ => by kernel_rfl) <| q_b [.m, .m, .l 7 0, .m, .v (.bool (decide (kk = (Rp.cnt b o c j)))), .v (.bool (decide (kk = (Rp.cnt b o c j)))), .v (.bool (decide (kk = (Rp.cnt b o c j))))] ?_
          cases h11 : decide (kk = (Rp.cnt b o c j))
          · skip
            have h11p := of_decide_eq_false h11
            exact absurd h11p (by omega)
          have h11p := of_decide_eq_true h11
          refine q_b [.n 10 0 4 77, .n 11 0 7 25] <| q_callB (.bool (decide (j.2.2.2 = (Rp.cnt b o c j)))) (by kernel_rfl) (fun _ => by kernel_rfl) (fun _ => (Done_b hL j (by omega) _)) <| q_b [.m, .l 10 3, .m, .v (.bool (decide (j.2.2.2 = (Rp.cnt b o c j))))] <| q_eq (.bool true) (show Value.bool ((decide (j.2.2.2 = (Rp.cnt b o c j))) == (decide (j.2.2.2 = (Rp.cnt b o c j)))) = Value.bool true by simp) (by kernel_rfl) (fun _ => by kernel_rfl) <| q_b [.m] <| q_nil ?_
          clear H
          intro v37 H
          refine z_store H 9 0 [.bool true] (fun v38 H => ?_)
          refine x_nil <| x_then <| x_retc <| x_retM1 [0, 1, 2, 3, 4, 5, 6, 7, 8, 9, 10, 11] [.blk jb #[.int .i64 j.1, .int .i64 j.2.1, .int .i64 j.2.2.1, .int .i64 j.2.2.2] 77, .blk mb #[.pointer (some ⟨p, 0, none⟩)] 27, .blk p #[.int .i64 r, .int .i64 s, .int .i64 b, .int .i64 o, .int .i64 c, .int .i64 y, .int .i64 z, .slice (some ⟨gl, 0, none⟩) sn cl, .slice (some ⟨gd, 0, none⟩) pg cd, .slice (some ⟨gs, 0, none⟩) ns cs, .int .i64 (pu : Int), .int .i64 (ru : Int)] 118, .row (.slice (some ⟨gl, 0, none⟩) sn cl) 3 1 sn (List.map (Value.int .i64) L), .row (.slice (some ⟨gd, 0, none⟩) pg cd) 4 1 pg (List.map Value.bool D), .row (.slice (some ⟨gs, 0, none⟩) ns cs) 3 1 ns (List.map (Value.int .i64) S), .blk g5 #[.int .i64 kk] 3, .blk g4 #[.pointer (some ⟨p, 0, none⟩)] 27, .blk g3 #[.bool true] 4, .blk g2 #[.int .i64 j.1, .int .i64 j.2.1, .int .i64 j.2.2.1, .int .i64 j.2.2.2] 77, .blk g1 #[.int .i64 r, .int .i64 s, .int .i64 b, .int .i64 o, .int .i64 c, .int .i64 y, .int .i64 z] 25] (.bool true) H (by kernel_rfl) rfl (by decide) (fun _ H => (x_rescell1 H 8 g3 0 #[.bool true] 4 (.bool true) (fun x => x) (by kernel_rfl) (by kernel_rfl) (by kernel_rfl))) ?_
          clear H
          intro v39 H
          exact ⟨rfl, H.below⟩
        · skip
          clear H
          rintro Dq_ cq_ pre kk W1 hpre hJ H
          rcases hJ with ⟨rfl, hJ⟩
          · skip
            exact absurd hpre hJ
      have h8p := of_decide_eq_true h8
      exfalso; have := h4p; omega
    have h7p := of_decide_eq_true h7
    exfalso; have := h4p; omega
  have h2p := of_decide_eq_true h2
  refine x_t (by kernel_rfl) <| x_seq <| x_region <| z_store H 0 0 [.bool true] (fun v40 H => ?_)
  refine x_nil <| x_then <| x_retc <| x_then_ret <| x_ret0 (.bool true) (by kernel_rfl) (x_rescell1 H 0 g3 0 #[.bool true] 4 (.bool true) (fun x => x) (by kernel_rfl) (by kernel_rfl) (by kernel_rfl)) ?_
  exact ⟨rfl, H.below⟩
end Go.Proofs.Ytpmnnijjohlloaa
