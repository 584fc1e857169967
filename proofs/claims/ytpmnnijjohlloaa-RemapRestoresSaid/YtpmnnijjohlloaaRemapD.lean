/- The law RemapSpent, walked. -/
import Derived.Test.YtpmnnijjohlloaaRemapC
import Derived.Test.YtpmnnijjohlloaaPxZ
namespace Go.Proofs.Ytpmnnijjohlloaa
open Go Go.RowKit
set_option linter.unusedVariables false
set_option linter.unusedSimpArgs false

theorem mok0 {z s : Int} {sn pg ns pu ru : Nat} (hp : (pu : Int) ≤ z) (hr : (ru : Int) ≤ s) : MapOk z s sn pg ns (iota sn) (List.replicate pg false) (List.replicate ns (-1)) pu ru :=
  ⟨iota_len sn, List.length_replicate, List.length_replicate, hp, hr⟩
theorem layA : Lay 1 0 1 4 2 0 1 4 3 1 := ⟨by decide, by decide, by decide, by decide, by decide, by decide, by decide, by decide, by decide, by decide, by decide, by decide, by decide, by decide, by decide, by decide, by decide, by decide, by decide, by decide, by decide, by decide⟩
theorem mokA : MapOk 1 0 3 4 1 (iota 3) (List.replicate 4 false) (List.replicate 1 (-1)) 0 0 := mok0 (by decide) (by decide)
theorem mokB : MapOk 1 0 3 4 1 (iota 3) (List.replicate 4 false) (List.replicate 1 (-1)) (0 + 1) 0 := mok0 (by decide) (by decide)
theorem mokC : MapOk 1 0 3 4 1 (retL ((1 : Nat) : Int) ((3 : Nat) : Int) (iota 3)) ((List.replicate 4 false).set 1 true) (List.replicate 1 (-1)) (0 + 1) 0 := ⟨by decide, by decide, by decide, by decide, by decide⟩
theorem pgA : pgAt 0 1 1 4 ((3 : Nat) : Int) = 3 := by decide

set_option maxRecDepth 100000 in
set_option maxHeartbeats 1000000 in
theorem anchor19  (w0 : World) :
    Calls Try.prog 14 #[] w0 fun e w' => e = .returned (.bool true) ∧ Below w0.heap.size w0 w' := by
  refine z_enter Try.func14 rfl ?_
  have H := Hs.nil w0
  refine x_seq <| x_region <| x_b H [.m] <| x_nil <| x_then <| x_seq <| x_region ?_
  refine x_b H [.m, .m] <| z_call (New_yes layA _) ?_
  rintro _ v1 ⟨p, gl, cl, gd, cd, gs, cs, rfl, hN⟩
  refine ⟨_, rfl, ?_⟩
  replace H := H.more hN
  clear hN
  refine x_b H [.m, .m, .m, .m, .m] <| x_nil <| x_then <| x_seq <| x_seq <| x_region <| x_b H [.m, .m, .m, .m, .m, .m] ?_
  refine x_nil <| x_then <| x_f (by kernel_rfl) <| x_skipc <| x_then <| x_seq <| x_region ?_
  refine x_b H [.m] <| z_callH (H.useI [0, 1, 2, 3] (fun h => TakePage_yes layA mokA (by decide) _ h)) fun v2 H => x_b H [.m, .m, .m, .m, .m] <| x_nil <| x_then <| x_seq <| x_region ?_
  refine x_b H [.m, .m] <| z_callH (H.useI [0, 1, 2, 3] (fun h => Retire_ok layA mokB 1 3 (by decide) (by decide) (by decide) (by decide) (by decide) (by decide) (by decide) _ h)) fun v3 H => x_b H [.m] <| x_nil <| x_then <| x_seq <| x_region ?_
  refine x_b H [.m] ?_
  have hX := Index_no layA mokC 1 1 (by decide) (by decide) 3 0 (by decide) (by rw [pgA]; decide) (by decide) (by decide) (by decide) _ (H.ro1 [0, 1, 2, 3])
  rw [pgA] at hX
  refine z_callB H hX fun v4 H => x_b H [.m, .m, .m, .m, .m, .m, .m, .m, .m] <| x_nil <| x_then <| x_seq <| x_region <| x_b H [.m, .m, .m, .m, .m, .m, .m, .m, .m, .m, .m, .m, .m, .m, .m, .m, .m, .m, .m, .m, .m, .m, .m] ?_
  refine x_nil <| z_fr 59 [(0, .bool true)] [] fun uf1 => x_then <| x_retc <| x_ret (.bool true) (by kernel_rfl) (by kernel_rfl) ?_
  exact ⟨rfl, H.below⟩

set_option maxRecDepth 100000 in
set_option maxHeartbeats 1000000 in
theorem spent_no (r s b o c y z x : Int) (hbd : r ≤ 9223372036854775807 ∧ b ≤ 9223372036854775807 ∧ o ≤ 9223372036854775807 ∧ c ≤ 9223372036854775807) (hok : layoutOk r s b o c y z = false) (w0 : World) :
    Calls Try.prog 3 #[.agg #[.int .i64 r, .int .i64 s, .int .i64 b, .int .i64 o, .int .i64 c, .int .i64 y, .int .i64 z], .int .i64 x] w0 fun e w' => e = .returned (.bool true) ∧ Below w0.heap.size w0 w' := by
  refine z_enter Try.func3 rfl ?_
  have H := Hs.nil w0
  refine x_seq <| x_region <| z_box H #[.int .i64 r, .int .i64 s, .int .i64 b, .int .i64 o, .int .i64 c, .int .i64 y, .int .i64 z] 25 (fun v1 g1 H => ?_)
  refine x_b H [.m] <| x_nil <| x_then <| x_seq <| x_seq <| x_region <| z_callB H (anchor19 _) fun v2 H => ?_
  refine x_b H [.m] <| x_nil <| x_then <| x_f (by kernel_rfl) <| x_skipc <| x_then <| x_seq ?_
  refine x_region <| x_b H [.n 0 0 7 25] <| z_callB H (New_no r s b o c y z hbd hok _) fun v3 H => x_b H [.m, .m, .m, .m, .m] <| x_nil <| x_then <| x_seq ?_
  refine x_seq <| x_region <| x_b H [.m, .m, .m, .k, .k, .m, .m, .k, .k, .m, .m, .k, .k, .m] <| x_nil <| x_then <| x_t (by kernel_rfl) <| x_seq ?_
  refine x_region <| x_b H [.m, .m, .m, .k, .k, .m, .m, .k, .k, .m, .m] <| x_nil <| x_then <| x_retc <| x_then_ret <| x_ret (.bool true) (by kernel_rfl) (by kernel_rfl) ?_
  exact ⟨rfl, H.below⟩

set_option maxRecDepth 100000 in
set_option maxHeartbeats 1000000 in
theorem spent_yes {r s b o c y z : Int} {pg sn ns : Nat} (hL : Lay r s b o c y z pg sn ns) (x : Int) (w0 : World) :
    Calls Try.prog 3 #[.agg #[.int .i64 r, .int .i64 s, .int .i64 b, .int .i64 o, .int .i64 c, .int .i64 y, .int .i64 z], .int .i64 x] w0 fun e w' => e = .returned (.bool true) ∧ Below w0.heap.size w0 w' := by
  refine z_enter Try.func3 rfl ?_
  have H := Hs.nil w0
  have hok := hL.ok
  obtain ⟨-, r1, r8, s0, s8, b1, b2, o1, o2, c1, c2, y0, y4, z0, z2, hpg, hsn, hns, sn1, pg2, ln0, ln2⟩ := id hL
  refine x_seq <| x_region <| z_box H #[.int .i64 r, .int .i64 s, .int .i64 b, .int .i64 o, .int .i64 c, .int .i64 y, .int .i64 z] 25 (fun v1 g1 H => ?_)
  refine x_b H [.m] <| x_nil <| x_then <| x_seq <| x_seq <| x_region <| z_callB H (anchor19 _) fun v2 H => ?_
  refine x_b H [.m] <| x_nil <| x_then <| x_f (by kernel_rfl) <| x_skipc <| x_then <| x_seq ?_
  refine x_region <| x_b H [.n 0 0 7 25] <| z_call (New_yes hL _) ?_
  rintro _ v3 ⟨p, gl, cl, gd, cd, gs, cs, rfl, hN⟩
  refine ⟨_, rfl, ?_⟩
  replace H := H.more hN
  clear hN
  refine x_b H [.m, .m, .m, .m, .m] <| x_nil <| x_then <| x_seq <| x_seq <| x_region <| x_b H [.m, .m, .m, .m, .m, .m, .m, .m, .v (.bool (decide (x < 0))), .v (.bool (decide (x < 0))), .v (.bool (decide (x < 0)))] ?_
  cases h1 : decide (x < 0)
  · skip
    have h1p := of_decide_eq_false h1
    refine x_b H [.m, .v (.bool (decide (100 < x))), .v (.bool (decide (100 < x)))] <| x_nil <| x_then ?_
    cases h2 : decide (100 < x)
    · skip
      have h2p := of_decide_eq_false h2
      refine x_f (by kernel_rfl) <| x_skipc <| x_then <| x_seq <| x_seq <| x_region <| x_b H [.m, .l 4 6, .m] ?_
      refine z_ar (z + x) <| x_b H [.m] <| x_nil <| x_then <| x_block <| x_loop (G := Nat × Nat) (fun gh a w' => match gh with | (k, pu) => ∃ uf1 : Nat → Value, a = frm 140 uf1 [(1, .int .i64 x), (2, .pointer (some ⟨g1, 0, none⟩)), (5, .pointer (some ⟨p, 0, none⟩)), (47, .int .i64 (z + x)), (48, .int .i64 (k : Int))] [] ∧ Hs [] w0 w' [.blk p #[.int .i64 r, .int .i64 s, .int .i64 b, .int .i64 o, .int .i64 c, .int .i64 y, .int .i64 z, .slice (some ⟨gl, 0, none⟩) sn cl, .slice (some ⟨gd, 0, none⟩) pg cd, .slice (some ⟨gs, 0, none⟩) ns cs, .int .i64 (pu : Int), .int .i64 ((0 : Nat) : Int)] 118, .row (.slice (some ⟨gl, 0, none⟩) sn cl) 3 1 sn (List.map (Value.int .i64) (iota sn)), .row (.slice (some ⟨gd, 0, none⟩) pg cd) 4 1 pg (List.map Value.bool (List.replicate pg false)), .row (.slice (some ⟨gs, 0, none⟩) ns cs) 3 1 ns (List.map (Value.int .i64) (List.replicate ns (-1))), .blk g1 #[.int .i64 r, .int .i64 s, .int .i64 b, .int .i64 o, .int .i64 c, .int .i64 y, .int .i64 z] 25] ∧ ((pu : Int) = min (k : Int) z) ∧ ((k : Int) ≤ z + x)) (fun gh => match gh with | (k, pu) => (z + x).toNat - k) (0, 0) ⟨_, frm_of, H, (by omega), (by omega)⟩ ?_
      clear H
      rintro ⟨k, pu⟩ _ v4 ⟨uf1, rfl, H, r1, r2⟩
      refine x_seq <| x_region <| x_b H [.v (.bool (decide ((k : Int) < (z + x))))] <| x_nil <| x_then <| x_seq ?_
      cases h3 : decide ((k : Int) < (z + x))
      · skip
        have h3p := of_decide_eq_false h3
        refine x_f (by kernel_rfl) <| x_exit <| x_then_exit <| x_then_exit <| x_blk_exit <| x_then <| x_seq ?_
        refine x_seq <| x_region <| x_b H [.m, .m, .l 4 1, .m] <| z_ar (s + x) <| x_b H [.m] <| x_nil <| x_then ?_
        refine x_block <| x_loop (G := Nat × Nat) (fun gh a w' => match gh with | (j, ru) => ∃ uf2 : Nat → Value, a = frm 140 uf2 [(2, .pointer (some ⟨g1, 0, none⟩)), (5, .pointer (some ⟨p, 0, none⟩)), (97, .int .i64 (s + x)), (98, .int .i64 (j : Int))] [] ∧ Hs [] w0 w' [.blk p #[.int .i64 r, .int .i64 s, .int .i64 b, .int .i64 o, .int .i64 c, .int .i64 y, .int .i64 z, .slice (some ⟨gl, 0, none⟩) sn cl, .slice (some ⟨gd, 0, none⟩) pg cd, .slice (some ⟨gs, 0, none⟩) ns cs, .int .i64 (pu : Int), .int .i64 (ru : Int)] 118, .row (.slice (some ⟨gl, 0, none⟩) sn cl) 3 1 sn (List.map (Value.int .i64) (iota sn)), .row (.slice (some ⟨gd, 0, none⟩) pg cd) 4 1 pg (List.map Value.bool (List.replicate pg false)), .row (.slice (some ⟨gs, 0, none⟩) ns cs) 3 1 ns (List.map (Value.int .i64) (List.replicate ns (-1))), .blk g1 #[.int .i64 r, .int .i64 s, .int .i64 b, .int .i64 o, .int .i64 c, .int .i64 y, .int .i64 z] 25] ∧ ((ru : Int) = min (j : Int) s) ∧ ((j : Int) ≤ s + x)) (fun gh => match gh with | (j, ru) => (s + x).toNat - j) (0, 0) ⟨_, frm_of, H, (by omega), (by omega)⟩ ?_
        clear H
        rintro ⟨j, ru⟩ _ v5 ⟨uf2, rfl, H, r1, r2⟩
        refine x_seq <| x_region <| x_b H [.v (.bool (decide ((j : Int) < (s + x))))] <| x_nil <| x_then <| x_seq ?_
        cases h4 : decide ((j : Int) < (s + x))
        · skip
          have h4p := of_decide_eq_false h4
          refine x_f (by kernel_rfl) <| x_exit <| x_then_exit <| x_then_exit <| x_blk_exit <| x_then <| x_seq ?_
          refine x_region <| x_b H [.m] <| x_nil <| x_then <| x_retc <| x_ret (.bool true) (by kernel_rfl) (by kernel_rfl) ?_
          exact ⟨rfl, H.below⟩
        have h4p := of_decide_eq_true h4
        refine x_t (by kernel_rfl) <| x_skipc <| x_then <| x_seq <| x_block <| x_seq <| x_region ?_
        refine x_b H [.m, .m] <| x_nil <| x_then <| x_seq <| x_region <| x_b H [.m] ?_
        cases h5 : decide ((ru : Int) = s)
        · skip
          have h5p := of_decide_eq_false h5
          have h6 : (decide ((j : Int) < s)) = true := by simp; omega
          have h7 : (decide (s ≤ (j : Int))) = false := by simp; omega
          have h8 : (decide ((r + (ru : Int)) = (r + (j : Int)))) = true := by simp; omega
          refine z_callH (v := .tuple #[.int .i64 (r + (ru : Int)), .int .i64 0]) (H.useI [0, 1, 2, 3] (fun h => TakeSpare_yes hL (mok0 (by omega) (by omega)) (by omega) _ h)) fun v6 H => x_b H [.m, .m, .m, .m, .m] <| x_nil <| x_then <| x_seq <| x_region <| x_b H [.m, .m, .m, .l 4 1, .v (.bool (decide ((j : Int) < s))), .v (.bool (decide ((j : Int) < s)))] ?_
          rw [h6]
          refine x_b H [.m, .m, .m, .l 4 0, .m] <| z_ar (r + (j : Int)) <| x_b H [.v (.bool (!(decide ((r + (ru : Int)) = (r + (j : Int)))))), .v (.bool (!(decide ((r + (ru : Int)) = (r + (j : Int))))))] ?_
          rw [h8]
          refine x_b H [.m, .m, .m, .m, .m, .m, .m, .m, .l 4 1, .v (.bool (decide (s ≤ (j : Int)))), .v (.bool (decide (s ≤ (j : Int))))] ?_
          rw [h7]
          refine x_b H [.k, .k, .k, .k, .k, .k, .m, .m] <| x_nil <| z_fr 140 [(2, .pointer (some ⟨g1, 0, none⟩)), (5, .pointer (some ⟨p, 0, none⟩)), (97, .int .i64 (s + x)), (98, .int .i64 (j : Int)), (138, .bool false)] [] fun uf3 => x_then <| x_f (by kernel_rfl) <| x_skipc <| x_blk ?_
          refine x_then <| x_region <| z_ar ((j : Int) + 1) <| x_b H [.m] <| x_nil <| x_then ?_
          exact ⟨(j + 1, (ru + 1)), (by dsimp only; omega), _, frm_of, H, (by omega), (by omega)⟩
        have h5p := of_decide_eq_true h5
        have h9 : (decide ((j : Int) < s)) = false := by simp; omega
        have h10 : (decide (s ≤ (j : Int))) = true := by simp; omega
        refine z_callH (v := .tuple #[.int .i64 0, .int .i64 52]) (H.useI [0, 1, 2, 3] (fun h => TakeSpare_no hL (mok0 (by omega) (by omega)) (by omega) _ h)) fun v7 H => x_b H [.m, .m, .m, .m, .m] <| x_nil <| x_then <| x_seq <| x_region <| x_b H [.m, .m, .m, .l 4 1, .v (.bool (decide ((j : Int) < s))), .v (.bool (decide ((j : Int) < s)))] ?_
        rw [h9]
        refine x_b H [.k, .k, .k, .k, .k, .k, .k, .k, .k, .k, .k, .m, .m, .m, .m, .m, .l 4 1, .v (.bool (decide (s ≤ (j : Int)))), .v (.bool (decide (s ≤ (j : Int))))] ?_
        rw [h10]
        refine x_b H [.m, .m, .m, .m, .m, .m, .m, .m] <| x_nil <| z_fr 140 [(2, .pointer (some ⟨g1, 0, none⟩)), (5, .pointer (some ⟨p, 0, none⟩)), (97, .int .i64 (s + x)), (98, .int .i64 (j : Int)), (138, .bool false)] [] fun uf4 => x_then <| x_f (by kernel_rfl) <| x_skipc <| x_blk ?_
        refine x_then <| x_region <| z_ar ((j : Int) + 1) <| x_b H [.m] <| x_nil <| x_then ?_
        exact ⟨(j + 1, ru), (by dsimp only; omega), _, frm_of, H, (by omega), (by omega)⟩
      have h3p := of_decide_eq_true h3
      refine x_t (by kernel_rfl) <| x_skipc <| x_then <| x_seq <| x_block <| x_seq <| x_region ?_
      refine x_b H [.m, .m] <| x_nil <| x_then <| x_seq <| x_region <| x_b H [.m] ?_
      cases h11 : decide ((pu : Int) = z)
      · skip
        have h11p := of_decide_eq_false h11
        have h12 : (decide ((k : Int) < z)) = true := by simp; omega
        have h13 : (decide (z ≤ (k : Int))) = false := by simp; omega
        have h14 : (decide (((sn : Int) + (pu : Int)) = ((sn : Int) + (k : Int)))) = true := by simp; omega
        refine z_callH (v := .tuple #[.int .i64 ((sn : Int) + (pu : Int)), .int .i64 0]) (H.useI [0, 1, 2, 3] (fun h => TakePage_yes hL (mok0 (by omega) (by omega)) (by omega) _ h)) fun v8 H => x_b H [.m, .m, .m, .m, .m] <| x_nil <| x_then <| x_seq <| x_region <| x_b H [.m, .m, .l 4 6, .v (.bool (decide ((k : Int) < z))), .v (.bool (decide ((k : Int) < z)))] ?_
        rw [h12]
        refine x_b H [.m, .n 4 0 7 25] <| z_callB H (seen_of hL _) fun v9 H => x_b H [.m] <| z_ar ((sn : Int) + (k : Int)) <| x_b H [.v (.bool (!(decide (((sn : Int) + (pu : Int)) = ((sn : Int) + (k : Int)))))), .v (.bool (!(decide (((sn : Int) + (pu : Int)) = ((sn : Int) + (k : Int))))))] ?_
        rw [h14]
        refine x_b H [.m, .m, .m, .m, .m, .m] ?_
        have hU := Used_in hL (mok0 (by omega) (by omega)) (sn + pu) (by omega) _ (H.ro1 [0, 1, 2, 3])
        rw [rep_get] at hU
        refine z_callB H hU fun v10 H => x_b H [.m, .m, .m, .m, .m, .m, .l 4 6, .v (.bool (decide (z ≤ (k : Int)))), .v (.bool (decide (z ≤ (k : Int))))] ?_
        rw [h13]
        refine x_b H [.k, .k, .k, .k, .k, .k, .m, .m] <| x_nil <| z_fr 140 [(1, .int .i64 x), (2, .pointer (some ⟨g1, 0, none⟩)), (5, .pointer (some ⟨p, 0, none⟩)), (47, .int .i64 (z + x)), (48, .int .i64 (k : Int)), (91, .bool false)] [] fun uf5 => x_then <| x_f (by kernel_rfl) <| x_skipc <| x_blk ?_
        refine x_then <| x_region <| z_ar ((k : Int) + 1) <| x_b H [.m] <| x_nil <| x_then ?_
        exact ⟨(k + 1, (pu + 1)), (by dsimp only; omega), _, frm_of, H, (by omega), (by omega)⟩
      have h11p := of_decide_eq_true h11
      have h15 : (decide ((k : Int) < z)) = false := by simp; omega
      have h16 : (decide (z ≤ (k : Int))) = true := by simp; omega
      refine z_callH (v := .tuple #[.int .i64 0, .int .i64 52]) (H.useI [0, 1, 2, 3] (fun h => TakePage_no hL (mok0 (by omega) (by omega)) (by omega) _ h)) fun v11 H => x_b H [.m, .m, .m, .m, .m] <| x_nil <| x_then <| x_seq <| x_region <| x_b H [.m, .m, .l 4 6, .v (.bool (decide ((k : Int) < z))), .v (.bool (decide ((k : Int) < z)))] ?_
      rw [h15]
      refine x_b H [.k, .k, .k, .k, .k, .k, .k, .k, .k, .k, .k, .k, .k, .k, .k, .k, .m, .m, .m, .m, .l 4 6, .v (.bool (decide (z ≤ (k : Int)))), .v (.bool (decide (z ≤ (k : Int))))] ?_
      rw [h16]
      refine x_b H [.m, .m, .m, .m, .m, .m, .m, .m] <| x_nil <| z_fr 140 [(1, .int .i64 x), (2, .pointer (some ⟨g1, 0, none⟩)), (5, .pointer (some ⟨p, 0, none⟩)), (47, .int .i64 (z + x)), (48, .int .i64 (k : Int)), (91, .bool false)] [] fun uf6 => x_then <| x_f (by kernel_rfl) <| x_skipc <| x_blk ?_
      refine x_then <| x_region <| z_ar ((k : Int) + 1) <| x_b H [.m] <| x_nil <| x_then ?_
      exact ⟨(k + 1, pu), (by dsimp only; omega), _, frm_of, H, (by omega), (by omega)⟩
    have h2p := of_decide_eq_true h2
    refine x_t (by kernel_rfl) <| x_seq <| x_region <| x_b H [.m, .m, .m, .m, .v (.bool (decide (x < 0))), .v (.bool (decide (x < 0))), .v (.bool (decide (x < 0)))] ?_
    rw [h1]
    refine x_b H [.m, .v (.bool (decide (100 < x))), .v (.bool (decide (100 < x))), .v (.bool (decide (100 < x)))] <| x_nil <| x_then <| x_retc <| x_then_ret <| x_ret (.bool (decide (100 < x))) (by kernel_rfl) (by kernel_rfl) ?_
    exact ⟨by rw [h2], H.below⟩
  have h1p := of_decide_eq_true h1
  refine x_b H [.k, .k, .m] <| x_nil <| x_then <| x_t (by kernel_rfl) <| x_seq <| x_region <| x_b H [.m, .m, .m, .m, .v (.bool (decide (x < 0))), .v (.bool (decide (x < 0))), .v (.bool (decide (x < 0)))] ?_
  rw [h1]
  refine x_b H [.k, .k, .m, .m] <| x_nil <| x_then <| x_retc <| x_then_ret <| x_ret (.bool true) (by kernel_rfl) (by kernel_rfl) ?_
  exact ⟨rfl, H.below⟩

end Go.Proofs.Ytpmnnijjohlloaa
