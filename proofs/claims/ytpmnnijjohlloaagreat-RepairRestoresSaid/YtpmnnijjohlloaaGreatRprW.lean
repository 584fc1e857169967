/- A repair's state; a repair of a state. -/
import Derived.Test.YtpmnnijjohlloaaGreatRprV
import Derived.Test.YtpmnnijjohlloaaGreatRprS
import Derived.Test.YtpmnnijjohlloaaGreatRprT
import Derived.Test.YtpmnnijjohlloaaGreatRemapE
import Derived.Test.YtpmnnijjohlloaaGreatRprJ
import Derived.Test.YtpmnnijjohlloaaGreatRat3
import Derived.Test.YtpmnnijjohlloaaGreatPxZ
namespace Go.Proofs.YtpmnnijjohlloaaGreat
open Go Go.RowKit
set_option linter.unusedVariables false
set_option linter.unusedSimpArgs false
theorem Qnd.mv {r s b o c z : Int} {sn pg ns : Nat} {v : Rp} {op : Int3} (h : v.Q.Nodup) : (v.mv r s z sn pg ns b o c op).Q.Nodup := by
  unfold Rp.mv
  split
  · exact Qnd.ask h
  · split
    · exact Qnd.step h
    · exact h
set_option maxRecDepth 100000 in
set_option maxHeartbeats 4000000 in
theorem IndexI {ad : Option Addr} {n ca : Nat} {l : List Int} (hl : l.length = n) (hn : n ≤ 1000000000) (v : Int) (w0 : World) (hI : IntsAt w0 ad n l) :
    Calls Tryz.prog 91 #[.slice ad n ca, .int .i64 v] w0 fun e w' => ∃ i : Int, e = .returned (.int .i64 i) ∧ Below w0.heap.size w0 w' ∧ decide (0 ≤ i) = decide (v ∈ l) := by
  refine z_enter Tryz.func91 rfl ?_
  have H := Hs.nil w0
  refine x_seq <| x_region <| x_b H [.m] <| x_nil <| x_then <| x_seq <| x_seq ?_
  refine x_region <| x_b H [.m, .m, .m] <| x_nil <| x_then <| x_block <| x_loop (G := Nat) (fun (k : Nat) a w' => ∃ uf1 : Nat → Value, a = frm 19 uf1 [(0, .slice ad n ca), (1, .int .i64 v), (7, .int .i64 (n : Int)), (8, .int .i64 (k : Int))] [] ∧ Hs [] w0 w' [] ∧ (k ≤ n) ∧ (∀ i, i < k → ¬ v = l.getD i 0)) (fun (k : Nat) => n - k) 0 ⟨_, frm_of, H, (Nat.zero_le _), (fun i h => absurd h (Nat.not_lt_zero _))⟩ ?_
  clear H
  rintro k _ v1 ⟨uf1, rfl, H, r1, r2⟩
  refine x_seq <| x_region <| x_b H [.v (.bool (decide ((k : Int) < (n : Int))))] <| x_nil <| x_then <| x_seq ?_
  cases h1 : decide ((k : Int) < (n : Int))
  · skip
    have h1p := of_decide_eq_false h1
    refine x_f (by kernel_rfl) <| x_exit <| x_then_exit <| x_then_exit <| x_blk_exit <| x_then <| x_seq ?_
    refine x_region <| x_b H [.m] <| x_nil <| x_then <| x_retc <| x_ret (.int .i64 (-1)) (by kernel_rfl) (by kernel_rfl) ?_
    have e : decide (v ∈ l) = false := decide_eq_false fun hm => by obtain ⟨i, hi, e⟩ := getD_of_mem hm; exact r2 i (by omega) e.symm
    exact ⟨_, rfl, H.below, by rw [e]; rfl⟩
  have h1p := of_decide_eq_true h1
  refine x_t (by kernel_rfl) <| x_skipc <| x_then <| x_seq <| x_block <| x_seq <| x_region ?_
  refine x_b H [.m, .m] <| x_nil <| x_then <| x_seq <| x_region <| x_b H [.m, .m] ?_
  obtain ⟨ga, oa, had, hcell⟩ := hI (by omega)
  refine x_b H [.m] <| x_ixO (t := 31) had k n ca 3 1 (oa + k) (by omega) (by omega) (by kernel_rfl) (by kernel_rfl) (by kernel_rfl) rfl (by kernel_rfl) <| x_loadc ga (oa + k) (.int .i64 (l.getD k 0)) (hcell _ H.below k (by omega)) (by kernel_rfl) rfl (by kernel_rfl) <| x_b H [.v (.bool (decide (v = (l.getD k 0))))] <| x_nil <| x_then ?_
  cases h2 : decide (v = (l.getD k 0))
  · skip
    have h2p := of_decide_eq_false h2
    refine x_f (by kernel_rfl) <| x_skipc <| x_blk <| x_then <| x_region <| z_ar ((k : Int) + 1) <| x_b H [.m] ?_
    refine x_nil <| x_then ?_
    exact ⟨(k + 1), (by omega), _, frm_of, H, (by omega), (fun i hi => by by_cases e : i = k; (rw [e]; exact h2p); exact r2 i (by omega))⟩
  have h2p := of_decide_eq_true h2
  refine x_t (by kernel_rfl) <| x_seq <| x_region <| x_b H [.m, .m] <| x_nil <| x_then <| x_retc ?_
  refine x_blk_ret <| x_then_ret <| x_then_ret <| x_blk_ret <| x_then_ret <| x_ret (.int .i64 (k : Int)) (by kernel_rfl) (by kernel_rfl) ?_
  have e : decide (v ∈ l) = true := decide_eq_true (by rw [h2p]; exact getD_mem (by omega) 0)
  exact ⟨_, rfl, H.below, by rw [e]; exact decide_eq_true (by omega)⟩
set_option maxRecDepth 100000 in
set_option maxHeartbeats 4000000 in
theorem ContainsI {ad : Option Addr} {n ca : Nat} {l : List Int} (hl : l.length = n) (hn : n ≤ 1000000000) (v : Int) (w0 : World) (hI : IntsAt w0 ad n l) :
    Calls Tryz.prog 58 #[.slice ad n ca, .int .i64 v] w0 fun e w' => e = .returned (.bool (decide (v ∈ l))) ∧ Below w0.heap.size w0 w' := by
  refine z_enter Tryz.func58 rfl ?_
  have H := Hs.nil w0
  refine x_seq <| x_region <| x_b H [.m] <| x_nil <| x_then <| x_seq <| x_region ?_
  refine x_b H [.m, .m] <| z_call (IndexI (ca := ca) hl hn v _ (hI.at H.below)) ?_
  rintro _ v1 ⟨iz, rfl, hB, eiz⟩
  refine ⟨_, rfl, ?_⟩
  replace H := H.via hB
  clear hB
  refine x_b H [.v (.bool (decide (0 ≤ iz))), .v (.bool (decide (0 ≤ iz)))] <| x_nil <| x_then <| x_retc <| x_ret (.bool (decide (0 ≤ iz))) (by kernel_rfl) (by kernel_rfl) ?_
  exact ⟨by rw [← eiz], H.below⟩
set_option maxRecDepth 100000 in
set_option maxHeartbeats 4000000 in
theorem taken_of {r s b o c y z : Int} {pg sn ns : Nat} (hL : Lay r s b o c y z pg sn ns) {L : List Int} {D : List Bool} {S : List Int} {pu ru : Nat} (hV : MapV r s z sn pg ns L D S pu ru) (hv : LivM sn pg pu L D) (j : Job4) (ht : -9223372036854775808 ≤ j.2.2.1 ∧ j.2.2.1 ≤ 9223372036854775807) (aL aD aS aQ : Option Addr) (cL cD cS nQ cQ : Nat) (w0 : World) (hIL : IntsAt w0 aL sn L) (hIS : IntsAt w0 aS ns (spL S)) :
    Calls Tryz.prog 20 #[.agg #[.slice aL sn cL, .slice aD (List.length (deadL D pg)) cD, .slice aS ns cS, .int .i64 ((pu : Nat) : Int), .int .i64 ((ru : Nat) : Int), .int .i64 j.1, .int .i64 j.2.1, .int .i64 j.2.2.1, .int .i64 j.2.2.2, .slice aQ nQ cQ], .agg #[.int .i64 r, .int .i64 s, .int .i64 b, .int .i64 o, .int .i64 c, .int .i64 y, .int .i64 z]] w0 fun e w' => e = .returned (.bool (tkB r sn L S pu ru j)) ∧ Below w0.heap.size w0 w' := by
  refine z_enter Tryz.func20 rfl ?_
  have H := Hs.nil w0
  have hok := hL.ok
  obtain ⟨-, r1', r8, s0, s8, b1, b2, o1, o2, c1, c2, y0, y4, z0, z2, hpg, hsn, hns, sn1, pg2, ln0, ln2⟩ := id hL
  have hm := hV.m
  have hpu := hm.hp
  have hru := hm.hr
  have hlL := hm.hL
  have hlS : (spL S).length = ns := by unfold spL; rw [List.length_map]; exact hm.hS
  refine x_seq <| x_region <| z_box H #[.slice aL sn cL, .slice aD (List.length (deadL D pg)) cD, .slice aS ns cS, .int .i64 (pu : Int), .int .i64 (ru : Int), .int .i64 j.1, .int .i64 j.2.1, .int .i64 j.2.2.1, .int .i64 j.2.2.2, .slice aQ nQ cQ] 50 (fun v1 g1 H => ?_)
  refine z_box H #[.int .i64 r, .int .i64 s, .int .i64 b, .int .i64 o, .int .i64 c, .int .i64 y, .int .i64 z] 25 (fun v2 g2 H => ?_)
  refine x_b H [.m] <| x_nil <| x_then <| x_seq <| x_seq <| x_region <| x_b H [.m, .m, .l 1 7, .m] ?_
  refine x_nil <| x_then <| x_seq <| x_region <| x_b H [.m, .m, .l 1 5] <| x_nil <| x_then ?_
  refine x_block <| x_seq <| x_region <| x_b H [.v (.bool (decide (j.1 = 1))), .v (.bool (decide (j.1 = 1)))] <| x_nil <| x_then ?_
  cases h1 : decide (j.1 = 1)
  · skip
    have h1p := of_decide_eq_false h1
    refine x_f (by kernel_rfl) <| x_seq <| x_region <| x_b H [.v (.bool (decide (j.1 = 2))), .v (.bool (decide (j.1 = 2)))] <| x_nil <| x_then ?_
    cases h2 : decide (j.1 = 2)
    · skip
      have h2p := of_decide_eq_false h2
      refine x_f (by kernel_rfl) <| x_skipc <| x_blk <| x_then <| x_seq <| x_region <| x_b H [.m] ?_
      refine x_nil <| x_then <| x_retc <| x_ret (.bool true) (by kernel_rfl) (by kernel_rfl) ?_
      have e : (tkB r sn L S pu ru j) = (true) := by
        unfold tkB
        rewrite [if_neg h1p, if_neg h2p]
        first | rfl | (simp <;> omega) | (simp []; done) | (simp [] <;> omega)
      exact ⟨by rw [e], H.below⟩
    have h2p := of_decide_eq_true h2
    refine x_t (by kernel_rfl) <| x_seq <| x_region <| x_b H [.m, .m, .m, .l 0 0, .m, .m, .l 1 4] <| z_ar (r + (ru : Int)) <| x_b H [.v (.bool (decide (j.2.2.1 < (r + (ru : Int))))), .v (.bool (decide (j.2.2.1 < (r + (ru : Int)))))] ?_
    cases h3 : decide (j.2.2.1 < (r + (ru : Int)))
    · skip
      have h3p := of_decide_eq_false h3
      refine x_b H [.k, .k, .k, .k, .k, .k, .m, .m] <| x_nil <| x_then <| x_retc <| x_blk_ret <| x_then_ret <| x_ret (.bool false) (by kernel_rfl) (by kernel_rfl) ?_
      have e : (tkB r sn L S pu ru j) = (false) := by
        unfold tkB
        rewrite [if_neg h1p, if_pos h2p]
        first | rfl | (simp <;> omega) | (simp [h3]; done) | (simp [h3] <;> omega)
      exact ⟨by rw [e], H.below⟩
    have h3p := of_decide_eq_true h3
    refine x_b H [.m, .m, .l 1 2, .m] <| z_callB (v := .bool (decide (j.2.2.1 ∈ spL S))) H (ContainsI (ca := cS) hlS (by omega) j.2.2.1 _ (hIS.at H.below)) fun v3 H => x_b H [.v (.bool (!(decide (j.2.2.1 ∈ spL S)))), .v (.bool (!(decide (j.2.2.1 ∈ spL S)))), .v (.bool (!(decide (j.2.2.1 ∈ spL S))))] <| x_nil <| x_then <| x_retc <| x_blk_ret ?_
    refine x_then_ret <| x_ret (.bool (!(decide (j.2.2.1 ∈ spL S)))) (by kernel_rfl) (by kernel_rfl) ?_
    have e : (tkB r sn L S pu ru j) = ((!(decide (j.2.2.1 ∈ spL S)))) := by
      unfold tkB
      rewrite [if_neg h1p, if_pos h2p]
      first | rfl | (simp <;> omega) | (simp [h3]; done) | (simp [h3] <;> omega)
    exact ⟨by rw [e], H.below⟩
  have h1p := of_decide_eq_true h1
  refine x_t (by kernel_rfl) <| x_seq <| z_region_whole H <| q_b [.m, .n 0 0 7 25] <| q_callB (.int .i64 (sn : Int)) (by kernel_rfl) (fun _ => by kernel_rfl) (fun _ => (seen_of hL _)) <| q_b [.v (.bool (decide ((sn : Int) ≤ j.2.2.1))), .v (.bool (decide ((sn : Int) ≤ j.2.2.1)))] ?_
  cases h4 : decide ((sn : Int) ≤ j.2.2.1)
  · skip
    have h4p := of_decide_eq_false h4
    refine q_b [.k, .k, .k, .k, .k, .k, .k, .k, .m, .m, .k, .k, .k, .k, .k, .k, .m, .m] <| q_nil ?_
    clear H
    intro v4 H
    refine x_then <| x_retc <| x_blk_ret <| x_then_ret <| x_ret (.bool false) (by kernel_rfl) (by kernel_rfl) ?_
    have e : (tkB r sn L S pu ru j) = (false) := by
      unfold tkB
      rewrite [if_pos h1p]
      first | rfl | (simp <;> omega) | (simp [h4]; done) | (simp [h4] <;> omega)
    exact ⟨by rw [e], H.below⟩
  have h4p := of_decide_eq_true h4
  refine q_b [.m, .n 0 0 7 25] <| q_callB (.int .i64 (sn : Int)) (by kernel_rfl) (fun _ => by kernel_rfl) (fun _ => (seen_of hL _)) <| q_b [.m, .m, .l 1 3] <| q_ar ((sn : Int) + (pu : Int)) ⟨by omega, by omega⟩ (by kernel_rfl) (fun _ => by kernel_rfl) <| q_b [.v (.bool (decide (j.2.2.1 < ((sn : Int) + (pu : Int))))), .v (.bool (decide (j.2.2.1 < ((sn : Int) + (pu : Int))))), .v (.bool (decide (j.2.2.1 < ((sn : Int) + (pu : Int)))))] ?_
  cases h5 : decide (j.2.2.1 < ((sn : Int) + (pu : Int)))
  · skip
    have h5p := of_decide_eq_false h5
    refine q_b [.k, .k, .k, .k, .k, .k, .m, .m] <| q_nil ?_
    clear H
    intro v5 H
    refine x_then <| x_retc <| x_blk_ret <| x_then_ret <| x_ret (.bool false) (by kernel_rfl) (by kernel_rfl) ?_
    have e : (tkB r sn L S pu ru j) = (false) := by
      unfold tkB
      rewrite [if_pos h1p]
      first | rfl | (simp <;> omega) | (simp [h4, h5]; done) | (simp [h4, h5] <;> omega)
    exact ⟨by rw [e], H.below⟩
  have h5p := of_decide_eq_true h5
  refine q_b [.m, .m, .l 1 0, .m] <| q_callR (.bool (decide (j.2.2.1 ∈ L))) (by kernel_rfl) (fun _ => by kernel_rfl) (fun _ H => (ContainsI (ca := cL) hlL (by omega) j.2.2.1 _ (hIL.at H.below))) <| q_b [.v (.bool (!(decide (j.2.2.1 ∈ L)))), .v (.bool (!(decide (j.2.2.1 ∈ L)))), .v (.bool (!(decide (j.2.2.1 ∈ L))))] <| q_nil ?_
  clear H
  intro v6 H
  refine x_then <| x_retc <| x_blk_ret <| x_then_ret <| x_ret (.bool (!(decide (j.2.2.1 ∈ L)))) (by kernel_rfl) (by kernel_rfl) ?_
  have e : (tkB r sn L S pu ru j) = ((!(decide (j.2.2.1 ∈ L)))) := by
    unfold tkB
    rewrite [if_pos h1p]
    first | rfl | (simp <;> omega) | (simp [h4, h5]; done) | (simp [h4, h5] <;> omega)
  exact ⟨by rw [e], H.below⟩
theorem restore_map {r s b o c y z : Int} {pg sn ns : Nat} (hL : Lay r s b o c y z pg sn ns) {L : List Int} {D : List Bool} {S : List Int} {pu ru : Nat} (hV : MapV r s z sn pg ns L D S pu ru) (hv : LivM sn pg pu L D) (aL aD aS : Option Addr) (cL cD cS : Nat) (w0 : World) (hIL : IntsAt w0 aL sn L) (hID : IntsAt w0 aD (List.length (deadL D pg)) (deadL D pg)) (hIS : IntsAt w0 aS ns (spL S)) :
    Calls Tryz.prog 17 #[.agg #[.int .i64 r, .int .i64 s, .int .i64 b, .int .i64 o, .int .i64 c, .int .i64 y, .int .i64 z], .agg #[.slice aL sn cL, .slice aD (List.length (deadL D pg)) cD, .slice aS ns cS, .int .i64 ((pu : Nat) : Int), .int .i64 ((ru : Nat) : Int)]] w0 fun e w' => ∃ p2 gl2 cl2 gd2 cd2 gs2 cs2, e = .returned (.tuple #[.pointer (some ⟨p2, 0, none⟩), .int .i64 0]) ∧ Hs [] w0 w' [.blk p2 #[.int .i64 r, .int .i64 s, .int .i64 b, .int .i64 o, .int .i64 c, .int .i64 y, .int .i64 z, .slice (some ⟨gl2, 0, none⟩) sn cl2, .slice (some ⟨gd2, 0, none⟩) pg cd2, .slice (some ⟨gs2, 0, none⟩) ns cs2, .int .i64 ((pu : Nat) : Int), .int .i64 ((ru : Nat) : Int)] 109, .row (.slice (some ⟨gl2, 0, none⟩) sn cl2) 3 1 sn (List.map (Value.int .i64) L), .row (.slice (some ⟨gd2, 0, none⟩) pg cd2) 4 1 pg (List.map Value.bool D), .row (.slice (some ⟨gs2, 0, none⟩) ns cs2) 3 1 ns (List.map (Value.int .i64) S)] := by
  obtain ⟨-, r1', r8, s0, s8, b1, b2, o1, o2, c1, c2, y0, y4, z0, z2, hpg, hsn, hns, sn1, pg2, ln0, ln2⟩ := id hL
  have hp := hV.m.hp
  have hru := hV.m.hr
  have esp : (spL S).length = ns := by unfold spL; rw [List.length_map]; exact hV.m.hS
  have hnd := deadL_len D pg
  have hokS := okS_of hV hv sn (Nat.le_refl _)
  rw [← marks_dead hV.m.hD] at hokS
  have eS := hV.m.hS
  have hsx : ∀ i, i < ns → -9223372036854775808 ≤ (spL S).getD i 0 ∧ (spL S).getD i 0 ≤ 9223372036854775807 := fun i hi => by
    rw [spL_get (by omega)]
    rcases hV.sv i (by omega) with e | e <;> omega
  have hokT := okT_of r1' hV ns (by omega)
  have hft := fitsB_mk (nl := sn) (sn := sn) (nq := ns) (r := r) (z := z) (s := s) (pu := ((pu : Nat) : Int)) (ru := ((ru : Nat) : Int)) rfl (by omega) (by omega) hp (by omega) hru
  refine (Restore_yes hL aL aD aS sn cL (List.length (deadL D pg)) cD ns cS L (deadL D pg) (spL S) hsx (by omega) hft (okD_deadL D pg pg (Nat.le_refl _)) hokS hokT _ hIL hID hIS).mono fun e w' h => ?_
  obtain ⟨p2, gl2, cl2, gd2, cd2, gs2, cs2, he, hN⟩ := h
  have hid := standL_id r1' hV
  rw [setsL_id hV.m.hL, marks_dead hV.m.hD, hid] at hN
  exact ⟨p2, gl2, cl2, gd2, cd2, gs2, cs2, he, hN⟩
set_option maxRecDepth 100000 in
set_option maxHeartbeats 4000000 in
theorem Rst_yes {r s b o c y z : Int} {pg sn ns : Nat} (hL : Lay r s b o c y z pg sn ns) {L : List Int} {D : List Bool} {S : List Int} {pu ru : Nat} (hV : MapV r s z sn pg ns L D S pu ru) (hv : LivM sn pg pu L D) (j : Job4) (ht : -9223372036854775808 ≤ j.2.2.1 ∧ j.2.2.1 ≤ 9223372036854775807) (aL aD aS aQ : Option Addr) (cL cD cS nQ cQ : Nat) (hf : (fitJ r s b o c sn pg ns L D S pu ru j) = true) (w0 : World) (hIL : IntsAt w0 aL sn L) (hID : IntsAt w0 aD (List.length (deadL D pg)) (deadL D pg)) (hIS : IntsAt w0 aS ns (spL S)) (QA : List Ent) (hQA : QA.length = nQ) (hA : RAt entL 2 (0, 0) w0 aQ nQ QA) (hQ9 : nQ ≤ 1000000) (hq : (QA.Nodup ∧ QA.length ≤ 256)) :
    Calls Tryz.prog 7 #[.agg #[.int .i64 r, .int .i64 s, .int .i64 b, .int .i64 o, .int .i64 c, .int .i64 y, .int .i64 z], .agg #[.slice aL sn cL, .slice aD (List.length (deadL D pg)) cD, .slice aS ns cS, .int .i64 ((pu : Nat) : Int), .int .i64 ((ru : Nat) : Int), .int .i64 j.1, .int .i64 j.2.1, .int .i64 j.2.2.1, .int .i64 j.2.2.2, .slice aQ nQ cQ]] w0 fun e w' => ∃ (m7 : Nat × Nat × Nat × Nat × Nat × Nat × Nat) (q3 : Nat × Nat × Nat) (rp : Nat) (r3 : List Ent × Nat × Nat), e = .returned (.tuple #[.pointer (some ⟨rp, 0, none⟩), .int .i64 0]) ∧ Hs [] w0 w' [.blk rp #[.pointer (some ⟨m7.1, 0, none⟩), .int .i64 j.1, .int .i64 j.2.1, .int .i64 j.2.2.1, .int .i64 j.2.2.2, .pointer (some ⟨q3.1, 0, none⟩)] 74, .blk m7.1 #[.int .i64 r, .int .i64 s, .int .i64 b, .int .i64 o, .int .i64 c, .int .i64 y, .int .i64 z, .slice (some ⟨m7.2.1, 0, none⟩) sn m7.2.2.1, .slice (some ⟨m7.2.2.2.1, 0, none⟩) pg m7.2.2.2.2.1, .slice (some ⟨m7.2.2.2.2.2.1, 0, none⟩) ns m7.2.2.2.2.2.2, .int .i64 ((pu : Nat) : Int), .int .i64 ((ru : Nat) : Int)] 109, .row (.slice (some ⟨m7.2.1, 0, none⟩) sn m7.2.2.1) 3 1 sn (List.map (Value.int .i64) L), .row (.slice (some ⟨m7.2.2.2.1, 0, none⟩) pg m7.2.2.2.2.1) 4 1 pg (List.map Value.bool D), .row (.slice (some ⟨m7.2.2.2.2.2.1, 0, none⟩) ns m7.2.2.2.2.2.2) 3 1 ns (List.map (Value.int .i64) S), .blk q3.1 #[.slice (some ⟨q3.2.1, 0, none⟩) 256 q3.2.2, .int .i64 ((r3.2.1 : Nat) : Int), .int .i64 ((r3.2.2 : Nat) : Int)] 123, .row (.slice (some ⟨q3.2.1, 0, none⟩) 256 q3.2.2) 52 2 256 (List.flatMap entL r3.1)] ∧ RgOk r3.1 r3.2.1 r3.2.2 QA := by
  refine z_enter Tryz.func7 rfl ?_
  have H := Hs.nil w0
  have hok := hL.ok
  obtain ⟨-, r1', r8, s0, s8, b1, b2, o1, o2, c1, c2, y0, y4, z0, z2, hpg, hsn, hns, sn1, pg2, ln0, ln2⟩ := id hL
  have hm := hV.m
  have hpu := hm.hp
  have hru := hm.hr
  have hlL := hm.hL
  have hlS : (spL S).length = ns := by unfold spL; rw [List.length_map]; exact hm.hS
  refine x_seq <| x_region <| z_box H #[.int .i64 r, .int .i64 s, .int .i64 b, .int .i64 o, .int .i64 c, .int .i64 y, .int .i64 z] 25 (fun v1 g1 H => ?_)
  refine z_box H #[.slice aL sn cL, .slice aD (List.length (deadL D pg)) cD, .slice aS ns cS, .int .i64 (pu : Int), .int .i64 (ru : Int), .int .i64 j.1, .int .i64 j.2.1, .int .i64 j.2.2.1, .int .i64 j.2.2.2, .slice aQ nQ cQ] 50 (fun v2 g2 H => ?_)
  refine x_b H [.m, .m] <| x_nil <| x_then <| x_seq <| x_region <| x_b H [.n 1 0 7 25] <| z_call (RNew_yes hL _) ?_
  rintro _ v3 ⟨⟨p, gl, cl, gd, cd, gs, cs⟩, ⟨q, gq, cq⟩, rp, rfl, hN'⟩
  refine ⟨_, rfl, ?_⟩
  replace H := hsCast (H.more hN') (L2 := [.blk rp #[.pointer (some ⟨p, 0, none⟩), .int .i64 (((Rp.new sn pg ns).j).1), .int .i64 (((Rp.new sn pg ns).j).2.1), .int .i64 (((Rp.new sn pg ns).j).2.2.1), .int .i64 (((Rp.new sn pg ns).j).2.2.2), .pointer (some ⟨q, 0, none⟩)] 74, .blk p #[.int .i64 r, .int .i64 s, .int .i64 b, .int .i64 o, .int .i64 c, .int .i64 y, .int .i64 z, .slice (some ⟨gl, 0, none⟩) sn cl, .slice (some ⟨gd, 0, none⟩) pg cd, .slice (some ⟨gs, 0, none⟩) ns cs, .int .i64 (((Rp.new sn pg ns).pu : Nat) : Int), .int .i64 (((Rp.new sn pg ns).ru : Nat) : Int)] 109, .row (.slice (some ⟨gl, 0, none⟩) sn cl) 3 1 sn (List.map (Value.int .i64) ((Rp.new sn pg ns).L)), .row (.slice (some ⟨gd, 0, none⟩) pg cd) 4 1 pg (List.map Value.bool ((Rp.new sn pg ns).D)), .row (.slice (some ⟨gs, 0, none⟩) ns cs) 3 1 ns (List.map (Value.int .i64) ((Rp.new sn pg ns).S)), .blk q #[.slice (some ⟨gq, 0, none⟩) 256 cq, .int .i64 ((0 : Nat) : Int), .int .i64 ((0 : Nat) : Int)] 123, .row (.slice (some ⟨gq, 0, none⟩) 256 cq) 52 2 256 (List.flatMap entL (List.replicate 256 ((0, 0) : Ent))), .blk g2 #[.slice aL sn cL, .slice aD (List.length (deadL D pg)) cD, .slice aS ns cS, .int .i64 (pu : Int), .int .i64 (ru : Int), .int .i64 j.1, .int .i64 j.2.1, .int .i64 j.2.2.1, .int .i64 j.2.2.2, .slice aQ nQ cQ] 50, .blk g1 #[.int .i64 r, .int .i64 s, .int .i64 b, .int .i64 o, .int .i64 c, .int .i64 y, .int .i64 z] 25]) (by kernel_rfl)
  clear hN'
  refine x_b H [.m, .m, .m, .m, .m] <| x_nil <| x_then <| x_seq <| x_seq <| x_region <| x_b H [.m, .m] ?_
  refine x_nil <| x_then <| x_f (by kernel_rfl) <| x_skipc <| x_then <| x_seq <| x_seq ?_
  refine x_region <| x_b H [.m, .n 8 0 7 25, .m, .n 7 0 5 46] <| z_call (restore_map hL hV hv aL aD aS cL cD cS _ (hIL.at H.below) (hID.at H.below) (hIS.at H.below)) ?_
  rintro _ v4 ⟨p2, gl2, cl2, gd2, cd2, gs2, cs2, rfl, hN'⟩
  refine ⟨_, rfl, ?_⟩
  replace H := hsCast (H.more hN') (L2 := [.blk p2 #[.int .i64 r, .int .i64 s, .int .i64 b, .int .i64 o, .int .i64 c, .int .i64 y, .int .i64 z, .slice (some ⟨gl2, 0, none⟩) sn cl2, .slice (some ⟨gd2, 0, none⟩) pg cd2, .slice (some ⟨gs2, 0, none⟩) ns cs2, .int .i64 (pu : Int), .int .i64 (ru : Int)] 109, .row (.slice (some ⟨gl2, 0, none⟩) sn cl2) 3 1 sn (List.map (Value.int .i64) L), .row (.slice (some ⟨gd2, 0, none⟩) pg cd2) 4 1 pg (List.map Value.bool D), .row (.slice (some ⟨gs2, 0, none⟩) ns cs2) 3 1 ns (List.map (Value.int .i64) S), .blk rp #[.pointer (some ⟨p, 0, none⟩), .int .i64 (((Rp.new sn pg ns).j).1), .int .i64 (((Rp.new sn pg ns).j).2.1), .int .i64 (((Rp.new sn pg ns).j).2.2.1), .int .i64 (((Rp.new sn pg ns).j).2.2.2), .pointer (some ⟨q, 0, none⟩)] 74, .blk p #[.int .i64 r, .int .i64 s, .int .i64 b, .int .i64 o, .int .i64 c, .int .i64 y, .int .i64 z, .slice (some ⟨gl, 0, none⟩) sn cl, .slice (some ⟨gd, 0, none⟩) pg cd, .slice (some ⟨gs, 0, none⟩) ns cs, .int .i64 (((Rp.new sn pg ns).pu : Nat) : Int), .int .i64 (((Rp.new sn pg ns).ru : Nat) : Int)] 109, .row (.slice (some ⟨gl, 0, none⟩) sn cl) 3 1 sn (List.map (Value.int .i64) ((Rp.new sn pg ns).L)), .row (.slice (some ⟨gd, 0, none⟩) pg cd) 4 1 pg (List.map Value.bool ((Rp.new sn pg ns).D)), .row (.slice (some ⟨gs, 0, none⟩) ns cs) 3 1 ns (List.map (Value.int .i64) ((Rp.new sn pg ns).S)), .blk q #[.slice (some ⟨gq, 0, none⟩) 256 cq, .int .i64 ((0 : Nat) : Int), .int .i64 ((0 : Nat) : Int)] 123, .row (.slice (some ⟨gq, 0, none⟩) 256 cq) 52 2 256 (List.flatMap entL (List.replicate 256 ((0, 0) : Ent))), .blk g2 #[.slice aL sn cL, .slice aD (List.length (deadL D pg)) cD, .slice aS ns cS, .int .i64 (pu : Int), .int .i64 (ru : Int), .int .i64 j.1, .int .i64 j.2.1, .int .i64 j.2.2.1, .int .i64 j.2.2.2, .slice aQ nQ cQ] 50, .blk g1 #[.int .i64 r, .int .i64 s, .int .i64 b, .int .i64 o, .int .i64 c, .int .i64 y, .int .i64 z] 25]) (by kernel_rfl)
  clear hN'
  refine x_b H [.m, .m, .m, .m, .m] <| z_store H 4 0 [.pointer (some ⟨p2, 0, none⟩)] (fun v5 H => ?_)
  refine x_b H [.m] <| x_nil <| x_then <| x_seq <| x_region <| x_b H [.m, .m] <| x_nil ?_
  refine x_then <| x_f (by kernel_rfl) <| x_skipc <| x_then <| x_seq <| x_seq <| z_region_whole H ?_
  refine q_b [.m, .n 11 5 4 47, .m, .m, .m, .l 4 0] <| q_callR (.bool (decide (jrP r s b o c pg ns D S j))) (by kernel_rfl) (fun _ => by kernel_rfl) (fun _ H => (Right_any hL hV j ht _ (H.ro1 [0, 1, 2, 3]))) <| q_b [.v (.bool (!(decide (jrP r s b o c pg ns D S j)))), .v (.bool (!(decide (jrP r s b o c pg ns D S j))))] ?_
  cases h1 : decide (jrP r s b o c pg ns D S j)
  · skip
    have h1p := of_decide_eq_false h1
    have q := hf; unfold fitJ at q; rw [h1] at q; cases q
  have h1p := of_decide_eq_true h1
  refine q_b [.m, .m, .l 11 5, .v (.bool (!(decide (j.1 = 0)))), .v (.bool (!(decide (j.1 = 0))))] ?_
  cases h2 : decide (j.1 = 0)
  · skip
    have h2p := of_decide_eq_false h2
    refine q_b [.m, .n 11 5 4 47, .n 12 0 7 25] <| q_callB (.bool (!(decide (j.1 = 0)) && decide (j.2.2.2 = (Rp.cnt b o c j)))) (by kernel_rfl) (fun _ => by kernel_rfl) (fun _ => (Done_any hL j _)) <| q_b [.v (.bool (!(decide (j.1 = 0)) && decide (j.2.2.2 = (Rp.cnt b o c j)))), .v (.bool (!(decide (j.1 = 0)) && decide (j.2.2.2 = (Rp.cnt b o c j)))), .v (.bool (!(decide (j.1 = 0)) && decide (j.2.2.2 = (Rp.cnt b o c j))))] ?_
    cases h3 : (!(decide (j.1 = 0)) && decide (j.2.2.2 = (Rp.cnt b o c j)))
    · skip
      refine q_b [.n 11 0 10 50, .n 12 0 7 25] <| q_callR (.bool (tkB r sn L S pu ru j)) (by kernel_rfl) (fun _ => by kernel_rfl) (fun _ H => (taken_of hL hV hv j ht aL aD aS aQ cL cD cS nQ cQ _ (hIL.at H.below) (hIS.at H.below))) <| q_b [.v (.bool (!(tkB r sn L S pu ru j))), .v (.bool (!(tkB r sn L S pu ru j)))] <| q_nil ?_
      clear H
      intro v6 H
      refine z_fr 77 [(3, .pointer (some ⟨g2, 0, none⟩)), (6, .pointer (some ⟨rp, 0, none⟩)), (55, .bool (!(tkB r sn L S pu ru j)))] [] fun uf1 => x_then ?_
      cases h4 : tkB r sn L S pu ru j
      · skip
        have q := hf; unfold fitJ at q; rw [h4] at q; simp at q
      refine x_f (by kernel_rfl) <| x_skipc <| x_then <| x_seq <| x_region <| x_b H [.m, .m, .n 11 5 4 47, .m, .m] <| z_store H 4 1 [.int .i64 j.1, .int .i64 j.2.1, .int .i64 j.2.2.1, .int .i64 j.2.2.2] (fun v7 H => ?_)
      refine x_nil <| x_then <| x_seq <| x_seq <| x_region <| x_b H [.m, .l 11 9, .m, .m] <| x_nil ?_
      refine x_then <| x_block ?_
      replace H := H.pk [9, 10, 4, 0, 1, 2, 3]
      refine x_loop (G := Nat × List Ent × Nat × Nat) (fun gh a w' => match gh with | (k, ls2, ra2, qn2) => ∃ uf2 : Nat → Value, a = frm 77 uf2 [(6, .pointer (some ⟨rp, 0, none⟩)), (62, .slice aQ nQ cQ), (63, .int .i64 (nQ : Int)), (64, .int .i64 (k : Int))] [] ∧ Hs [] w0 w' [.blk q #[.slice (some ⟨gq, 0, none⟩) 256 cq, .int .i64 (ra2 : Int), .int .i64 (qn2 : Int)] 123, .row (.slice (some ⟨gq, 0, none⟩) 256 cq) 52 2 256 (List.flatMap entL ls2), .blk rp #[.pointer (some ⟨p2, 0, none⟩), .int .i64 j.1, .int .i64 j.2.1, .int .i64 j.2.2.1, .int .i64 j.2.2.2, .pointer (some ⟨q, 0, none⟩)] 74, .blk p2 #[.int .i64 r, .int .i64 s, .int .i64 b, .int .i64 o, .int .i64 c, .int .i64 y, .int .i64 z, .slice (some ⟨gl2, 0, none⟩) sn cl2, .slice (some ⟨gd2, 0, none⟩) pg cd2, .slice (some ⟨gs2, 0, none⟩) ns cs2, .int .i64 (pu : Int), .int .i64 (ru : Int)] 109, .row (.slice (some ⟨gl2, 0, none⟩) sn cl2) 3 1 sn (List.map (Value.int .i64) L), .row (.slice (some ⟨gd2, 0, none⟩) pg cd2) 4 1 pg (List.map Value.bool D), .row (.slice (some ⟨gs2, 0, none⟩) ns cs2) 3 1 ns (List.map (Value.int .i64) S)] ∧ (k ≤ nQ) ∧ (RgOk ls2 ra2 qn2 (QA.take k)) ∧ ((QA.take k).Nodup)) (fun gh => match gh with | (k, ls2, ra2, qn2) => nQ - k) (0, (List.replicate 256 ((0, 0) : Ent)), 0, 0) ⟨_, frm_of, H, (Nat.zero_le _), RgOk.new, List.nodup_nil⟩ ?_
      clear H
      rintro ⟨k, ls2, ra2, qn2⟩ _ v8 ⟨uf2, rfl, H, r1, r2, r3⟩
      have hk2 := r2
      have hk8 := hk2.hn
      have hk9 := hk2.hQ
      refine x_seq <| x_region <| x_b H [.v (.bool (decide ((k : Int) < (nQ : Int))))] <| x_nil <| x_then <| x_seq ?_
      cases h5 : decide ((k : Int) < (nQ : Int))
      · skip
        have h5p := of_decide_eq_false h5
        refine x_f (by kernel_rfl) <| x_exit <| x_then_exit <| x_then_exit <| x_blk_exit <| x_then <| x_seq ?_
        refine x_region <| x_b H [.m, .m, .m] <| x_nil <| x_then <| x_retc <| x_ret (.tuple #[.pointer (some ⟨rp, 0, none⟩), .int .i64 0]) (by kernel_rfl) (by kernel_rfl) ?_
        have ek : QA.take k = QA := by rw [show k = QA.length by omega, List.take_length]
        rw [ek] at hk2
        exact ⟨(p2, gl2, cl2, gd2, cd2, gs2, cs2), (q, gq, cq), rp, (ls2, ra2, qn2), rfl, H.pk [2, 3, 4, 5, 6, 0, 1], hk2⟩
      have h5p := of_decide_eq_true h5
      refine x_t (by kernel_rfl) <| x_skipc <| x_then <| x_seq <| x_block <| x_seq <| x_region ?_
      obtain ⟨ga, oa, had, hcell⟩ := hA (by omega)
      refine x_ixO (t := 48) had k nQ cQ 52 2 (oa + k * 2) (by omega) (by omega) (by kernel_rfl) (by kernel_rfl) (by kernel_rfl) rfl (by kernel_rfl) <| x_loadcn (t := 52) ga (oa + k * 2) [.int .i64 ((QA.getD k (0, 0)).1), .int .i64 ((QA.getD k (0, 0)).2)] (hcell _ H.below k (by omega)) (by kernel_rfl) rfl (by kernel_rfl) (by kernel_rfl) <| z_box H #[.int .i64 0, .int .i64 0] 52 (fun v9 g3 H => ?_)
      refine z_store H 0 0 [.int .i64 ((QA.getD k (0, 0)).1), .int .i64 ((QA.getD k (0, 0)).2)] (fun v10 H => ?_)
      refine x_nil <| x_then <| x_seq <| z_region_s H 7 [0, 3, 4, 5, 6, 7] <| s_b [(0, .m), (1, .m), (2, .m), (3, .l 1 5), (4, .n 0 0 2 52)] 2 <| s_one 5 rfl (by kernel_rfl) rfl ?_
      clear H
      intro v11 H
      refine z_call (H.useEP [1, 2] (fun h => ROnce hk2 (QA.getD k (0, 0)) _ h)) ?_
      rintro _ v12 ⟨⟨ls3, ra3, qn3⟩, rfl, H', hk3⟩
      refine ⟨_, rfl, ?_⟩
      clear H
      have H := hsCast H' (L2 := [.blk q #[.slice (some ⟨gq, 0, none⟩) 256 cq, .int .i64 (ra3 : Int), .int .i64 (qn3 : Int)] 123, .row (.slice (some ⟨gq, 0, none⟩) 256 cq) 52 2 256 (List.flatMap entL ls3), .blk g3 #[.int .i64 ((QA.getD k (0, 0)).1), .int .i64 ((QA.getD k (0, 0)).2)] 52, .blk rp #[.pointer (some ⟨p2, 0, none⟩), .int .i64 j.1, .int .i64 j.2.1, .int .i64 j.2.2.1, .int .i64 j.2.2.2, .pointer (some ⟨q, 0, none⟩)] 74, .blk p2 #[.int .i64 r, .int .i64 s, .int .i64 b, .int .i64 o, .int .i64 c, .int .i64 y, .int .i64 z, .slice (some ⟨gl2, 0, none⟩) sn cl2, .slice (some ⟨gd2, 0, none⟩) pg cd2, .slice (some ⟨gs2, 0, none⟩) ns cs2, .int .i64 (pu : Int), .int .i64 (ru : Int)] 109, .row (.slice (some ⟨gl2, 0, none⟩) sn cl2) 3 1 sn (List.map (Value.int .i64) L), .row (.slice (some ⟨gd2, 0, none⟩) pg cd2) 4 1 pg (List.map Value.bool D), .row (.slice (some ⟨gs2, 0, none⟩) ns cs2) 3 1 ns (List.map (Value.int .i64) S)]) (by kernel_rfl)
      clear H'
      refine x_nil <| x_then <| z_next H [0, 1, 2, 3, 4, 5, 6, 7] [2, 3, 4, 5, 6, 7] rfl <| s_b [(6, .v (.bool (!(decide ((onE (QA.take k) (QA.getD k (0, 0))) = 0)))))] 0 <| s_done (by kernel_rfl) ?_
      clear H
      intro v13 H
      refine x_then ?_
      cases h6 : decide ((onE (QA.take k) (QA.getD k (0, 0))) = 0)
      · skip
        have h6p := of_decide_eq_false h6
        rcases onE_ne h6p with q | q; exact absurd q (nodup_next hq.1 (by omega)); (exfalso; have := hq.2; rw [List.length_take] at q; omega)
      have h6p := of_decide_eq_true h6
      refine x_f (by kernel_rfl) <| x_skipc <| x_blk <| x_then <| x_region <| z_ar ((k : Int) + 1) <| x_b H [.m] ?_
      refine x_nil <| x_then ?_
      replace H := H.pk [0, 1, 3, 4, 5, 6, 7]
      exact ⟨(k + 1, ls3, ra3, qn3), (by dsimp only; omega), _, frm_of, H, (by omega), (by rw [takeE_next (by omega), ← (onE_zero h6p).2.2]; exact hk3), (by rw [takeE_next (by omega)]; exact nodup_snoc r3 (onE_zero h6p).1)⟩
    have q := hf; unfold fitJ at q; rw [h1, h3] at q; cases q
  have h2p := of_decide_eq_true h2
  refine q_b [.k, .k, .k, .k, .m, .m, .m, .n 11 0 10 50, .n 12 0 7 25] <| q_callR (.bool (tkB r sn L S pu ru j)) (by kernel_rfl) (fun _ => by kernel_rfl) (fun _ H => (taken_of hL hV hv j ht aL aD aS aQ cL cD cS nQ cQ _ (hIL.at H.below) (hIS.at H.below))) <| q_b [.v (.bool (!(tkB r sn L S pu ru j))), .v (.bool (!(tkB r sn L S pu ru j)))] <| q_nil ?_
  clear H
  intro v14 H
  refine z_fr 77 [(3, .pointer (some ⟨g2, 0, none⟩)), (6, .pointer (some ⟨rp, 0, none⟩)), (55, .bool (!(tkB r sn L S pu ru j)))] [] fun uf3 => x_then ?_
  cases h7 : tkB r sn L S pu ru j
  · skip
    have q := hf; unfold fitJ at q; rw [h7] at q; simp at q
  refine x_f (by kernel_rfl) <| x_skipc <| x_then <| x_seq <| x_region <| x_b H [.m, .m, .n 11 5 4 47, .m, .m] <| z_store H 4 1 [.int .i64 j.1, .int .i64 j.2.1, .int .i64 j.2.2.1, .int .i64 j.2.2.2] (fun v15 H => ?_)
  refine x_nil <| x_then <| x_seq <| x_seq <| x_region <| x_b H [.m, .l 11 9, .m, .m] <| x_nil ?_
  refine x_then <| x_block ?_
  replace H := H.pk [9, 10, 4, 0, 1, 2, 3]
  refine x_loop (G := Nat × List Ent × Nat × Nat) (fun gh a w' => match gh with | (k, ls2, ra2, qn2) => ∃ uf4 : Nat → Value, a = frm 77 uf4 [(6, .pointer (some ⟨rp, 0, none⟩)), (62, .slice aQ nQ cQ), (63, .int .i64 (nQ : Int)), (64, .int .i64 (k : Int))] [] ∧ Hs [] w0 w' [.blk q #[.slice (some ⟨gq, 0, none⟩) 256 cq, .int .i64 (ra2 : Int), .int .i64 (qn2 : Int)] 123, .row (.slice (some ⟨gq, 0, none⟩) 256 cq) 52 2 256 (List.flatMap entL ls2), .blk rp #[.pointer (some ⟨p2, 0, none⟩), .int .i64 j.1, .int .i64 j.2.1, .int .i64 j.2.2.1, .int .i64 j.2.2.2, .pointer (some ⟨q, 0, none⟩)] 74, .blk p2 #[.int .i64 r, .int .i64 s, .int .i64 b, .int .i64 o, .int .i64 c, .int .i64 y, .int .i64 z, .slice (some ⟨gl2, 0, none⟩) sn cl2, .slice (some ⟨gd2, 0, none⟩) pg cd2, .slice (some ⟨gs2, 0, none⟩) ns cs2, .int .i64 (pu : Int), .int .i64 (ru : Int)] 109, .row (.slice (some ⟨gl2, 0, none⟩) sn cl2) 3 1 sn (List.map (Value.int .i64) L), .row (.slice (some ⟨gd2, 0, none⟩) pg cd2) 4 1 pg (List.map Value.bool D), .row (.slice (some ⟨gs2, 0, none⟩) ns cs2) 3 1 ns (List.map (Value.int .i64) S)] ∧ (k ≤ nQ) ∧ (RgOk ls2 ra2 qn2 (QA.take k)) ∧ ((QA.take k).Nodup)) (fun gh => match gh with | (k, ls2, ra2, qn2) => nQ - k) (0, (List.replicate 256 ((0, 0) : Ent)), 0, 0) ⟨_, frm_of, H, (Nat.zero_le _), RgOk.new, List.nodup_nil⟩ ?_
  clear H
  rintro ⟨k, ls2, ra2, qn2⟩ _ v16 ⟨uf4, rfl, H, r1, r2, r3⟩
  have hk2 := r2
  have hk8 := hk2.hn
  have hk9 := hk2.hQ
  refine x_seq <| x_region <| x_b H [.v (.bool (decide ((k : Int) < (nQ : Int))))] <| x_nil <| x_then <| x_seq ?_
  cases h8 : decide ((k : Int) < (nQ : Int))
  · skip
    have h8p := of_decide_eq_false h8
    refine x_f (by kernel_rfl) <| x_exit <| x_then_exit <| x_then_exit <| x_blk_exit <| x_then <| x_seq ?_
    refine x_region <| x_b H [.m, .m, .m] <| x_nil <| x_then <| x_retc <| x_ret (.tuple #[.pointer (some ⟨rp, 0, none⟩), .int .i64 0]) (by kernel_rfl) (by kernel_rfl) ?_
    have ek : QA.take k = QA := by rw [show k = QA.length by omega, List.take_length]
    rw [ek] at hk2
    exact ⟨(p2, gl2, cl2, gd2, cd2, gs2, cs2), (q, gq, cq), rp, (ls2, ra2, qn2), rfl, H.pk [2, 3, 4, 5, 6, 0, 1], hk2⟩
  have h8p := of_decide_eq_true h8
  refine x_t (by kernel_rfl) <| x_skipc <| x_then <| x_seq <| x_block <| x_seq <| x_region ?_
  obtain ⟨ga, oa, had, hcell⟩ := hA (by omega)
  refine x_ixO (t := 48) had k nQ cQ 52 2 (oa + k * 2) (by omega) (by omega) (by kernel_rfl) (by kernel_rfl) (by kernel_rfl) rfl (by kernel_rfl) <| x_loadcn (t := 52) ga (oa + k * 2) [.int .i64 ((QA.getD k (0, 0)).1), .int .i64 ((QA.getD k (0, 0)).2)] (hcell _ H.below k (by omega)) (by kernel_rfl) rfl (by kernel_rfl) (by kernel_rfl) <| z_box H #[.int .i64 0, .int .i64 0] 52 (fun v17 g4 H => ?_)
  refine z_store H 0 0 [.int .i64 ((QA.getD k (0, 0)).1), .int .i64 ((QA.getD k (0, 0)).2)] (fun v18 H => ?_)
  refine x_nil <| x_then <| x_seq <| z_region_s H 7 [0, 3, 4, 5, 6, 7] <| s_b [(0, .m), (1, .m), (2, .m), (3, .l 1 5), (4, .n 0 0 2 52)] 2 <| s_one 5 rfl (by kernel_rfl) rfl ?_
  clear H
  intro v19 H
  refine z_call (H.useEP [1, 2] (fun h => ROnce hk2 (QA.getD k (0, 0)) _ h)) ?_
  rintro _ v20 ⟨⟨ls3, ra3, qn3⟩, rfl, H', hk3⟩
  refine ⟨_, rfl, ?_⟩
  clear H
  have H := hsCast H' (L2 := [.blk q #[.slice (some ⟨gq, 0, none⟩) 256 cq, .int .i64 (ra3 : Int), .int .i64 (qn3 : Int)] 123, .row (.slice (some ⟨gq, 0, none⟩) 256 cq) 52 2 256 (List.flatMap entL ls3), .blk g4 #[.int .i64 ((QA.getD k (0, 0)).1), .int .i64 ((QA.getD k (0, 0)).2)] 52, .blk rp #[.pointer (some ⟨p2, 0, none⟩), .int .i64 j.1, .int .i64 j.2.1, .int .i64 j.2.2.1, .int .i64 j.2.2.2, .pointer (some ⟨q, 0, none⟩)] 74, .blk p2 #[.int .i64 r, .int .i64 s, .int .i64 b, .int .i64 o, .int .i64 c, .int .i64 y, .int .i64 z, .slice (some ⟨gl2, 0, none⟩) sn cl2, .slice (some ⟨gd2, 0, none⟩) pg cd2, .slice (some ⟨gs2, 0, none⟩) ns cs2, .int .i64 (pu : Int), .int .i64 (ru : Int)] 109, .row (.slice (some ⟨gl2, 0, none⟩) sn cl2) 3 1 sn (List.map (Value.int .i64) L), .row (.slice (some ⟨gd2, 0, none⟩) pg cd2) 4 1 pg (List.map Value.bool D), .row (.slice (some ⟨gs2, 0, none⟩) ns cs2) 3 1 ns (List.map (Value.int .i64) S)]) (by kernel_rfl)
  clear H'
  refine x_nil <| x_then <| z_next H [0, 1, 2, 3, 4, 5, 6, 7] [2, 3, 4, 5, 6, 7] rfl <| s_b [(6, .v (.bool (!(decide ((onE (QA.take k) (QA.getD k (0, 0))) = 0)))))] 0 <| s_done (by kernel_rfl) ?_
  clear H
  intro v21 H
  refine x_then ?_
  cases h9 : decide ((onE (QA.take k) (QA.getD k (0, 0))) = 0)
  · skip
    have h9p := of_decide_eq_false h9
    rcases onE_ne h9p with q | q; exact absurd q (nodup_next hq.1 (by omega)); (exfalso; have := hq.2; rw [List.length_take] at q; omega)
  have h9p := of_decide_eq_true h9
  refine x_f (by kernel_rfl) <| x_skipc <| x_blk <| x_then <| x_region <| z_ar ((k : Int) + 1) <| x_b H [.m] ?_
  refine x_nil <| x_then ?_
  replace H := H.pk [0, 1, 3, 4, 5, 6, 7]
  exact ⟨(k + 1, ls3, ra3, qn3), (by dsimp only; omega), _, frm_of, H, (by omega), (by rw [takeE_next (by omega), ← (onE_zero h9p).2.2]; exact hk3), (by rw [takeE_next (by omega)]; exact nodup_snoc r3 (onE_zero h9p).1)⟩
set_option maxRecDepth 100000 in
set_option maxHeartbeats 4000000 in
theorem Rst_nol (r s b o c y z : Int) (hbd : r ≤ 9223372036854775807 ∧ b ≤ 9223372036854775807 ∧ o ≤ 9223372036854775807 ∧ c ≤ 9223372036854775807) (hok : layoutOk r s b o c y z = false) (st10 : Value) (w0 : World) :
    Calls Tryz.prog 7 #[.agg #[.int .i64 r, .int .i64 s, .int .i64 b, .int .i64 o, .int .i64 c, .int .i64 y, .int .i64 z], .agg #[.slice none 0 0, .slice none 0 0, .slice none 0 0, .int .i64 0, .int .i64 0, .int .i64 0, .int .i64 0, .int .i64 0, .int .i64 0, .slice none 0 0]] w0 fun e w' => e = .returned (.tuple #[.pointer none, .int .i64 22]) ∧ Below w0.heap.size w0 w' := by
  refine z_enter Tryz.func7 rfl ?_
  have H := Hs.nil w0
  obtain ⟨hb1, hb2, hb3, hb4⟩ := id hbd
  refine x_seq <| x_region <| z_box H #[.int .i64 r, .int .i64 s, .int .i64 b, .int .i64 o, .int .i64 c, .int .i64 y, .int .i64 z] 25 (fun v1 g1 H => ?_)
  refine z_box H #[.slice none 0 0, .slice none 0 0, .slice none 0 0, .int .i64 0, .int .i64 0, .int .i64 0, .int .i64 0, .int .i64 0, .int .i64 0, .slice none 0 0] 50 (fun v2 g2 H => ?_)
  refine x_b H [.m, .m] <| x_nil <| x_then <| x_seq <| x_region <| x_b H [.n 1 0 7 25] <| z_callB H (RNew_no r s b o c y z hbd hok _) fun v3 H => ?_
  refine x_b H [.m, .m, .m, .m, .m] <| x_nil <| x_then <| x_seq <| x_seq <| x_region <| x_b H [.m, .m] ?_
  refine x_nil <| x_then <| x_t (by kernel_rfl) <| x_seq <| x_region <| x_b H [.m, .m, .m] <| x_nil ?_
  refine x_then <| x_retc <| x_then_ret <| x_ret (.tuple #[.pointer none, .int .i64 22]) (by kernel_rfl) (by kernel_rfl) ?_
  exact ⟨rfl, H.below⟩
set_option maxRecDepth 100000 in
set_option maxHeartbeats 4000000 in
theorem State21 {M : List Nat} {r s b o c y z : Int} {pg sn ns : Nat} (hL : Lay r s b o c y z pg sn ns) {p gl cl gd cd gs cs q gq cq rp : Nat} {x : Rp} {ls : List Ent} {ra qn : Nat} (hx : RpOk r s b o c z sn pg ns x) (hk : RgOk ls ra qn x.Q) (w0 : World) (H0 : Hs M w0 w0 [.blk rp #[.pointer (some ⟨p, 0, none⟩), .int .i64 x.j.1, .int .i64 x.j.2.1, .int .i64 x.j.2.2.1, .int .i64 x.j.2.2.2, .pointer (some ⟨q, 0, none⟩)] 74, .blk p #[.int .i64 r, .int .i64 s, .int .i64 b, .int .i64 o, .int .i64 c, .int .i64 y, .int .i64 z, .slice (some ⟨gl, 0, none⟩) sn cl, .slice (some ⟨gd, 0, none⟩) pg cd, .slice (some ⟨gs, 0, none⟩) ns cs, .int .i64 ((x.pu : Nat) : Int), .int .i64 ((x.ru : Nat) : Int)] 109, .row (.slice (some ⟨gl, 0, none⟩) sn cl) 3 1 sn (List.map (Value.int .i64) x.L), .row (.slice (some ⟨gd, 0, none⟩) pg cd) 4 1 pg (List.map Value.bool x.D), .row (.slice (some ⟨gs, 0, none⟩) ns cs) 3 1 ns (List.map (Value.int .i64) x.S), .blk q #[.slice (some ⟨gq, 0, none⟩) 256 cq, .int .i64 ((ra : Nat) : Int), .int .i64 ((qn : Nat) : Int)] 123, .row (.slice (some ⟨gq, 0, none⟩) 256 cq) 52 2 256 (List.flatMap entL ls)]) :
    Calls Tryz.prog 9 #[.pointer (some ⟨rp, 0, none⟩)] w0 fun e w' => ∃ z4 : Value × Value × Value × Value, e = .returned (.agg #[z4.1, z4.2.1, z4.2.2.1, .int .i64 ((x.pu : Nat) : Int), .int .i64 ((x.ru : Nat) : Int), .int .i64 x.j.1, .int .i64 x.j.2.1, .int .i64 x.j.2.2.1, .int .i64 x.j.2.2.2, z4.2.2.2]) ∧ Hs M w0 w' [.blk rp #[.pointer (some ⟨p, 0, none⟩), .int .i64 x.j.1, .int .i64 x.j.2.1, .int .i64 x.j.2.2.1, .int .i64 x.j.2.2.2, .pointer (some ⟨q, 0, none⟩)] 74, .blk p #[.int .i64 r, .int .i64 s, .int .i64 b, .int .i64 o, .int .i64 c, .int .i64 y, .int .i64 z, .slice (some ⟨gl, 0, none⟩) sn cl, .slice (some ⟨gd, 0, none⟩) pg cd, .slice (some ⟨gs, 0, none⟩) ns cs, .int .i64 ((x.pu : Nat) : Int), .int .i64 ((x.ru : Nat) : Int)] 109, .row (.slice (some ⟨gl, 0, none⟩) sn cl) 3 1 sn (List.map (Value.int .i64) x.L), .row (.slice (some ⟨gd, 0, none⟩) pg cd) 4 1 pg (List.map Value.bool x.D), .row (.slice (some ⟨gs, 0, none⟩) ns cs) 3 1 ns (List.map (Value.int .i64) x.S), .blk q #[.slice (some ⟨gq, 0, none⟩) 256 cq, .int .i64 ((ra : Nat) : Int), .int .i64 ((qn : Nat) : Int)] 123, .row (.slice (some ⟨gq, 0, none⟩) 256 cq) 52 2 256 (List.flatMap entL ls), .row (z4.1) 3 1 sn (List.map (Value.int .i64) x.L), .row (z4.2.1) 3 1 (List.length (deadL x.D pg)) (List.map (Value.int .i64) (deadL x.D pg)), .row (z4.2.2.1) 3 1 (List.length (spL x.S)) (List.map (Value.int .i64) (spL x.S)), .row (z4.2.2.2) 52 2 (List.length x.Q) (List.flatMap entL x.Q)] := by
  refine x_enterM Tryz.func9 rfl #[.pointer (some ⟨rp, 0, none⟩), undef, undef, undef, undef, undef, undef, undef, undef, undef, undef, undef, undef, undef, undef, undef, undef, undef, undef, undef, undef, undef, undef, undef, undef, undef, undef, undef, undef, undef] (by kernel_rfl) ?_
  have H := H0
  have hok := hL.ok
  obtain ⟨-, r1', r8, s0, s8, b1, b2, o1, o2, c1, c2, y0, y4, z0, z2, hpg, hsn, hns, sn1, pg2, ln0, ln2⟩ := id hL
  refine x_seq <| x_region <| z_box H #[.slice none 0 0, .slice none 0 0, .slice none 0 0, .int .i64 0, .int .i64 0, .int .i64 0, .int .i64 0, .int .i64 0, .int .i64 0, .slice none 0 0] 50 (fun v1 g1 H => ?_)
  refine x_nil <| x_then <| x_seq <| z_region_s H 12 [0, 1, 2, 3, 4, 5, 6, 7] <| s_b [(0, .m), (1, .m), (2, .m), (3, .l 1 0), (5, .m), (6, .m), (7, .m), (8, .n 1 1 4 47)] 4 <| s_two 4 10 rfl rfl (by kernel_rfl) rfl rfl ?_ ?_
  · skip
    clear H
    intro v2 H
    refine z_call (H.useEI [2, 3, 4, 5] (fun h => State_of hL hx.v _ h)) ?_
    rintro _ v3 ⟨⟨za, zb, zc⟩, rfl, H'⟩
    refine ⟨_, rfl, ?_⟩
    clear H
    have H := hsCast H' (L2 := [.blk p #[.int .i64 r, .int .i64 s, .int .i64 b, .int .i64 o, .int .i64 c, .int .i64 y, .int .i64 z, .slice (some ⟨gl, 0, none⟩) sn cl, .slice (some ⟨gd, 0, none⟩) pg cd, .slice (some ⟨gs, 0, none⟩) ns cs, .int .i64 ((x.pu : Nat) : Int), .int .i64 ((x.ru : Nat) : Int)] 109, .row (.slice (some ⟨gl, 0, none⟩) sn cl) 3 1 sn (List.map (Value.int .i64) x.L), .row (.slice (some ⟨gd, 0, none⟩) pg cd) 4 1 pg (List.map Value.bool x.D), .row (.slice (some ⟨gs, 0, none⟩) ns cs) 3 1 ns (List.map (Value.int .i64) x.S), .row (za) 3 1 sn (List.map (Value.int .i64) x.L), .row (zb) 3 1 (List.length (deadL x.D pg)) (List.map (Value.int .i64) (deadL x.D pg)), .row (zc) 3 1 (List.length (spL x.S)) (List.map (Value.int .i64) (spL x.S)), .blk g1 #[.slice none 0 0, .slice none 0 0, .slice none 0 0, .int .i64 0, .int .i64 0, .int .i64 0, .int .i64 0, .int .i64 0, .int .i64 0, .slice none 0 0] 50, .blk rp #[.pointer (some ⟨p, 0, none⟩), .int .i64 x.j.1, .int .i64 x.j.2.1, .int .i64 x.j.2.2.1, .int .i64 x.j.2.2.2, .pointer (some ⟨q, 0, none⟩)] 74, .blk q #[.slice (some ⟨gq, 0, none⟩) 256 cq, .int .i64 (ra : Int), .int .i64 (qn : Int)] 123, .row (.slice (some ⟨gq, 0, none⟩) 256 cq) 52 2 256 (List.flatMap entL ls)]) (by kernel_rfl)
    clear H'
    refine x_nil <| x_then <| z_next H [0, 1, 2, 3, 4, 5, 6, 7, 8, 9, 10] [7, 8, 0, 1, 2, 3, 9, 10] rfl <| s_b [(9, .m)] 2 <| s_one 10 rfl (by kernel_rfl) rfl ?_
    clear H
    intro v4 H
    refine z_box H #[.slice none 0 0, .slice none 0 0, .slice none 0 0, .int .i64 0, .int .i64 0, .int .i64 0, .int .i64 0, .int .i64 0, .int .i64 0, .slice none 0 0] 50 (fun v5 g2 H => ?_)
    refine x_nil <| x_then <| z_next H [1, 2, 3, 4, 5, 6, 7, 8, 9, 10, 11] [0, 1, 2, 3, 4, 5, 6, 7, 8, 9, 10] rfl <| s_one 11 rfl (by kernel_rfl) rfl ?_
    clear H
    intro v6 H
    have h1o := H.rowOne 5 rfl
    have h2o := H.rowOne 6 rfl
    have h3o := H.rowOne 7 rfl
    refine z_store H 0 0 [za, zb, zc, .int .i64 ((x.pu : Nat) : Int), .int .i64 ((x.ru : Nat) : Int), .int .i64 x.j.1, .int .i64 x.j.2.1, .int .i64 x.j.2.2.1, .int .i64 x.j.2.2.2, .slice none 0 0] (fun v7 H => ?_) (h1 := (by simp only [List.all_cons, List.all_nil, h1o, h2o, h3o, Bool.and_true, Bool.true_and] <;> rfl))
    refine x_nil <| x_then <| z_next H [0, 1, 2, 3, 4, 5, 6, 7, 8, 9, 10, 11] [1, 2, 3, 4, 5, 6, 7, 8, 9, 10, 11] rfl <| s_done (by kernel_rfl) ?_
    clear H
    intro v8 H
    refine x_then <| x_seq <| x_seq <| x_region <| x_b H [.m, .m, .m, .l 9 5] <| z_call (RAll q _) ?_
    rintro _ v9 ⟨qp, rfl, hN'⟩
    refine ⟨_, rfl, ?_⟩
    replace H := H.more hN'
    clear hN'
    refine x_nil <| x_then <| x_block ?_
    replace H := H.nilRow 52 2
    replace H := hsCast (H.pk [1, 12, 13, 11, 3, 4, 5, 6, 7, 8, 9, 10, 0, 2]) (L2 := [.blk qp #[.pointer (some ⟨q, 0, none⟩)] 72, .blk q #[.slice (some ⟨gq, 0, none⟩) 256 cq, .int .i64 (ra : Int), .int .i64 (qn : Int)] 123, .row (.slice (some ⟨gq, 0, none⟩) 256 cq) 52 2 256 (List.flatMap entL ls), .blk rp #[.pointer (some ⟨p, 0, none⟩), .int .i64 x.j.1, .int .i64 x.j.2.1, .int .i64 x.j.2.2.1, .int .i64 x.j.2.2.2, .pointer (some ⟨q, 0, none⟩)] 74, .blk p #[.int .i64 r, .int .i64 s, .int .i64 b, .int .i64 o, .int .i64 c, .int .i64 y, .int .i64 z, .slice (some ⟨gl, 0, none⟩) sn cl, .slice (some ⟨gd, 0, none⟩) pg cd, .slice (some ⟨gs, 0, none⟩) ns cs, .int .i64 ((x.pu : Nat) : Int), .int .i64 ((x.ru : Nat) : Int)] 109, .row (.slice (some ⟨gl, 0, none⟩) sn cl) 3 1 sn (List.map (Value.int .i64) x.L), .row (.slice (some ⟨gd, 0, none⟩) pg cd) 4 1 pg (List.map Value.bool x.D), .row (.slice (some ⟨gs, 0, none⟩) ns cs) 3 1 ns (List.map (Value.int .i64) x.S), .row (za) 3 1 sn (List.map (Value.int .i64) x.L), .row (zb) 3 1 (List.length (deadL x.D pg)) (List.map (Value.int .i64) (deadL x.D pg)), .row (zc) 3 1 (List.length (spL x.S)) (List.map (Value.int .i64) (spL x.S)), .blk g1 #[.slice none 0 0, .slice none 0 0, .slice none 0 0, .int .i64 0, .int .i64 0, .int .i64 0, .int .i64 0, .int .i64 0, .int .i64 0, .slice none 0 0] 50, .row (.slice none 0 0) 52 2 (List.length (List.map Prod.snd ([] : List QEnt))) (List.flatMap entL (List.map Prod.snd ([] : List QEnt))), .blk g2 #[za, zb, zc, .int .i64 ((x.pu : Nat) : Int), .int .i64 ((x.ru : Nat) : Int), .int .i64 x.j.1, .int .i64 x.j.2.1, .int .i64 x.j.2.2.1, .int .i64 x.j.2.2.2, .slice none 0 0] 50]) (by kernel_rfl)
    replace H := H.pk [0, 1, 2, 3, 4, 5, 6, 7, 8, 9, 10, 11, 12, 13]
    refine x_range3 (α := QEnt) (G := Value) (idxQ x.Q) (fun xq => #[.int .i64 ((xq.1 : Nat) : Int), .agg #[.int .i64 xq.2.1, .int .i64 xq.2.2]]) [.blk qp #[.pointer (some ⟨q, 0, none⟩)] 72, .blk q #[.slice (some ⟨gq, 0, none⟩) 256 cq, .int .i64 (ra : Int), .int .i64 (qn : Int)] 123, .row (.slice (some ⟨gq, 0, none⟩) 256 cq) 52 2 256 (List.flatMap entL ls)] [0, 1, 2] (fun pre (av : Value) => pre.length ≤ 256) (fun pre (av : Value) => [.blk qp #[.pointer (some ⟨q, 0, none⟩)] 72, .blk q #[.slice (some ⟨gq, 0, none⟩) 256 cq, .int .i64 (ra : Int), .int .i64 (qn : Int)] 123, .row (.slice (some ⟨gq, 0, none⟩) 256 cq) 52 2 256 (List.flatMap entL ls), .blk rp #[.pointer (some ⟨p, 0, none⟩), .int .i64 x.j.1, .int .i64 x.j.2.1, .int .i64 x.j.2.2.1, .int .i64 x.j.2.2.2, .pointer (some ⟨q, 0, none⟩)] 74, .blk p #[.int .i64 r, .int .i64 s, .int .i64 b, .int .i64 o, .int .i64 c, .int .i64 y, .int .i64 z, .slice (some ⟨gl, 0, none⟩) sn cl, .slice (some ⟨gd, 0, none⟩) pg cd, .slice (some ⟨gs, 0, none⟩) ns cs, .int .i64 ((x.pu : Nat) : Int), .int .i64 ((x.ru : Nat) : Int)] 109, .row (.slice (some ⟨gl, 0, none⟩) sn cl) 3 1 sn (List.map (Value.int .i64) x.L), .row (.slice (some ⟨gd, 0, none⟩) pg cd) 4 1 pg (List.map Value.bool x.D), .row (.slice (some ⟨gs, 0, none⟩) ns cs) 3 1 ns (List.map (Value.int .i64) x.S), .row (za) 3 1 sn (List.map (Value.int .i64) x.L), .row (zb) 3 1 (List.length (deadL x.D pg)) (List.map (Value.int .i64) (deadL x.D pg)), .row (zc) 3 1 (List.length (spL x.S)) (List.map (Value.int .i64) (spL x.S)), .blk g1 #[.slice none 0 0, .slice none 0 0, .slice none 0 0, .int .i64 0, .int .i64 0, .int .i64 0, .int .i64 0, .int .i64 0, .int .i64 0, .slice none 0 0] 50, .row (av) 52 2 (List.length (List.map Prod.snd pre)) (List.flatMap entL (List.map Prod.snd pre)), .blk g2 #[za, zb, zc, .int .i64 ((x.pu : Nat) : Int), .int .i64 ((x.ru : Nat) : Int), .int .i64 x.j.1, .int .i64 x.j.2.1, .int .i64 x.j.2.2.1, .int .i64 x.j.2.2.2, av] 50]) (fun cd pre (av : Value) => False) (fun xq => #[.int .i64 xq.2.1, .int .i64 xq.2.2]) 52 (fun xq bq => { tmps := #[.pointer (some ⟨rp, 0, none⟩), undef, .pointer (some ⟨g1, 0, none⟩), .pointer (some ⟨g2, 0, none⟩), undef, .pointer (some ⟨bq, 0, none⟩), .pointer (some ⟨rp, 0, none⟩), .pointer (some ⟨rp, 0, none⟩), .pointer (some ⟨rp, 0, none⟩), .pointer (some ⟨p, 0, none⟩), .agg #[za, zb, zc, .int .i64 ((x.pu : Nat) : Int), .int .i64 ((x.ru : Nat) : Int)], .pointer (some ⟨rp, 0, none⟩), .pointer (some ⟨rp, 0, none⟩), .pointer (some ⟨rp, 1, none⟩), .agg #[.int .i64 x.j.1, .int .i64 x.j.2.1, .int .i64 x.j.2.2.1, .int .i64 x.j.2.2.2], .agg #[za, zb, zc, .int .i64 ((x.pu : Nat) : Int), .int .i64 ((x.ru : Nat) : Int), .int .i64 x.j.1, .int .i64 x.j.2.1, .int .i64 x.j.2.2.1, .int .i64 x.j.2.2.2, .slice none 0 0], .pointer (some ⟨rp, 0, none⟩), .pointer (some ⟨rp, 0, none⟩), .pointer (some ⟨rp, 5, none⟩), .pointer (some ⟨q, 0, none⟩), .func (.func 69) #[] #[.pointer (some ⟨qp, 0, none⟩)], .int .i64 ((xq.1 : Nat) : Int), .agg #[.int .i64 xq.2.1, .int .i64 xq.2.2], undef, undef, undef, undef, undef, undef, undef], defers := [] }) (.slice none 0 0) (by kernel_rfl) (enters_of Tryz.func69 (by kernel_rfl) rfl) (rvals hk _ (H.roOf [0, 1, 2] _ (by kernel_rfl))) (fun _ => rfl) rfl (by rintro _ av; rfl) (by rintro _ av; rfl) H (Nat.zero_le _) ?_ ?_ ?_ ?_
    · skip
      clear H
      rintro lrnd pre xq av W1 hI H
      refine x_at (b := { tmps := #[.pointer (some ⟨rp, 0, none⟩), undef, .pointer (some ⟨g1, 0, none⟩), .pointer (some ⟨g2, 0, none⟩), undef, undef, .pointer (some ⟨rp, 0, none⟩), .pointer (some ⟨rp, 0, none⟩), .pointer (some ⟨rp, 0, none⟩), .pointer (some ⟨p, 0, none⟩), .agg #[za, zb, zc, .int .i64 ((x.pu : Nat) : Int), .int .i64 ((x.ru : Nat) : Int)], .pointer (some ⟨rp, 0, none⟩), .pointer (some ⟨rp, 0, none⟩), .pointer (some ⟨rp, 1, none⟩), .agg #[.int .i64 x.j.1, .int .i64 x.j.2.1, .int .i64 x.j.2.2.1, .int .i64 x.j.2.2.2], .agg #[za, zb, zc, .int .i64 ((x.pu : Nat) : Int), .int .i64 ((x.ru : Nat) : Int), .int .i64 x.j.1, .int .i64 x.j.2.1, .int .i64 x.j.2.2.1, .int .i64 x.j.2.2.2, .slice none 0 0], .pointer (some ⟨rp, 0, none⟩), .pointer (some ⟨rp, 0, none⟩), .pointer (some ⟨rp, 5, none⟩), .pointer (some ⟨q, 0, none⟩), .func (.func 69) #[] #[.pointer (some ⟨qp, 0, none⟩)], .int .i64 ((xq.1 : Nat) : Int), .agg #[.int .i64 xq.2.1, .int .i64 xq.2.2], undef, undef, undef, undef, undef, undef, undef], defers := [] }) (by kernel_rfl) ?_
      refine x_region <| z_box H #[.int .i64 0, .int .i64 0] 52 (fun v10 g3 H => ?_)
      refine z_store H 0 0 [.int .i64 xq.2.1, .int .i64 xq.2.2] (fun v11 H => ?_)
      refine x_nil <| x_then ?_
      exact ⟨g3, (by kernel_rfl), H⟩
    · skip
      clear H
      rintro lrnd pre xq av bq W1 hI hlen hb H
      have hlq := idxQ_len x.Q
      have hqlr := hx.ql
      have hI' : pre.length ≤ 256 := hI
      refine x_block <| x_region <| x_b H [.m, .l 13 9] <| x_loadcn (t := 52) bq 0 [.int .i64 xq.2.1, .int .i64 xq.2.2] ((fun j v hj => cellOf hb (by simpa using hj))) (by kernel_rfl) rfl (by kernel_rfl) (by kernel_rfl) <| x_box' H #[.int .i64 xq.2.1, .int .i64 xq.2.2] 52 1 (by kernel_rfl) rfl (by kernel_rfl) ?_
      clear H
      intro v12 g4 H
      refine x_append H 13 (av) 48 52 2 16 (List.length (List.map Prod.snd pre)) (.agg #[.int .i64 0, .int .i64 0]) (List.flatMap entL (List.map Prod.snd pre)) ⟨g4, 0, none⟩ 1 1 [.int .i64 xq.2.1, .int .i64 xq.2.2] rfl (by kernel_rfl) (by kernel_rfl) rfl (by decide) (by decide) rfl (fun j u hj => by rw [add_none]; exact cellOf (H.blk 0 rfl) (by simpa using hj)) (List.all_eq_true.1 (by kernel_rfl)) (by rw [List.length_map]; unfold maxLen; omega) (by rw [List.length_map]; omega) (by kernel_rfl) rfl (by kernel_rfl) ?_
      clear H
      intro v13 g5 c5 hc5 H
      rw [show (((List.length (List.map Prod.snd pre)) + 1) : Nat) = (List.length (List.map Prod.snd (pre ++ [xq]))) from (by simp)] at H ⊢
      rw [show (List.flatMap entL (List.map Prod.snd pre)) ++ [.int .i64 xq.2.1, .int .i64 xq.2.2] = (List.flatMap entL (List.map Prod.snd (pre ++ [xq]))) from (mapE_snoc pre Prod.snd xq)] at H
      replace H := H.pk [1, 2, 3, 4, 5, 6, 7, 8, 9, 10, 11, 12, 13, 14]
      refine x_b H [.m] <| z_store H 13 9 [.slice (some ⟨g5, 0, none⟩) (List.length (List.map Prod.snd (pre ++ [xq]))) c5] (fun v14 H => ?_)
      refine x_nil <| x_blk ?_
      replace H := H.pk [0, 1, 2, 3, 4, 5, 6, 7, 8, 9, 10, 11, 12, 13]
      exact ⟨(.slice (some ⟨g5, 0, none⟩) (List.length (List.map Prod.snd (pre ++ [xq]))) c5), (by show (pre ++ [xq]).length ≤ 256; rw [List.length_append]; show pre.length + 1 ≤ 256; omega), H⟩
    · skip
      clear H
      rintro Dq_ av W1 hI H
      refine x_blk <| x_then <| x_seq <| x_region <| x_b H [.n 14 0 10 50] ?_
      have h4o := H.rowOne 9 rfl
      have h5o := H.rowOne 10 rfl
      have h6o := H.rowOne 11 rfl
      have h7o := H.rowOne 13 rfl
      refine z_store H 12 0 [za, zb, zc, .int .i64 ((x.pu : Nat) : Int), .int .i64 ((x.ru : Nat) : Int), .int .i64 x.j.1, .int .i64 x.j.2.1, .int .i64 x.j.2.2.1, .int .i64 x.j.2.2.2, av] (fun v15 H => ?_) (h1 := (by simp only [List.all_cons, List.all_nil, h4o, h5o, h6o, h7o, Bool.and_true, Bool.true_and] <;> rfl))
      refine x_nil <| x_then <| x_retc <| x_retM1 [0, 1, 2, 3, 4, 5, 6, 7, 8, 9, 10, 11, 12, 13, 14] [.blk qp #[.pointer (some ⟨q, 0, none⟩)] 72, .blk q #[.slice (some ⟨gq, 0, none⟩) 256 cq, .int .i64 (ra : Int), .int .i64 (qn : Int)] 123, .row (.slice (some ⟨gq, 0, none⟩) 256 cq) 52 2 256 (List.flatMap entL ls), .blk rp #[.pointer (some ⟨p, 0, none⟩), .int .i64 x.j.1, .int .i64 x.j.2.1, .int .i64 x.j.2.2.1, .int .i64 x.j.2.2.2, .pointer (some ⟨q, 0, none⟩)] 74, .blk p #[.int .i64 r, .int .i64 s, .int .i64 b, .int .i64 o, .int .i64 c, .int .i64 y, .int .i64 z, .slice (some ⟨gl, 0, none⟩) sn cl, .slice (some ⟨gd, 0, none⟩) pg cd, .slice (some ⟨gs, 0, none⟩) ns cs, .int .i64 ((x.pu : Nat) : Int), .int .i64 ((x.ru : Nat) : Int)] 109, .row (.slice (some ⟨gl, 0, none⟩) sn cl) 3 1 sn (List.map (Value.int .i64) x.L), .row (.slice (some ⟨gd, 0, none⟩) pg cd) 4 1 pg (List.map Value.bool x.D), .row (.slice (some ⟨gs, 0, none⟩) ns cs) 3 1 ns (List.map (Value.int .i64) x.S), .row (za) 3 1 sn (List.map (Value.int .i64) x.L), .row (zb) 3 1 (List.length (deadL x.D pg)) (List.map (Value.int .i64) (deadL x.D pg)), .row (zc) 3 1 (List.length (spL x.S)) (List.map (Value.int .i64) (spL x.S)), .blk g1 #[za, zb, zc, .int .i64 ((x.pu : Nat) : Int), .int .i64 ((x.ru : Nat) : Int), .int .i64 x.j.1, .int .i64 x.j.2.1, .int .i64 x.j.2.2.1, .int .i64 x.j.2.2.2, av] 50, .row (av) 52 2 (List.length (List.map Prod.snd (idxQ x.Q))) (List.flatMap entL (List.map Prod.snd (idxQ x.Q))), .blk g2 #[za, zb, zc, .int .i64 ((x.pu : Nat) : Int), .int .i64 ((x.ru : Nat) : Int), .int .i64 x.j.1, .int .i64 x.j.2.1, .int .i64 x.j.2.2.1, .int .i64 x.j.2.2.2, av] 50] (.agg #[za, zb, zc, .int .i64 ((x.pu : Nat) : Int), .int .i64 ((x.ru : Nat) : Int), .int .i64 x.j.1, .int .i64 x.j.2.1, .int .i64 x.j.2.2.1, .int .i64 x.j.2.2.2, av]) H (by kernel_rfl) rfl (by decide) (fun _ H => (x_rescell H 11 g1 0 #[za, zb, zc, .int .i64 ((x.pu : Nat) : Int), .int .i64 ((x.ru : Nat) : Int), .int .i64 x.j.1, .int .i64 x.j.2.1, .int .i64 x.j.2.2.1, .int .i64 x.j.2.2.2, av] 50 [za, zb, zc, .int .i64 ((x.pu : Nat) : Int), .int .i64 ((x.ru : Nat) : Int), .int .i64 x.j.1, .int .i64 x.j.2.1, .int .i64 x.j.2.2.1, .int .i64 x.j.2.2.2, av] (fun x => x) (by kernel_rfl) (by kernel_rfl) (by kernel_rfl))) ?_
      clear H
      intro v16 H
      rw [idxQ_snd] at H
      exact ⟨(za, zb, zc, av), rfl, H.pk [3, 4, 5, 6, 7, 1, 2, 8, 9, 10, 12]⟩
    · skip
      clear H
      rintro Dq_ cq_ pre av W1 hpre hJ H
      exact hJ.elim
  · skip
    clear H
    intro v17 H
    refine z_box H #[.slice none 0 0, .slice none 0 0, .slice none 0 0, .int .i64 0, .int .i64 0, .int .i64 0, .int .i64 0, .int .i64 0, .int .i64 0, .slice none 0 0] 50 (fun v18 g6 H => ?_)
    refine x_nil <| x_then <| z_next H [1, 2, 3, 4, 5, 6, 7, 8] [0, 1, 2, 3, 4, 5, 6, 7] rfl <| s_one 4 rfl (by kernel_rfl) rfl ?_
    clear H
    intro v19 H
    refine z_call (H.useEI [3, 4, 5, 6] (fun h => State_of hL hx.v _ h)) ?_
    rintro _ v20 ⟨⟨za, zb, zc⟩, rfl, H'⟩
    refine ⟨_, rfl, ?_⟩
    clear H
    have H := hsCast H' (L2 := [.blk p #[.int .i64 r, .int .i64 s, .int .i64 b, .int .i64 o, .int .i64 c, .int .i64 y, .int .i64 z, .slice (some ⟨gl, 0, none⟩) sn cl, .slice (some ⟨gd, 0, none⟩) pg cd, .slice (some ⟨gs, 0, none⟩) ns cs, .int .i64 ((x.pu : Nat) : Int), .int .i64 ((x.ru : Nat) : Int)] 109, .row (.slice (some ⟨gl, 0, none⟩) sn cl) 3 1 sn (List.map (Value.int .i64) x.L), .row (.slice (some ⟨gd, 0, none⟩) pg cd) 4 1 pg (List.map Value.bool x.D), .row (.slice (some ⟨gs, 0, none⟩) ns cs) 3 1 ns (List.map (Value.int .i64) x.S), .row (za) 3 1 sn (List.map (Value.int .i64) x.L), .row (zb) 3 1 (List.length (deadL x.D pg)) (List.map (Value.int .i64) (deadL x.D pg)), .row (zc) 3 1 (List.length (spL x.S)) (List.map (Value.int .i64) (spL x.S)), .blk g6 #[.slice none 0 0, .slice none 0 0, .slice none 0 0, .int .i64 0, .int .i64 0, .int .i64 0, .int .i64 0, .int .i64 0, .int .i64 0, .slice none 0 0] 50, .blk g1 #[.slice none 0 0, .slice none 0 0, .slice none 0 0, .int .i64 0, .int .i64 0, .int .i64 0, .int .i64 0, .int .i64 0, .int .i64 0, .slice none 0 0] 50, .blk rp #[.pointer (some ⟨p, 0, none⟩), .int .i64 x.j.1, .int .i64 x.j.2.1, .int .i64 x.j.2.2.1, .int .i64 x.j.2.2.2, .pointer (some ⟨q, 0, none⟩)] 74, .blk q #[.slice (some ⟨gq, 0, none⟩) 256 cq, .int .i64 (ra : Int), .int .i64 (qn : Int)] 123, .row (.slice (some ⟨gq, 0, none⟩) 256 cq) 52 2 256 (List.flatMap entL ls)]) (by kernel_rfl)
    clear H'
    refine x_nil <| x_then <| z_next H [0, 1, 2, 3, 4, 5, 6, 8, 9, 10, 11] [7, 8, 0, 1, 2, 3, 9, 10] rfl <| s_b [(9, .m)] 1 <| s_one 11 rfl (by kernel_rfl) rfl ?_
    clear H
    intro v21 H
    have h8o := H.rowOne 4 rfl
    have h9o := H.rowOne 5 rfl
    have h10o := H.rowOne 6 rfl
    refine z_store H 7 0 [za, zb, zc, .int .i64 ((x.pu : Nat) : Int), .int .i64 ((x.ru : Nat) : Int), .int .i64 x.j.1, .int .i64 x.j.2.1, .int .i64 x.j.2.2.1, .int .i64 x.j.2.2.2, .slice none 0 0] (fun v22 H => ?_) (h1 := (by simp only [List.all_cons, List.all_nil, h8o, h9o, h10o, Bool.and_true, Bool.true_and] <;> rfl))
    refine x_nil <| x_then <| z_next H [0, 1, 2, 3, 4, 5, 6, 8, 9, 10, 11] [0, 1, 2, 3, 4, 5, 6, 7, 8, 9, 10] rfl <| s_done (by kernel_rfl) ?_
    clear H
    intro v23 H
    refine x_then <| x_seq <| x_seq <| x_region <| x_b H [.m, .m, .m, .l 9 5] <| z_call (RAll q _) ?_
    rintro _ v24 ⟨qp, rfl, hN'⟩
    refine ⟨_, rfl, ?_⟩
    replace H := H.more hN'
    clear hN'
    refine x_nil <| x_then <| x_block ?_
    replace H := H.nilRow 52 2
    replace H := hsCast (H.pk [1, 12, 13, 11, 2, 3, 4, 5, 6, 7, 8, 10, 0, 9]) (L2 := [.blk qp #[.pointer (some ⟨q, 0, none⟩)] 72, .blk q #[.slice (some ⟨gq, 0, none⟩) 256 cq, .int .i64 (ra : Int), .int .i64 (qn : Int)] 123, .row (.slice (some ⟨gq, 0, none⟩) 256 cq) 52 2 256 (List.flatMap entL ls), .blk rp #[.pointer (some ⟨p, 0, none⟩), .int .i64 x.j.1, .int .i64 x.j.2.1, .int .i64 x.j.2.2.1, .int .i64 x.j.2.2.2, .pointer (some ⟨q, 0, none⟩)] 74, .blk p #[.int .i64 r, .int .i64 s, .int .i64 b, .int .i64 o, .int .i64 c, .int .i64 y, .int .i64 z, .slice (some ⟨gl, 0, none⟩) sn cl, .slice (some ⟨gd, 0, none⟩) pg cd, .slice (some ⟨gs, 0, none⟩) ns cs, .int .i64 ((x.pu : Nat) : Int), .int .i64 ((x.ru : Nat) : Int)] 109, .row (.slice (some ⟨gl, 0, none⟩) sn cl) 3 1 sn (List.map (Value.int .i64) x.L), .row (.slice (some ⟨gd, 0, none⟩) pg cd) 4 1 pg (List.map Value.bool x.D), .row (.slice (some ⟨gs, 0, none⟩) ns cs) 3 1 ns (List.map (Value.int .i64) x.S), .row (za) 3 1 sn (List.map (Value.int .i64) x.L), .row (zb) 3 1 (List.length (deadL x.D pg)) (List.map (Value.int .i64) (deadL x.D pg)), .row (zc) 3 1 (List.length (spL x.S)) (List.map (Value.int .i64) (spL x.S)), .blk g1 #[.slice none 0 0, .slice none 0 0, .slice none 0 0, .int .i64 0, .int .i64 0, .int .i64 0, .int .i64 0, .int .i64 0, .int .i64 0, .slice none 0 0] 50, .row (.slice none 0 0) 52 2 (List.length (List.map Prod.snd ([] : List QEnt))) (List.flatMap entL (List.map Prod.snd ([] : List QEnt))), .blk g6 #[za, zb, zc, .int .i64 ((x.pu : Nat) : Int), .int .i64 ((x.ru : Nat) : Int), .int .i64 x.j.1, .int .i64 x.j.2.1, .int .i64 x.j.2.2.1, .int .i64 x.j.2.2.2, .slice none 0 0] 50]) (by kernel_rfl)
    replace H := H.pk [0, 1, 2, 3, 4, 5, 6, 7, 8, 9, 10, 11, 12, 13]
    refine x_range3 (α := QEnt) (G := Value) (idxQ x.Q) (fun xq => #[.int .i64 ((xq.1 : Nat) : Int), .agg #[.int .i64 xq.2.1, .int .i64 xq.2.2]]) [.blk qp #[.pointer (some ⟨q, 0, none⟩)] 72, .blk q #[.slice (some ⟨gq, 0, none⟩) 256 cq, .int .i64 (ra : Int), .int .i64 (qn : Int)] 123, .row (.slice (some ⟨gq, 0, none⟩) 256 cq) 52 2 256 (List.flatMap entL ls)] [0, 1, 2] (fun pre (av : Value) => pre.length ≤ 256) (fun pre (av : Value) => [.blk qp #[.pointer (some ⟨q, 0, none⟩)] 72, .blk q #[.slice (some ⟨gq, 0, none⟩) 256 cq, .int .i64 (ra : Int), .int .i64 (qn : Int)] 123, .row (.slice (some ⟨gq, 0, none⟩) 256 cq) 52 2 256 (List.flatMap entL ls), .blk rp #[.pointer (some ⟨p, 0, none⟩), .int .i64 x.j.1, .int .i64 x.j.2.1, .int .i64 x.j.2.2.1, .int .i64 x.j.2.2.2, .pointer (some ⟨q, 0, none⟩)] 74, .blk p #[.int .i64 r, .int .i64 s, .int .i64 b, .int .i64 o, .int .i64 c, .int .i64 y, .int .i64 z, .slice (some ⟨gl, 0, none⟩) sn cl, .slice (some ⟨gd, 0, none⟩) pg cd, .slice (some ⟨gs, 0, none⟩) ns cs, .int .i64 ((x.pu : Nat) : Int), .int .i64 ((x.ru : Nat) : Int)] 109, .row (.slice (some ⟨gl, 0, none⟩) sn cl) 3 1 sn (List.map (Value.int .i64) x.L), .row (.slice (some ⟨gd, 0, none⟩) pg cd) 4 1 pg (List.map Value.bool x.D), .row (.slice (some ⟨gs, 0, none⟩) ns cs) 3 1 ns (List.map (Value.int .i64) x.S), .row (za) 3 1 sn (List.map (Value.int .i64) x.L), .row (zb) 3 1 (List.length (deadL x.D pg)) (List.map (Value.int .i64) (deadL x.D pg)), .row (zc) 3 1 (List.length (spL x.S)) (List.map (Value.int .i64) (spL x.S)), .blk g1 #[.slice none 0 0, .slice none 0 0, .slice none 0 0, .int .i64 0, .int .i64 0, .int .i64 0, .int .i64 0, .int .i64 0, .int .i64 0, .slice none 0 0] 50, .row (av) 52 2 (List.length (List.map Prod.snd pre)) (List.flatMap entL (List.map Prod.snd pre)), .blk g6 #[za, zb, zc, .int .i64 ((x.pu : Nat) : Int), .int .i64 ((x.ru : Nat) : Int), .int .i64 x.j.1, .int .i64 x.j.2.1, .int .i64 x.j.2.2.1, .int .i64 x.j.2.2.2, av] 50]) (fun cd pre (av : Value) => False) (fun xq => #[.int .i64 xq.2.1, .int .i64 xq.2.2]) 52 (fun xq bq => { tmps := #[.pointer (some ⟨rp, 0, none⟩), undef, .pointer (some ⟨g1, 0, none⟩), .pointer (some ⟨g6, 0, none⟩), undef, .pointer (some ⟨bq, 0, none⟩), .pointer (some ⟨rp, 0, none⟩), .pointer (some ⟨rp, 0, none⟩), .pointer (some ⟨rp, 0, none⟩), .pointer (some ⟨p, 0, none⟩), .agg #[za, zb, zc, .int .i64 ((x.pu : Nat) : Int), .int .i64 ((x.ru : Nat) : Int)], .pointer (some ⟨rp, 0, none⟩), .pointer (some ⟨rp, 0, none⟩), .pointer (some ⟨rp, 1, none⟩), .agg #[.int .i64 x.j.1, .int .i64 x.j.2.1, .int .i64 x.j.2.2.1, .int .i64 x.j.2.2.2], .agg #[za, zb, zc, .int .i64 ((x.pu : Nat) : Int), .int .i64 ((x.ru : Nat) : Int), .int .i64 x.j.1, .int .i64 x.j.2.1, .int .i64 x.j.2.2.1, .int .i64 x.j.2.2.2, .slice none 0 0], .pointer (some ⟨rp, 0, none⟩), .pointer (some ⟨rp, 0, none⟩), .pointer (some ⟨rp, 5, none⟩), .pointer (some ⟨q, 0, none⟩), .func (.func 69) #[] #[.pointer (some ⟨qp, 0, none⟩)], .int .i64 ((xq.1 : Nat) : Int), .agg #[.int .i64 xq.2.1, .int .i64 xq.2.2], undef, undef, undef, undef, undef, undef, undef], defers := [] }) (.slice none 0 0) (by kernel_rfl) (enters_of Tryz.func69 (by kernel_rfl) rfl) (rvals hk _ (H.roOf [0, 1, 2] _ (by kernel_rfl))) (fun _ => rfl) rfl (by rintro _ av; rfl) (by rintro _ av; rfl) H (Nat.zero_le _) ?_ ?_ ?_ ?_
    · skip
      clear H
      rintro lrnd pre xq av W2 hI H
      refine x_at (b := { tmps := #[.pointer (some ⟨rp, 0, none⟩), undef, .pointer (some ⟨g1, 0, none⟩), .pointer (some ⟨g6, 0, none⟩), undef, undef, .pointer (some ⟨rp, 0, none⟩), .pointer (some ⟨rp, 0, none⟩), .pointer (some ⟨rp, 0, none⟩), .pointer (some ⟨p, 0, none⟩), .agg #[za, zb, zc, .int .i64 ((x.pu : Nat) : Int), .int .i64 ((x.ru : Nat) : Int)], .pointer (some ⟨rp, 0, none⟩), .pointer (some ⟨rp, 0, none⟩), .pointer (some ⟨rp, 1, none⟩), .agg #[.int .i64 x.j.1, .int .i64 x.j.2.1, .int .i64 x.j.2.2.1, .int .i64 x.j.2.2.2], .agg #[za, zb, zc, .int .i64 ((x.pu : Nat) : Int), .int .i64 ((x.ru : Nat) : Int), .int .i64 x.j.1, .int .i64 x.j.2.1, .int .i64 x.j.2.2.1, .int .i64 x.j.2.2.2, .slice none 0 0], .pointer (some ⟨rp, 0, none⟩), .pointer (some ⟨rp, 0, none⟩), .pointer (some ⟨rp, 5, none⟩), .pointer (some ⟨q, 0, none⟩), .func (.func 69) #[] #[.pointer (some ⟨qp, 0, none⟩)], .int .i64 ((xq.1 : Nat) : Int), .agg #[.int .i64 xq.2.1, .int .i64 xq.2.2], undef, undef, undef, undef, undef, undef, undef], defers := [] }) (by kernel_rfl) ?_
      refine x_region <| z_box H #[.int .i64 0, .int .i64 0] 52 (fun v25 g7 H => ?_)
      refine z_store H 0 0 [.int .i64 xq.2.1, .int .i64 xq.2.2] (fun v26 H => ?_)
      refine x_nil <| x_then ?_
      exact ⟨g7, (by kernel_rfl), H⟩
    · skip
      clear H
      rintro lrnd pre xq av bq W2 hI hlen hb H
      have hlq := idxQ_len x.Q
      have hqlr := hx.ql
      have hI' : pre.length ≤ 256 := hI
      refine x_block <| x_region <| x_b H [.m, .l 13 9] <| x_loadcn (t := 52) bq 0 [.int .i64 xq.2.1, .int .i64 xq.2.2] ((fun j v hj => cellOf hb (by simpa using hj))) (by kernel_rfl) rfl (by kernel_rfl) (by kernel_rfl) <| x_box' H #[.int .i64 xq.2.1, .int .i64 xq.2.2] 52 1 (by kernel_rfl) rfl (by kernel_rfl) ?_
      clear H
      intro v27 g8 H
      refine x_append H 13 (av) 48 52 2 16 (List.length (List.map Prod.snd pre)) (.agg #[.int .i64 0, .int .i64 0]) (List.flatMap entL (List.map Prod.snd pre)) ⟨g8, 0, none⟩ 1 1 [.int .i64 xq.2.1, .int .i64 xq.2.2] rfl (by kernel_rfl) (by kernel_rfl) rfl (by decide) (by decide) rfl (fun j u hj => by rw [add_none]; exact cellOf (H.blk 0 rfl) (by simpa using hj)) (List.all_eq_true.1 (by kernel_rfl)) (by rw [List.length_map]; unfold maxLen; omega) (by rw [List.length_map]; omega) (by kernel_rfl) rfl (by kernel_rfl) ?_
      clear H
      intro v28 g9 c9 hc9 H
      rw [show (((List.length (List.map Prod.snd pre)) + 1) : Nat) = (List.length (List.map Prod.snd (pre ++ [xq]))) from (by simp)] at H ⊢
      rw [show (List.flatMap entL (List.map Prod.snd pre)) ++ [.int .i64 xq.2.1, .int .i64 xq.2.2] = (List.flatMap entL (List.map Prod.snd (pre ++ [xq]))) from (mapE_snoc pre Prod.snd xq)] at H
      replace H := H.pk [1, 2, 3, 4, 5, 6, 7, 8, 9, 10, 11, 12, 13, 14]
      refine x_b H [.m] <| z_store H 13 9 [.slice (some ⟨g9, 0, none⟩) (List.length (List.map Prod.snd (pre ++ [xq]))) c9] (fun v29 H => ?_)
      refine x_nil <| x_blk ?_
      replace H := H.pk [0, 1, 2, 3, 4, 5, 6, 7, 8, 9, 10, 11, 12, 13]
      exact ⟨(.slice (some ⟨g9, 0, none⟩) (List.length (List.map Prod.snd (pre ++ [xq]))) c9), (by show (pre ++ [xq]).length ≤ 256; rw [List.length_append]; show pre.length + 1 ≤ 256; omega), H⟩
    · skip
      clear H
      rintro Dq_ av W2 hI H
      refine x_blk <| x_then <| x_seq <| x_region <| x_b H [.n 14 0 10 50] ?_
      have h11o := H.rowOne 9 rfl
      have h12o := H.rowOne 10 rfl
      have h13o := H.rowOne 11 rfl
      have h14o := H.rowOne 13 rfl
      refine z_store H 12 0 [za, zb, zc, .int .i64 ((x.pu : Nat) : Int), .int .i64 ((x.ru : Nat) : Int), .int .i64 x.j.1, .int .i64 x.j.2.1, .int .i64 x.j.2.2.1, .int .i64 x.j.2.2.2, av] (fun v30 H => ?_) (h1 := (by simp only [List.all_cons, List.all_nil, h11o, h12o, h13o, h14o, Bool.and_true, Bool.true_and] <;> rfl))
      refine x_nil <| x_then <| x_retc <| x_retM1 [0, 1, 2, 3, 4, 5, 6, 7, 8, 9, 10, 11, 12, 13, 14] [.blk qp #[.pointer (some ⟨q, 0, none⟩)] 72, .blk q #[.slice (some ⟨gq, 0, none⟩) 256 cq, .int .i64 (ra : Int), .int .i64 (qn : Int)] 123, .row (.slice (some ⟨gq, 0, none⟩) 256 cq) 52 2 256 (List.flatMap entL ls), .blk rp #[.pointer (some ⟨p, 0, none⟩), .int .i64 x.j.1, .int .i64 x.j.2.1, .int .i64 x.j.2.2.1, .int .i64 x.j.2.2.2, .pointer (some ⟨q, 0, none⟩)] 74, .blk p #[.int .i64 r, .int .i64 s, .int .i64 b, .int .i64 o, .int .i64 c, .int .i64 y, .int .i64 z, .slice (some ⟨gl, 0, none⟩) sn cl, .slice (some ⟨gd, 0, none⟩) pg cd, .slice (some ⟨gs, 0, none⟩) ns cs, .int .i64 ((x.pu : Nat) : Int), .int .i64 ((x.ru : Nat) : Int)] 109, .row (.slice (some ⟨gl, 0, none⟩) sn cl) 3 1 sn (List.map (Value.int .i64) x.L), .row (.slice (some ⟨gd, 0, none⟩) pg cd) 4 1 pg (List.map Value.bool x.D), .row (.slice (some ⟨gs, 0, none⟩) ns cs) 3 1 ns (List.map (Value.int .i64) x.S), .row (za) 3 1 sn (List.map (Value.int .i64) x.L), .row (zb) 3 1 (List.length (deadL x.D pg)) (List.map (Value.int .i64) (deadL x.D pg)), .row (zc) 3 1 (List.length (spL x.S)) (List.map (Value.int .i64) (spL x.S)), .blk g1 #[za, zb, zc, .int .i64 ((x.pu : Nat) : Int), .int .i64 ((x.ru : Nat) : Int), .int .i64 x.j.1, .int .i64 x.j.2.1, .int .i64 x.j.2.2.1, .int .i64 x.j.2.2.2, av] 50, .row (av) 52 2 (List.length (List.map Prod.snd (idxQ x.Q))) (List.flatMap entL (List.map Prod.snd (idxQ x.Q))), .blk g6 #[za, zb, zc, .int .i64 ((x.pu : Nat) : Int), .int .i64 ((x.ru : Nat) : Int), .int .i64 x.j.1, .int .i64 x.j.2.1, .int .i64 x.j.2.2.1, .int .i64 x.j.2.2.2, av] 50] (.agg #[za, zb, zc, .int .i64 ((x.pu : Nat) : Int), .int .i64 ((x.ru : Nat) : Int), .int .i64 x.j.1, .int .i64 x.j.2.1, .int .i64 x.j.2.2.1, .int .i64 x.j.2.2.2, av]) H (by kernel_rfl) rfl (by decide) (fun _ H => (x_rescell H 11 g1 0 #[za, zb, zc, .int .i64 ((x.pu : Nat) : Int), .int .i64 ((x.ru : Nat) : Int), .int .i64 x.j.1, .int .i64 x.j.2.1, .int .i64 x.j.2.2.1, .int .i64 x.j.2.2.2, av] 50 [za, zb, zc, .int .i64 ((x.pu : Nat) : Int), .int .i64 ((x.ru : Nat) : Int), .int .i64 x.j.1, .int .i64 x.j.2.1, .int .i64 x.j.2.2.1, .int .i64 x.j.2.2.2, av] (fun x => x) (by kernel_rfl) (by kernel_rfl) (by kernel_rfl))) ?_
      clear H
      intro v31 H
      rw [idxQ_snd] at H
      exact ⟨(za, zb, zc, av), rfl, H.pk [3, 4, 5, 6, 7, 1, 2, 8, 9, 10, 12]⟩
    · skip
      clear H
      rintro Dq_ cq_ pre av W2 hpre hJ H
      exact hJ.elim
end Go.Proofs.YtpmnnijjohlloaaGreat
