/- Contracts of remap.Map: what is only read. -/
import Derived.Test.YtpmnnijjohlloaaGeom
import Derived.Test.YtpmnnijjohlloaaPx
import Derived.Test.YtpmnnijjohlloaaPxZ
namespace Go.Proofs.Ytpmnnijjohlloaa
open Go Go.RowKit
set_option linter.unusedVariables false
set_option linter.unusedSimpArgs false
theorem lay_bd {r s b o c y z : Int} (h : layoutOk r s b o c y z = true) : (1 ≤ r ∧ r ≤ 8) ∧ (0 ≤ s ∧ s ≤ 8 - r) ∧ (1 ≤ b ∧ b ≤ 16) ∧ (1 ≤ o ∧ o ≤ 1024) ∧ (1 ≤ c ∧ c ≤ 64) ∧ (0 ≤ y ∧ y < 4) ∧ (0 ≤ z ∧ z ≤ 64 ∧ z < r * b * o) ∧ (r + s) * b * o * c ≤ 4096 := by
  unfold layoutOk interOk at h
  simp only [Bool.and_eq_true, decide_eq_true_eq] at h
  obtain ⟨⟨hg, h1, h2⟩, h3, h4, h5⟩ := h
  obtain ⟨d1, d2, d3, d4, d5, d6⟩ := geom_bd hg
  rw [pagesI, if_pos hg] at h5
  exact ⟨d1, d2, d3, d4, d5, ⟨h1, h2⟩, ⟨h3, h4, h5⟩, d6⟩
/-- A layout that may be: pages, seen pages, ranks as naturals. -/
structure Lay (r s b o c y z : Int) (pg sn ns : Nat) : Prop where
  ok : layoutOk r s b o c y z = true
  r1 : 1 ≤ r
  r8 : r ≤ 8
  s0 : 0 ≤ s
  s8 : s ≤ 8 - r
  b1 : 1 ≤ b
  b2 : b ≤ 16
  o1 : 1 ≤ o
  o2 : o ≤ 1024
  c1 : 1 ≤ c
  c2 : c ≤ 64
  y0 : 0 ≤ y
  y4 : y < 4
  z0 : 0 ≤ z
  z2 : z ≤ 64
  hpg : r * b * o = (pg : Int)
  hsn : (pg : Int) = sn + z
  hns : (ns : Int) = r
  sn1 : 1 ≤ sn
  pg2 : pg ≤ 4096
  ln0 : 0 ≤ (sn : Int) * c
  ln2 : (sn : Int) * c ≤ 4096
theorem lay_mk {r s b o c y z : Int} (h : layoutOk r s b o c y z = true) : ∃ pg sn ns, Lay r s b o c y z pg sn ns := by
  obtain ⟨d1, d2, d3, d4, d5, d6, d7, d8⟩ := lay_bd h
  have e1 : 0 ≤ r * b := Int.mul_nonneg (by omega) (by omega)
  have e2 : 0 ≤ r * b * o := Int.mul_nonneg e1 (by omega)
  have e3 : r * b * o * c ≤ (r + s) * b * o * c := Int.mul_le_mul_of_nonneg_right (Int.mul_le_mul_of_nonneg_right (Int.mul_le_mul_of_nonneg_right (by omega) (by omega)) (by omega)) (by omega)
  have e4 : r * b * o * 1 ≤ r * b * o * c := Int.mul_le_mul_of_nonneg_left (by omega) e2
  obtain ⟨pg, hpg⟩ := Int.eq_ofNat_of_zero_le e2
  obtain ⟨sn, hsn⟩ := Int.eq_ofNat_of_zero_le (show 0 ≤ (pg : Int) - z by omega)
  obtain ⟨ns, hns⟩ := Int.eq_ofNat_of_zero_le (show 0 ≤ r by omega)
  have e5 : (sn : Int) * c ≤ (pg : Int) * c := Int.mul_le_mul_of_nonneg_right (by omega) (by omega)
  have e6 : 0 ≤ (sn : Int) * c := Int.mul_nonneg (by omega) (by omega)
  rw [hpg] at e3 e4
  exact ⟨pg, sn, ns, h, d1.1, d1.2, d2.1, d2.2, d3.1, d3.2, d4.1, d4.2, d5.1, d5.2, d6.1, d6.2, d7.1, d7.2.1, hpg, by omega, hns.symm, by omega, by omega, e6, by omega⟩
/-- A map's lists are a layout's. -/
structure MapOk (z s : Int) (sn pg ns : Nat) (L : List Int) (D : List Bool) (S : List Int) (pu ru : Nat) : Prop where
  hL : L.length = sn
  hD : D.length = pg
  hS : S.length = ns
  hp : (pu : Int) ≤ z
  hr : (ru : Int) ≤ s
set_option maxRecDepth 100000 in
set_option maxHeartbeats 1000000 in
theorem below_any (i n : Int) (w0 : World) :
    Calls Try.prog 69 #[.int .i64 i, .int .i64 n] w0 fun e w' => e = .returned (.bool (decide (0 ≤ i) && decide (i < n))) ∧ Below w0.heap.size w0 w' := by
  refine z_enter Try.func69 rfl ?_
  have H := Hs.nil w0
  refine x_seq <| x_region <| x_b H [.m] <| x_nil <| x_then <| x_seq <| x_region ?_
  refine x_b H [.m, .v (.bool (decide (0 ≤ i))), .v (.bool (decide (0 ≤ i)))] ?_
  cases h1 : decide (0 ≤ i)
  · skip
    have h1p := of_decide_eq_false h1
    refine x_b H [.k, .k, .k, .m, .m] <| x_nil <| x_then <| x_retc <| x_ret (.bool false) (by kernel_rfl) (by kernel_rfl) ?_
    exact ⟨by simp [h1], H.below⟩
  have h1p := of_decide_eq_true h1
  refine x_b H [.m, .m, .v (.bool (decide (i < n))), .v (.bool (decide (i < n))), .v (.bool (decide (i < n)))] <| x_nil <| x_then <| x_retc <| x_ret (.bool (decide (i < n))) (by kernel_rfl) (by kernel_rfl) ?_
  exact ⟨by simp [h1], H.below⟩
theorem pages_of {r s b o c y z : Int} {pg sn ns : Nat} (h : Lay r s b o c y z pg sn ns) (w : World) : Calls Try.prog 32 #[.agg #[.int .i64 r, .int .i64 s, .int .i64 b, .int .i64 o, .int .i64 c]] w fun e w' => e = .returned (.int .i64 ((pg : Nat) : Int)) ∧ Below w.heap.size w w' := by
  have hg : geomOk r s b o c = true := by
    have := h.ok
    unfold layoutOk interOk at this
    simp only [Bool.and_eq_true] at this
    exact this.1.1
  obtain ⟨⟨_, _⟩, _, ⟨_, _⟩, ⟨_, _⟩, ⟨_, _⟩, _⟩ := geom_bd hg
  have := gPages_any r s b o c (by omega) (by omega) (by omega) (by omega) w
  rwa [pagesI, if_pos hg, h.hpg] at this
set_option maxRecDepth 100000 in
set_option maxHeartbeats 1000000 in
theorem seen_of {r s b o c y z : Int} {pg sn ns : Nat} (hL : Lay r s b o c y z pg sn ns) (w0 : World) :
    Calls Try.prog 17 #[.agg #[.int .i64 r, .int .i64 s, .int .i64 b, .int .i64 o, .int .i64 c, .int .i64 y, .int .i64 z]] w0 fun e w' => e = .returned (.int .i64 ((sn : Nat) : Int)) ∧ Below w0.heap.size w0 w' := by
  refine z_enter Try.func17 rfl ?_
  have H := Hs.nil w0
  have hok := hL.ok
  obtain ⟨-, r1, r8, s0, s8, b1, b2, o1, o2, c1, c2, y0, y4, z0, z2, hpg, hsn, hns, sn1, pg2, ln0, ln2⟩ := id hL
  refine x_seq <| x_region <| z_box H #[.int .i64 r, .int .i64 s, .int .i64 b, .int .i64 o, .int .i64 c, .int .i64 y, .int .i64 z] 25 (fun v1 g1 H => ?_)
  refine x_b H [.m] <| x_nil <| x_then <| x_seq <| x_seq <| x_region <| x_b H [.n 0 0 7 25] ?_
  refine z_callB (v := .bool (layoutOk r s b o c y z)) H (lRight_any _ _ _ _ _ _ _ (by omega) (by omega) (by omega) (by omega) _) fun v2 H => x_b H [.v (.bool (!(layoutOk r s b o c y z)))] <| x_nil <| x_then ?_
  rw [hok]
  refine x_f (by kernel_rfl) <| x_skipc <| x_then <| x_seq <| z_region_whole H <| q_b [.m, .n 0 0 5 23] <| q_callB (.int .i64 (pg : Int)) (by kernel_rfl) (fun _ => by kernel_rfl) (fun _ => (pages_of hL _)) ?_
  refine q_b [.m, .l 0 6] <| q_ar ((pg : Int) - z) ⟨by omega, by omega⟩ (by kernel_rfl) (fun _ => by kernel_rfl) <| q_b [.m] <| q_nil ?_
  clear H
  intro v3 H
  refine x_then <| x_retc <| x_ret (.int .i64 ((pg : Int) - z)) (by kernel_rfl) (by kernel_rfl) ?_
  exact ⟨by rw [show (pg : Int) - z = (sn : Int) by omega], H.below⟩
set_option maxRecDepth 100000 in
set_option maxHeartbeats 1000000 in
theorem lines_of {r s b o c y z : Int} {pg sn ns : Nat} (hL : Lay r s b o c y z pg sn ns) (w0 : World) :
    Calls Try.prog 23 #[.agg #[.int .i64 r, .int .i64 s, .int .i64 b, .int .i64 o, .int .i64 c, .int .i64 y, .int .i64 z]] w0 fun e w' => e = .returned (.int .i64 (((sn : Nat) : Int) * c)) ∧ Below w0.heap.size w0 w' := by
  refine z_enter Try.func23 rfl ?_
  have H := Hs.nil w0
  have hok := hL.ok
  obtain ⟨-, r1, r8, s0, s8, b1, b2, o1, o2, c1, c2, y0, y4, z0, z2, hpg, hsn, hns, sn1, pg2, ln0, ln2⟩ := id hL
  refine x_seq <| x_region <| z_box H #[.int .i64 r, .int .i64 s, .int .i64 b, .int .i64 o, .int .i64 c, .int .i64 y, .int .i64 z] 25 (fun v1 g1 H => ?_)
  refine x_b H [.m] <| x_nil <| x_then <| x_seq <| z_region_whole H <| q_b [.n 0 0 7 25] <| q_callB (.int .i64 (sn : Int)) (by kernel_rfl) (fun _ => by kernel_rfl) (fun _ => (seen_of hL _)) ?_
  refine q_b [.m, .m, .l 0 4] <| q_ar ((sn : Int) * c) ⟨by omega, by omega⟩ (by kernel_rfl) (fun _ => by kernel_rfl) <| q_b [.m] <| q_nil ?_
  clear H
  intro v2 H
  refine x_then <| x_retc <| x_ret (.int .i64 ((sn : Int) * c)) (by kernel_rfl) (by kernel_rfl) ?_
  exact ⟨rfl, H.below⟩
set_option maxRecDepth 100000 in
set_option maxHeartbeats 1000000 in
theorem Dead_in {r s b o c y z : Int} {pg sn ns : Nat} (hL : Lay r s b o c y z pg sn ns) {p gl cl gd cd gs cs : Nat} {L : List Int} {D : List Bool} {S : List Int} {pu ru : Nat} (hM : MapOk z s sn pg ns L D S pu ru) (k : Nat) (hk : k < pg) (w0 : World) (hR : Ro w0 [.blk p #[.int .i64 r, .int .i64 s, .int .i64 b, .int .i64 o, .int .i64 c, .int .i64 y, .int .i64 z, .slice (some ⟨gl, 0, none⟩) sn cl, .slice (some ⟨gd, 0, none⟩) pg cd, .slice (some ⟨gs, 0, none⟩) ns cs, .int .i64 ((pu : Nat) : Int), .int .i64 ((ru : Nat) : Int)] 118, .row (.slice (some ⟨gl, 0, none⟩) sn cl) 3 1 sn (List.map (Value.int .i64) L), .row (.slice (some ⟨gd, 0, none⟩) pg cd) 4 1 pg (List.map Value.bool D), .row (.slice (some ⟨gs, 0, none⟩) ns cs) 3 1 ns (List.map (Value.int .i64) S)]) :
    Calls Try.prog 59 #[.pointer (some ⟨p, 0, none⟩), .int .i64 ((k : Nat) : Int)] w0 fun e w' => e = .returned (.bool (D.getD k false)) ∧ Below w0.heap.size w0 w' := by
  refine z_enter Try.func59 rfl ?_
  have H := Hs.nil w0
  have R0 := hR
  obtain ⟨eL, eD, eS, hp, hr⟩ := id hM
  have hok := hL.ok
  obtain ⟨-, r1, r8, s0, s8, b1, b2, o1, o2, c1, c2, y0, y4, z0, z2, hpg, hsn, hns, sn1, pg2, ln0, ln2⟩ := id hL
  have hb : (decide (0 ≤ (k : Int)) && decide ((k : Int) < (pg : Int))) = true := by simp; omega
  refine x_seq <| x_region <| x_b H [.m] <| x_nil <| x_then <| x_seq <| x_region ?_
  refine x_b H [.m, .m, .m, .m] <| x_loadc p 8 (.slice (some ⟨gd, 0, none⟩) pg cd) ((H.ro R0).cell 0 rfl 8 rfl) (by kernel_rfl) rfl (by kernel_rfl) <| x_b H [.m] <| z_callB (v := .bool (decide (0 ≤ (k : Int)) && decide ((k : Int) < (pg : Int)))) H (below_any _ _ _) fun v1 H => x_b H [.v (.bool (decide (0 ≤ (k : Int)) && decide ((k : Int) < (pg : Int))))] ?_
  rw [hb]
  refine x_b H [.m, .m, .m] <| x_loadc p 8 (.slice (some ⟨gd, 0, none⟩) pg cd) ((H.ro R0).cell 0 rfl 8 rfl) (by kernel_rfl) rfl (by kernel_rfl) <| x_b H [.m] <| x_ix (t := 116) gd 0 k pg cd 4 1 k (by omega) (by omega) (by kernel_rfl) (by kernel_rfl) (by kernel_rfl) rfl (by kernel_rfl) <| x_loadc gd k (.bool (D.getD k false)) ((H.ro R0).rowCell 2 rfl k (mapAt false (by omega))) (by kernel_rfl) rfl (by kernel_rfl) <| x_b H [.v (.bool (D.getD k false)), .v (.bool (D.getD k false))] <| x_nil ?_
  refine x_then <| x_retc <| x_ret (.bool (D.getD k false)) (by kernel_rfl) (by kernel_rfl) ?_
  exact ⟨rfl, H.below⟩
set_option maxRecDepth 100000 in
set_option maxHeartbeats 1000000 in
theorem Dead_out {r s b o c y z : Int} {pg sn ns : Nat} (hL : Lay r s b o c y z pg sn ns) {p gl cl gd cd gs cs : Nat} {L : List Int} {D : List Bool} {S : List Int} {pu ru : Nat} (hM : MapOk z s sn pg ns L D S pu ru) (i : Int) (hi : 0 ≤ i → ((pg : Nat) : Int) ≤ i) (w0 : World) (hR : Ro w0 [.blk p #[.int .i64 r, .int .i64 s, .int .i64 b, .int .i64 o, .int .i64 c, .int .i64 y, .int .i64 z, .slice (some ⟨gl, 0, none⟩) sn cl, .slice (some ⟨gd, 0, none⟩) pg cd, .slice (some ⟨gs, 0, none⟩) ns cs, .int .i64 ((pu : Nat) : Int), .int .i64 ((ru : Nat) : Int)] 118, .row (.slice (some ⟨gl, 0, none⟩) sn cl) 3 1 sn (List.map (Value.int .i64) L), .row (.slice (some ⟨gd, 0, none⟩) pg cd) 4 1 pg (List.map Value.bool D), .row (.slice (some ⟨gs, 0, none⟩) ns cs) 3 1 ns (List.map (Value.int .i64) S)]) :
    Calls Try.prog 59 #[.pointer (some ⟨p, 0, none⟩), .int .i64 i] w0 fun e w' => e = .returned (.bool false) ∧ Below w0.heap.size w0 w' := by
  refine z_enter Try.func59 rfl ?_
  have H := Hs.nil w0
  have R0 := hR
  obtain ⟨eL, eD, eS, hp, hr⟩ := id hM
  have hok := hL.ok
  obtain ⟨-, r1, r8, s0, s8, b1, b2, o1, o2, c1, c2, y0, y4, z0, z2, hpg, hsn, hns, sn1, pg2, ln0, ln2⟩ := id hL
  have hb : (decide (0 ≤ i) && decide (i < (pg : Int))) = false := by simpa using hi
  refine x_seq <| x_region <| x_b H [.m] <| x_nil <| x_then <| x_seq <| x_region ?_
  refine x_b H [.m, .m, .m, .m] <| x_loadc p 8 (.slice (some ⟨gd, 0, none⟩) pg cd) ((H.ro R0).cell 0 rfl 8 rfl) (by kernel_rfl) rfl (by kernel_rfl) <| x_b H [.m] <| z_callB (v := .bool (decide (0 ≤ i) && decide (i < (pg : Int)))) H (below_any _ _ _) fun v1 H => x_b H [.v (.bool (decide (0 ≤ i) && decide (i < (pg : Int))))] ?_
  rw [hb]
  refine x_b H [.k, .k, .k, .k, .k, .k, .k, .m, .m] <| x_nil <| x_then <| x_retc <| x_ret (.bool false) (by kernel_rfl) (by kernel_rfl) ?_
  exact ⟨rfl, H.below⟩
set_option maxRecDepth 100000 in
set_option maxHeartbeats 1000000 in
theorem Spare_out {r s b o c y z : Int} {pg sn ns : Nat} (hL : Lay r s b o c y z pg sn ns) {p gl cl gd cd gs cs : Nat} {L : List Int} {D : List Bool} {S : List Int} {pu ru : Nat} (hM : MapOk z s sn pg ns L D S pu ru) (i : Int) (hi : 0 ≤ i → ((ns : Nat) : Int) ≤ i) (w0 : World) (hR : Ro w0 [.blk p #[.int .i64 r, .int .i64 s, .int .i64 b, .int .i64 o, .int .i64 c, .int .i64 y, .int .i64 z, .slice (some ⟨gl, 0, none⟩) sn cl, .slice (some ⟨gd, 0, none⟩) pg cd, .slice (some ⟨gs, 0, none⟩) ns cs, .int .i64 ((pu : Nat) : Int), .int .i64 ((ru : Nat) : Int)] 118, .row (.slice (some ⟨gl, 0, none⟩) sn cl) 3 1 sn (List.map (Value.int .i64) L), .row (.slice (some ⟨gd, 0, none⟩) pg cd) 4 1 pg (List.map Value.bool D), .row (.slice (some ⟨gs, 0, none⟩) ns cs) 3 1 ns (List.map (Value.int .i64) S)]) :
    Calls Try.prog 61 #[.pointer (some ⟨p, 0, none⟩), .int .i64 i] w0 fun e w' => e = .returned (.tuple #[.int .i64 0, .bool false]) ∧ Below w0.heap.size w0 w' := by
  refine z_enter Try.func61 rfl ?_
  have H := Hs.nil w0
  have R0 := hR
  obtain ⟨eL, eD, eS, hp, hr⟩ := id hM
  have hok := hL.ok
  obtain ⟨-, r1, r8, s0, s8, b1, b2, o1, o2, c1, c2, y0, y4, z0, z2, hpg, hsn, hns, sn1, pg2, ln0, ln2⟩ := id hL
  have hb : (decide (0 ≤ i) && decide (i < (ns : Int))) = false := by simpa using hi
  refine x_seq <| x_region <| x_b H [.m, .m] <| x_nil <| x_then <| x_seq <| x_seq ?_
  refine x_region <| x_b H [.m, .m, .m, .m] <| x_loadc p 9 (.slice (some ⟨gs, 0, none⟩) ns cs) ((H.ro R0).cell 0 rfl 9 rfl) (by kernel_rfl) rfl (by kernel_rfl) <| x_b H [.m] <| z_callB (v := .bool (decide (0 ≤ i) && decide (i < (ns : Int)))) H (below_any _ _ _) fun v1 H => x_b H [.v (.bool (!(decide (0 ≤ i) && decide (i < (ns : Int))))), .v (.bool (!(decide (0 ≤ i) && decide (i < (ns : Int)))))] ?_
  rw [hb]
  refine x_b H [.k, .k, .k, .k, .k, .k, .k, .k, .m] <| x_nil <| x_then <| x_t (by kernel_rfl) <| x_seq <| x_region <| x_b H [.m, .m] ?_
  refine x_nil <| x_then <| x_retc <| x_then_ret <| x_ret (.tuple #[.int .i64 0, .bool false]) (by kernel_rfl) (by kernel_rfl) ?_
  exact ⟨rfl, H.below⟩
set_option maxRecDepth 100000 in
set_option maxHeartbeats 1000000 in
theorem Spare_no {r s b o c y z : Int} {pg sn ns : Nat} (hL : Lay r s b o c y z pg sn ns) {p gl cl gd cd gs cs : Nat} {L : List Int} {D : List Bool} {S : List Int} {pu ru : Nat} (hM : MapOk z s sn pg ns L D S pu ru) (k : Nat) (hk : k < ns) (hs : S.getD k 0 = -1) (w0 : World) (hR : Ro w0 [.blk p #[.int .i64 r, .int .i64 s, .int .i64 b, .int .i64 o, .int .i64 c, .int .i64 y, .int .i64 z, .slice (some ⟨gl, 0, none⟩) sn cl, .slice (some ⟨gd, 0, none⟩) pg cd, .slice (some ⟨gs, 0, none⟩) ns cs, .int .i64 ((pu : Nat) : Int), .int .i64 ((ru : Nat) : Int)] 118, .row (.slice (some ⟨gl, 0, none⟩) sn cl) 3 1 sn (List.map (Value.int .i64) L), .row (.slice (some ⟨gd, 0, none⟩) pg cd) 4 1 pg (List.map Value.bool D), .row (.slice (some ⟨gs, 0, none⟩) ns cs) 3 1 ns (List.map (Value.int .i64) S)]) :
    Calls Try.prog 61 #[.pointer (some ⟨p, 0, none⟩), .int .i64 ((k : Nat) : Int)] w0 fun e w' => e = .returned (.tuple #[.int .i64 0, .bool false]) ∧ Below w0.heap.size w0 w' := by
  refine z_enter Try.func61 rfl ?_
  have H := Hs.nil w0
  have R0 := hR
  obtain ⟨eL, eD, eS, hp, hr⟩ := id hM
  have hok := hL.ok
  obtain ⟨-, r1, r8, s0, s8, b1, b2, o1, o2, c1, c2, y0, y4, z0, z2, hpg, hsn, hns, sn1, pg2, ln0, ln2⟩ := id hL
  have hb : (decide (0 ≤ (k : Int)) && decide ((k : Int) < (ns : Int))) = true := by simp; omega
  have hq : (decide ((S.getD k 0) = (-1))) = true := decide_eq_true hs
  refine x_seq <| x_region <| x_b H [.m, .m] <| x_nil <| x_then <| x_seq <| x_seq ?_
  refine x_region <| x_b H [.m, .m, .m, .m] <| x_loadc p 9 (.slice (some ⟨gs, 0, none⟩) ns cs) ((H.ro R0).cell 0 rfl 9 rfl) (by kernel_rfl) rfl (by kernel_rfl) <| x_b H [.m] <| z_callB (v := .bool (decide (0 ≤ (k : Int)) && decide ((k : Int) < (ns : Int)))) H (below_any _ _ _) fun v1 H => x_b H [.v (.bool (!(decide (0 ≤ (k : Int)) && decide ((k : Int) < (ns : Int))))), .v (.bool (!(decide (0 ≤ (k : Int)) && decide ((k : Int) < (ns : Int)))))] ?_
  rw [hb]
  refine x_b H [.m, .m, .m] <| x_loadc p 9 (.slice (some ⟨gs, 0, none⟩) ns cs) ((H.ro R0).cell 0 rfl 9 rfl) (by kernel_rfl) rfl (by kernel_rfl) <| x_b H [.m] <| x_ix (t := 40) gs 0 k ns cs 3 1 k (by omega) (by omega) (by kernel_rfl) (by kernel_rfl) (by kernel_rfl) rfl (by kernel_rfl) <| x_loadc gs k (.int .i64 (S.getD k 0)) ((H.ro R0).rowCell 3 rfl k (mapAt 0 (by omega))) (by kernel_rfl) rfl (by kernel_rfl) <| x_b H [.v (.bool (decide ((S.getD k 0) = (-1)))), .v (.bool (decide ((S.getD k 0) = (-1))))] <| x_nil ?_
  refine x_then ?_
  rw [hq]
  refine x_t (by kernel_rfl) <| x_seq <| x_region <| x_b H [.m, .m] <| x_nil <| x_then <| x_retc ?_
  refine x_then_ret <| x_ret (.tuple #[.int .i64 0, .bool false]) (by kernel_rfl) (by kernel_rfl) ?_
  exact ⟨rfl, H.below⟩
set_option maxRecDepth 100000 in
set_option maxHeartbeats 1000000 in
theorem Spare_yes {r s b o c y z : Int} {pg sn ns : Nat} (hL : Lay r s b o c y z pg sn ns) {p gl cl gd cd gs cs : Nat} {L : List Int} {D : List Bool} {S : List Int} {pu ru : Nat} (hM : MapOk z s sn pg ns L D S pu ru) (k : Nat) (hk : k < ns) (hs : ¬ S.getD k 0 = -1) (w0 : World) (hR : Ro w0 [.blk p #[.int .i64 r, .int .i64 s, .int .i64 b, .int .i64 o, .int .i64 c, .int .i64 y, .int .i64 z, .slice (some ⟨gl, 0, none⟩) sn cl, .slice (some ⟨gd, 0, none⟩) pg cd, .slice (some ⟨gs, 0, none⟩) ns cs, .int .i64 ((pu : Nat) : Int), .int .i64 ((ru : Nat) : Int)] 118, .row (.slice (some ⟨gl, 0, none⟩) sn cl) 3 1 sn (List.map (Value.int .i64) L), .row (.slice (some ⟨gd, 0, none⟩) pg cd) 4 1 pg (List.map Value.bool D), .row (.slice (some ⟨gs, 0, none⟩) ns cs) 3 1 ns (List.map (Value.int .i64) S)]) :
    Calls Try.prog 61 #[.pointer (some ⟨p, 0, none⟩), .int .i64 ((k : Nat) : Int)] w0 fun e w' => e = .returned (.tuple #[.int .i64 (S.getD k 0), .bool true]) ∧ Below w0.heap.size w0 w' := by
  refine z_enter Try.func61 rfl ?_
  have H := Hs.nil w0
  have R0 := hR
  obtain ⟨eL, eD, eS, hp, hr⟩ := id hM
  have hok := hL.ok
  obtain ⟨-, r1, r8, s0, s8, b1, b2, o1, o2, c1, c2, y0, y4, z0, z2, hpg, hsn, hns, sn1, pg2, ln0, ln2⟩ := id hL
  have hb : (decide (0 ≤ (k : Int)) && decide ((k : Int) < (ns : Int))) = true := by simp; omega
  have hq : (decide ((S.getD k 0) = (-1))) = false := decide_eq_false hs
  refine x_seq <| x_region <| x_b H [.m, .m] <| x_nil <| x_then <| x_seq <| x_seq ?_
  refine x_region <| x_b H [.m, .m, .m, .m] <| x_loadc p 9 (.slice (some ⟨gs, 0, none⟩) ns cs) ((H.ro R0).cell 0 rfl 9 rfl) (by kernel_rfl) rfl (by kernel_rfl) <| x_b H [.m] <| z_callB (v := .bool (decide (0 ≤ (k : Int)) && decide ((k : Int) < (ns : Int)))) H (below_any _ _ _) fun v1 H => x_b H [.v (.bool (!(decide (0 ≤ (k : Int)) && decide ((k : Int) < (ns : Int))))), .v (.bool (!(decide (0 ≤ (k : Int)) && decide ((k : Int) < (ns : Int)))))] ?_
  rw [hb]
  refine x_b H [.m, .m, .m] <| x_loadc p 9 (.slice (some ⟨gs, 0, none⟩) ns cs) ((H.ro R0).cell 0 rfl 9 rfl) (by kernel_rfl) rfl (by kernel_rfl) <| x_b H [.m] <| x_ix (t := 40) gs 0 k ns cs 3 1 k (by omega) (by omega) (by kernel_rfl) (by kernel_rfl) (by kernel_rfl) rfl (by kernel_rfl) <| x_loadc gs k (.int .i64 (S.getD k 0)) ((H.ro R0).rowCell 3 rfl k (mapAt 0 (by omega))) (by kernel_rfl) rfl (by kernel_rfl) <| x_b H [.v (.bool (decide ((S.getD k 0) = (-1)))), .v (.bool (decide ((S.getD k 0) = (-1))))] <| x_nil ?_
  refine x_then ?_
  rw [hq]
  refine x_f (by kernel_rfl) <| x_skipc <| x_then <| x_seq <| x_region <| x_b H [.m, .m, .m] <| x_loadc p 9 (.slice (some ⟨gs, 0, none⟩) ns cs) ((H.ro R0).cell 0 rfl 9 rfl) (by kernel_rfl) rfl (by kernel_rfl) ?_
  refine x_b H [.m] <| x_ix (t := 40) gs 0 k ns cs 3 1 k (by omega) (by omega) (by kernel_rfl) (by kernel_rfl) (by kernel_rfl) rfl (by kernel_rfl) <| x_loadc gs k (.int .i64 (S.getD k 0)) ((H.ro R0).rowCell 3 rfl k (mapAt 0 (by omega))) (by kernel_rfl) rfl (by kernel_rfl) <| x_b H [.m, .m] <| x_nil <| x_then <| x_retc ?_
  refine x_ret (.tuple #[.int .i64 (S.getD k 0), .bool true]) (by kernel_rfl) (by kernel_rfl) ?_
  exact ⟨rfl, H.below⟩
set_option maxRecDepth 100000 in
set_option maxHeartbeats 1000000 in
theorem FreePage_no {r s b o c y z : Int} {pg sn ns : Nat} (hL : Lay r s b o c y z pg sn ns) {p gl cl gd cd gs cs : Nat} {L : List Int} {D : List Bool} {S : List Int} {pu ru : Nat} (hM : MapOk z s sn pg ns L D S pu ru) (hz : ((pu : Nat) : Int) = z) (w0 : World) (hR : Ro w0 [.blk p #[.int .i64 r, .int .i64 s, .int .i64 b, .int .i64 o, .int .i64 c, .int .i64 y, .int .i64 z, .slice (some ⟨gl, 0, none⟩) sn cl, .slice (some ⟨gd, 0, none⟩) pg cd, .slice (some ⟨gs, 0, none⟩) ns cs, .int .i64 ((pu : Nat) : Int), .int .i64 ((ru : Nat) : Int)] 118, .row (.slice (some ⟨gl, 0, none⟩) sn cl) 3 1 sn (List.map (Value.int .i64) L), .row (.slice (some ⟨gd, 0, none⟩) pg cd) 4 1 pg (List.map Value.bool D), .row (.slice (some ⟨gs, 0, none⟩) ns cs) 3 1 ns (List.map (Value.int .i64) S)]) :
    Calls Try.prog 58 #[.pointer (some ⟨p, 0, none⟩)] w0 fun e w' => e = .returned (.tuple #[.int .i64 0, .bool false]) ∧ Below w0.heap.size w0 w' := by
  refine z_enter Try.func58 rfl ?_
  have H := Hs.nil w0
  have R0 := hR
  obtain ⟨eL, eD, eS, hp, hr⟩ := id hM
  have hok := hL.ok
  obtain ⟨-, r1, r8, s0, s8, b1, b2, o1, o2, c1, c2, y0, y4, z0, z2, hpg, hsn, hns, sn1, pg2, ln0, ln2⟩ := id hL
  have hq : (decide ((pu : Int) = z)) = true := decide_eq_true hz
  refine x_seq <| x_region <| x_b H [.m, .m] <| x_nil <| x_then <| x_seq <| x_seq ?_
  refine z_region_whole H <| q_b [.m, .m, .m] <| q_loadc p 10 (.int .i64 (pu : Int)) (fun _ H => (H.ro R0).cell 0 rfl 10 rfl) (by kernel_rfl) (fun _ => by kernel_rfl) <| q_b [.m, .m, .m, .m] <| q_loadc p 6 (.int .i64 z) (fun _ H => (H.ro R0).cell 0 rfl 6 rfl) (by kernel_rfl) (fun _ => by kernel_rfl) <| q_b [.v (.bool (decide ((pu : Int) = z)))] <| q_nil ?_
  clear H
  intro v1 H
  refine x_then ?_
  rw [hq]
  refine x_t (by kernel_rfl) <| x_seq <| x_region <| x_b H [.m, .m] <| x_nil <| x_then <| x_retc ?_
  refine x_then_ret <| x_ret (.tuple #[.int .i64 0, .bool false]) (by kernel_rfl) (by kernel_rfl) ?_
  exact ⟨rfl, H.below⟩
set_option maxRecDepth 100000 in
set_option maxHeartbeats 1000000 in
theorem FreePage_yes {r s b o c y z : Int} {pg sn ns : Nat} (hL : Lay r s b o c y z pg sn ns) {p gl cl gd cd gs cs : Nat} {L : List Int} {D : List Bool} {S : List Int} {pu ru : Nat} (hM : MapOk z s sn pg ns L D S pu ru) (hz : ¬ ((pu : Nat) : Int) = z) (w0 : World) (hR : Ro w0 [.blk p #[.int .i64 r, .int .i64 s, .int .i64 b, .int .i64 o, .int .i64 c, .int .i64 y, .int .i64 z, .slice (some ⟨gl, 0, none⟩) sn cl, .slice (some ⟨gd, 0, none⟩) pg cd, .slice (some ⟨gs, 0, none⟩) ns cs, .int .i64 ((pu : Nat) : Int), .int .i64 ((ru : Nat) : Int)] 118, .row (.slice (some ⟨gl, 0, none⟩) sn cl) 3 1 sn (List.map (Value.int .i64) L), .row (.slice (some ⟨gd, 0, none⟩) pg cd) 4 1 pg (List.map Value.bool D), .row (.slice (some ⟨gs, 0, none⟩) ns cs) 3 1 ns (List.map (Value.int .i64) S)]) :
    Calls Try.prog 58 #[.pointer (some ⟨p, 0, none⟩)] w0 fun e w' => e = .returned (.tuple #[.int .i64 (((sn : Nat) : Int) + ((pu : Nat) : Int)), .bool true]) ∧ Below w0.heap.size w0 w' := by
  refine z_enter Try.func58 rfl ?_
  have H := Hs.nil w0
  have R0 := hR
  obtain ⟨eL, eD, eS, hp, hr⟩ := id hM
  have hok := hL.ok
  obtain ⟨-, r1, r8, s0, s8, b1, b2, o1, o2, c1, c2, y0, y4, z0, z2, hpg, hsn, hns, sn1, pg2, ln0, ln2⟩ := id hL
  have hq : (decide ((pu : Int) = z)) = false := decide_eq_false hz
  refine x_seq <| x_region <| x_b H [.m, .m] <| x_nil <| x_then <| x_seq <| x_seq ?_
  refine z_region_whole H <| q_b [.m, .m, .m] <| q_loadc p 10 (.int .i64 (pu : Int)) (fun _ H => (H.ro R0).cell 0 rfl 10 rfl) (by kernel_rfl) (fun _ => by kernel_rfl) <| q_b [.m, .m, .m, .m] <| q_loadc p 6 (.int .i64 z) (fun _ H => (H.ro R0).cell 0 rfl 6 rfl) (by kernel_rfl) (fun _ => by kernel_rfl) <| q_b [.v (.bool (decide ((pu : Int) = z)))] <| q_nil ?_
  clear H
  intro v1 H
  refine x_then ?_
  rw [hq]
  refine x_f (by kernel_rfl) <| x_skipc <| x_then <| x_seq <| z_region_whole H <| q_b [.m, .m, .m] <| q_loadcn (t := 25) p 0 [.int .i64 r, .int .i64 s, .int .i64 b, .int .i64 o, .int .i64 c, .int .i64 y, .int .i64 z] (fun _ H => (H.ro R0).cells 0 rfl 0 (by kernel_rfl)) (by kernel_rfl) (by kernel_rfl) (by kernel_rfl) ?_
  refine q_callB (.int .i64 (sn : Int)) (by kernel_rfl) (fun _ => by kernel_rfl) (fun _ => (seen_of hL _)) <| q_b [.m, .m, .m] <| q_loadc p 10 (.int .i64 (pu : Int)) (fun _ H => (H.ro R0).cell 0 rfl 10 rfl) (by kernel_rfl) (fun _ => by kernel_rfl) <| q_ar ((sn : Int) + (pu : Int)) ⟨by omega, by omega⟩ (by kernel_rfl) (fun _ => by kernel_rfl) <| q_b [.m, .m] <| q_nil ?_
  clear H
  intro v2 H
  refine x_then <| x_retc <| x_ret (.tuple #[.int .i64 ((sn : Int) + (pu : Int)), .bool true]) (by kernel_rfl) (by kernel_rfl) ?_
  exact ⟨rfl, H.below⟩
set_option maxRecDepth 100000 in
set_option maxHeartbeats 1000000 in
theorem FreeSpare_no {r s b o c y z : Int} {pg sn ns : Nat} (hL : Lay r s b o c y z pg sn ns) {p gl cl gd cd gs cs : Nat} {L : List Int} {D : List Bool} {S : List Int} {pu ru : Nat} (hM : MapOk z s sn pg ns L D S pu ru) (hz : ((ru : Nat) : Int) = s) (w0 : World) (hR : Ro w0 [.blk p #[.int .i64 r, .int .i64 s, .int .i64 b, .int .i64 o, .int .i64 c, .int .i64 y, .int .i64 z, .slice (some ⟨gl, 0, none⟩) sn cl, .slice (some ⟨gd, 0, none⟩) pg cd, .slice (some ⟨gs, 0, none⟩) ns cs, .int .i64 ((pu : Nat) : Int), .int .i64 ((ru : Nat) : Int)] 118, .row (.slice (some ⟨gl, 0, none⟩) sn cl) 3 1 sn (List.map (Value.int .i64) L), .row (.slice (some ⟨gd, 0, none⟩) pg cd) 4 1 pg (List.map Value.bool D), .row (.slice (some ⟨gs, 0, none⟩) ns cs) 3 1 ns (List.map (Value.int .i64) S)]) :
    Calls Try.prog 60 #[.pointer (some ⟨p, 0, none⟩)] w0 fun e w' => e = .returned (.tuple #[.int .i64 0, .bool false]) ∧ Below w0.heap.size w0 w' := by
  refine z_enter Try.func60 rfl ?_
  have H := Hs.nil w0
  have R0 := hR
  obtain ⟨eL, eD, eS, hp, hr⟩ := id hM
  have hok := hL.ok
  obtain ⟨-, r1, r8, s0, s8, b1, b2, o1, o2, c1, c2, y0, y4, z0, z2, hpg, hsn, hns, sn1, pg2, ln0, ln2⟩ := id hL
  have hq : (decide ((ru : Int) = s)) = true := decide_eq_true hz
  refine x_seq <| x_region <| x_b H [.m, .m] <| x_nil <| x_then <| x_seq <| x_seq ?_
  refine z_region_whole H <| q_b [.m, .m, .m] <| q_loadc p 11 (.int .i64 (ru : Int)) (fun _ H => (H.ro R0).cell 0 rfl 11 rfl) (by kernel_rfl) (fun _ => by kernel_rfl) <| q_b [.m, .m, .m, .m, .m] <| q_loadc p 1 (.int .i64 s) (fun _ H => (H.ro R0).cell 0 rfl 1 rfl) (by kernel_rfl) (fun _ => by kernel_rfl) <| q_b [.v (.bool (decide ((ru : Int) = s)))] <| q_nil ?_
  clear H
  intro v1 H
  refine x_then ?_
  rw [hq]
  refine x_t (by kernel_rfl) <| x_seq <| x_region <| x_b H [.m, .m] <| x_nil <| x_then <| x_retc ?_
  refine x_then_ret <| x_ret (.tuple #[.int .i64 0, .bool false]) (by kernel_rfl) (by kernel_rfl) ?_
  exact ⟨rfl, H.below⟩
set_option maxRecDepth 100000 in
set_option maxHeartbeats 1000000 in
theorem FreeSpare_yes {r s b o c y z : Int} {pg sn ns : Nat} (hL : Lay r s b o c y z pg sn ns) {p gl cl gd cd gs cs : Nat} {L : List Int} {D : List Bool} {S : List Int} {pu ru : Nat} (hM : MapOk z s sn pg ns L D S pu ru) (hz : ¬ ((ru : Nat) : Int) = s) (w0 : World) (hR : Ro w0 [.blk p #[.int .i64 r, .int .i64 s, .int .i64 b, .int .i64 o, .int .i64 c, .int .i64 y, .int .i64 z, .slice (some ⟨gl, 0, none⟩) sn cl, .slice (some ⟨gd, 0, none⟩) pg cd, .slice (some ⟨gs, 0, none⟩) ns cs, .int .i64 ((pu : Nat) : Int), .int .i64 ((ru : Nat) : Int)] 118, .row (.slice (some ⟨gl, 0, none⟩) sn cl) 3 1 sn (List.map (Value.int .i64) L), .row (.slice (some ⟨gd, 0, none⟩) pg cd) 4 1 pg (List.map Value.bool D), .row (.slice (some ⟨gs, 0, none⟩) ns cs) 3 1 ns (List.map (Value.int .i64) S)]) :
    Calls Try.prog 60 #[.pointer (some ⟨p, 0, none⟩)] w0 fun e w' => e = .returned (.tuple #[.int .i64 (r + ((ru : Nat) : Int)), .bool true]) ∧ Below w0.heap.size w0 w' := by
  refine z_enter Try.func60 rfl ?_
  have H := Hs.nil w0
  have R0 := hR
  obtain ⟨eL, eD, eS, hp, hr⟩ := id hM
  have hok := hL.ok
  obtain ⟨-, r1, r8, s0, s8, b1, b2, o1, o2, c1, c2, y0, y4, z0, z2, hpg, hsn, hns, sn1, pg2, ln0, ln2⟩ := id hL
  have hq : (decide ((ru : Int) = s)) = false := decide_eq_false hz
  refine x_seq <| x_region <| x_b H [.m, .m] <| x_nil <| x_then <| x_seq <| x_seq ?_
  refine z_region_whole H <| q_b [.m, .m, .m] <| q_loadc p 11 (.int .i64 (ru : Int)) (fun _ H => (H.ro R0).cell 0 rfl 11 rfl) (by kernel_rfl) (fun _ => by kernel_rfl) <| q_b [.m, .m, .m, .m, .m] <| q_loadc p 1 (.int .i64 s) (fun _ H => (H.ro R0).cell 0 rfl 1 rfl) (by kernel_rfl) (fun _ => by kernel_rfl) <| q_b [.v (.bool (decide ((ru : Int) = s)))] <| q_nil ?_
  clear H
  intro v1 H
  refine x_then ?_
  rw [hq]
  refine x_f (by kernel_rfl) <| x_skipc <| x_then <| x_seq <| z_region_whole H <| q_b [.m, .m, .m, .m, .m] <| q_loadc p 0 (.int .i64 r) (fun _ H => (H.ro R0).cell 0 rfl 0 rfl) (by kernel_rfl) (fun _ => by kernel_rfl) ?_
  refine q_b [.m, .m, .m] <| q_loadc p 11 (.int .i64 (ru : Int)) (fun _ H => (H.ro R0).cell 0 rfl 11 rfl) (by kernel_rfl) (fun _ => by kernel_rfl) <| q_ar (r + (ru : Int)) ⟨by omega, by omega⟩ (by kernel_rfl) (fun _ => by kernel_rfl) <| q_b [.m, .m] <| q_nil ?_
  clear H
  intro v2 H
  refine x_then <| x_retc <| x_ret (.tuple #[.int .i64 (r + (ru : Int)), .bool true]) (by kernel_rfl) (by kernel_rfl) ?_
  exact ⟨rfl, H.below⟩
end Go.Proofs.Ytpmnnijjohlloaa
