/- Contracts: Replace, small, indices; a line's index told by a function. -/
import Derived.Test.YtpmnnijjohlloaaRemapC
import Derived.Test.YtpmnnijjohlloaaPxZ
namespace Go.Proofs.Ytpmnnijjohlloaa
open Go Go.RowKit
set_option linter.unusedVariables false
set_option linter.unusedSimpArgs false
set_option maxRecDepth 100000 in
set_option maxHeartbeats 1000000 in
theorem Replace_ok {r s b o c y z : Int} {pg sn ns : Nat} (hL : Lay r s b o c y z pg sn ns) {p gl cl gd cd gs cs : Nat} {L : List Int} {D : List Bool} {S : List Int} {pu ru : Nat} (hM : MapOk z s sn pg ns L D S pu ru) (q : Nat) (v : Int) (hq : q < ns) (hv1 : r ≤ v) (hv2 : v < r + ru) (hs : S.getD q 0 = -1) (w0 : World) (H0 : Hs (fps [.blk p #[.int .i64 r, .int .i64 s, .int .i64 b, .int .i64 o, .int .i64 c, .int .i64 y, .int .i64 z, .slice (some ⟨gl, 0, none⟩) sn cl, .slice (some ⟨gd, 0, none⟩) pg cd, .slice (some ⟨gs, 0, none⟩) ns cs, .int .i64 ((pu : Nat) : Int), .int .i64 ((ru : Nat) : Int)] 118, .row (.slice (some ⟨gl, 0, none⟩) sn cl) 3 1 sn (List.map (Value.int .i64) L), .row (.slice (some ⟨gd, 0, none⟩) pg cd) 4 1 pg (List.map Value.bool D), .row (.slice (some ⟨gs, 0, none⟩) ns cs) 3 1 ns (List.map (Value.int .i64) S)]) w0 w0 [.blk p #[.int .i64 r, .int .i64 s, .int .i64 b, .int .i64 o, .int .i64 c, .int .i64 y, .int .i64 z, .slice (some ⟨gl, 0, none⟩) sn cl, .slice (some ⟨gd, 0, none⟩) pg cd, .slice (some ⟨gs, 0, none⟩) ns cs, .int .i64 ((pu : Nat) : Int), .int .i64 ((ru : Nat) : Int)] 118, .row (.slice (some ⟨gl, 0, none⟩) sn cl) 3 1 sn (List.map (Value.int .i64) L), .row (.slice (some ⟨gd, 0, none⟩) pg cd) 4 1 pg (List.map Value.bool D), .row (.slice (some ⟨gs, 0, none⟩) ns cs) 3 1 ns (List.map (Value.int .i64) S)]) :
    Calls Try.prog 75 #[.pointer (some ⟨p, 0, none⟩), .int .i64 ((q : Nat) : Int), .int .i64 v] w0 fun e w' => e = .returned (.int .i64 0) ∧ Hs (fps [.blk p #[.int .i64 r, .int .i64 s, .int .i64 b, .int .i64 o, .int .i64 c, .int .i64 y, .int .i64 z, .slice (some ⟨gl, 0, none⟩) sn cl, .slice (some ⟨gd, 0, none⟩) pg cd, .slice (some ⟨gs, 0, none⟩) ns cs, .int .i64 ((pu : Nat) : Int), .int .i64 ((ru : Nat) : Int)] 118, .row (.slice (some ⟨gl, 0, none⟩) sn cl) 3 1 sn (List.map (Value.int .i64) L), .row (.slice (some ⟨gd, 0, none⟩) pg cd) 4 1 pg (List.map Value.bool D), .row (.slice (some ⟨gs, 0, none⟩) ns cs) 3 1 ns (List.map (Value.int .i64) S)]) w0 w' [.blk p #[.int .i64 r, .int .i64 s, .int .i64 b, .int .i64 o, .int .i64 c, .int .i64 y, .int .i64 z, .slice (some ⟨gl, 0, none⟩) sn cl, .slice (some ⟨gd, 0, none⟩) pg cd, .slice (some ⟨gs, 0, none⟩) ns cs, .int .i64 ((pu : Nat) : Int), .int .i64 ((ru : Nat) : Int)] 118, .row (.slice (some ⟨gl, 0, none⟩) sn cl) 3 1 sn (List.map (Value.int .i64) L), .row (.slice (some ⟨gd, 0, none⟩) pg cd) 4 1 pg (List.map Value.bool D), .row (.slice (some ⟨gs, 0, none⟩) ns cs) 3 1 ns (List.map (Value.int .i64) (S.set q v))] := by
  refine z_enter Try.func75 rfl ?_
  have H := H0
  obtain ⟨eL, eD, eS, hp, hr⟩ := id hM
  have hok := hL.ok
  obtain ⟨-, r1, r8, s0, s8, b1, b2, o1, o2, c1, c2, y0, y4, z0, z2, hpg, hsn, hns, sn1, pg2, ln0, ln2⟩ := id hL
  have q1 : (decide (0 ≤ (q : Int)) && decide ((q : Int) < (ns : Int))) = true := by simp; omega
  have q2 : (decide (0 ≤ (v - r)) && decide ((v - r) < (ru : Int))) = true := by simp; omega
  have q3 : (decide ((S.getD q 0) = (-1))) = true := by simpa using hs
  refine x_seq <| x_region <| x_b H [.m] <| x_nil <| x_then <| x_seq <| x_block ?_
  refine x_seq <| z_region_whole H <| q_b [.m, .m, .m, .m, .l 0 9, .m] <| q_callB (.bool (decide (0 ≤ (q : Int)) && decide ((q : Int) < (ns : Int)))) (by kernel_rfl) (fun _ => by kernel_rfl) (fun _ => (below_any _ _ _)) <| q_b [.v (.bool (!(decide (0 ≤ (q : Int)) && decide ((q : Int) < (ns : Int))))), .v (.bool (!(decide (0 ≤ (q : Int)) && decide ((q : Int) < (ns : Int)))))] ?_
  rw [q1]
  refine q_b [.m, .m, .m, .m, .m, .m, .l 0 0] <| q_ar (v - r) ⟨by omega, by omega⟩ (by kernel_rfl) (fun _ => by kernel_rfl) <| q_b [.m, .m, .m, .l 0 11] <| q_callB (.bool (decide (0 ≤ (v - r)) && decide ((v - r) < (ru : Int)))) (by kernel_rfl) (fun _ => by kernel_rfl) (fun _ => (below_any _ _ _)) <| q_b [.v (.bool (!(decide (0 ≤ (v - r)) && decide ((v - r) < (ru : Int))))), .v (.bool (!(decide (0 ≤ (v - r)) && decide ((v - r) < (ru : Int))))), .v (.bool (!(decide (0 ≤ (v - r)) && decide ((v - r) < (ru : Int)))))] <| q_nil ?_
  clear H
  intro v1 H
  refine x_then ?_
  rw [q2]
  refine x_f (by kernel_rfl) <| x_seq <| x_region <| x_b H [.m, .m, .m, .l 0 9, .m] <| x_ix (t := 40) gs 0 q ns cs 3 1 q (by omega) (by omega) (by kernel_rfl) (by kernel_rfl) (by kernel_rfl) rfl (by kernel_rfl) <| x_loadc gs q (.int .i64 (S.getD q 0)) (H.rowCell 3 rfl q (mapAt 0 (by omega))) (by kernel_rfl) rfl (by kernel_rfl) <| x_b H [.v (.bool (!(decide ((S.getD q 0) = (-1))))), .v (.bool (!(decide ((S.getD q 0) = (-1)))))] ?_
  refine x_nil <| x_then ?_
  rw [q3]
  refine x_f (by kernel_rfl) <| x_skipc <| x_blk <| x_then <| x_seq <| x_region <| x_b H [.m, .m, .m, .l 0 9, .m, .m] ?_
  refine x_ix (t := 40) gs 0 q ns cs 3 1 q (by omega) (by omega) (by kernel_rfl) (by kernel_rfl) (by kernel_rfl) rfl (by kernel_rfl) <| x_storeRow (t := 3) (v := .int .i64 v) H 3 gs q ns cs 3 1 (List.map (Value.int .i64) S) [.int .i64 v] (List.map (Value.int .i64) (S.set q v)) [.blk p #[.int .i64 r, .int .i64 s, .int .i64 b, .int .i64 o, .int .i64 c, .int .i64 y, .int .i64 z, .slice (some ⟨gl, 0, none⟩) sn cl, .slice (some ⟨gd, 0, none⟩) pg cd, .slice (some ⟨gs, 0, none⟩) ns cs, .int .i64 (pu : Int), .int .i64 (ru : Int)] 118, .row (.slice (some ⟨gl, 0, none⟩) sn cl) 3 1 sn (List.map (Value.int .i64) L), .row (.slice (some ⟨gd, 0, none⟩) pg cd) 4 1 pg (List.map Value.bool D), .row (.slice (some ⟨gs, 0, none⟩) ns cs) 3 1 ns (List.map (Value.int .i64) (S.set q v))] rfl (by simp only [List.length_cons, List.length_nil]; omega) (by kernel_rfl) (setMap (by omega) v) rfl (by kernel_rfl) rfl (by kernel_rfl) (by kernel_rfl) (by kernel_rfl) ?_
  clear H
  intro v2 H
  refine x_nil <| z_fr 48 [] [] fun uf1 => x_then <| x_seq <| x_region <| x_b H [.m] <| x_nil ?_
  refine x_then <| x_retc <| x_ret (.int .i64 0) (by kernel_rfl) (by kernel_rfl) ?_
  exact ⟨rfl, H⟩
set_option maxRecDepth 100000 in
set_option maxHeartbeats 1000000 in
theorem Replace_out {r s b o c y z : Int} {pg sn ns : Nat} (hL : Lay r s b o c y z pg sn ns) {p gl cl gd cd gs cs : Nat} {L : List Int} {D : List Bool} {S : List Int} {pu ru : Nat} (hM : MapOk z s sn pg ns L D S pu ru) (i v : Int) (hi : 0 ≤ i → ((ns : Nat) : Int) ≤ i) (w0 : World) (H0 : Hs (fps [.blk p #[.int .i64 r, .int .i64 s, .int .i64 b, .int .i64 o, .int .i64 c, .int .i64 y, .int .i64 z, .slice (some ⟨gl, 0, none⟩) sn cl, .slice (some ⟨gd, 0, none⟩) pg cd, .slice (some ⟨gs, 0, none⟩) ns cs, .int .i64 ((pu : Nat) : Int), .int .i64 ((ru : Nat) : Int)] 118, .row (.slice (some ⟨gl, 0, none⟩) sn cl) 3 1 sn (List.map (Value.int .i64) L), .row (.slice (some ⟨gd, 0, none⟩) pg cd) 4 1 pg (List.map Value.bool D), .row (.slice (some ⟨gs, 0, none⟩) ns cs) 3 1 ns (List.map (Value.int .i64) S)]) w0 w0 [.blk p #[.int .i64 r, .int .i64 s, .int .i64 b, .int .i64 o, .int .i64 c, .int .i64 y, .int .i64 z, .slice (some ⟨gl, 0, none⟩) sn cl, .slice (some ⟨gd, 0, none⟩) pg cd, .slice (some ⟨gs, 0, none⟩) ns cs, .int .i64 ((pu : Nat) : Int), .int .i64 ((ru : Nat) : Int)] 118, .row (.slice (some ⟨gl, 0, none⟩) sn cl) 3 1 sn (List.map (Value.int .i64) L), .row (.slice (some ⟨gd, 0, none⟩) pg cd) 4 1 pg (List.map Value.bool D), .row (.slice (some ⟨gs, 0, none⟩) ns cs) 3 1 ns (List.map (Value.int .i64) S)]) :
    Calls Try.prog 75 #[.pointer (some ⟨p, 0, none⟩), .int .i64 i, .int .i64 v] w0 fun e w' => e = .returned (.int .i64 12) ∧ Hs (fps [.blk p #[.int .i64 r, .int .i64 s, .int .i64 b, .int .i64 o, .int .i64 c, .int .i64 y, .int .i64 z, .slice (some ⟨gl, 0, none⟩) sn cl, .slice (some ⟨gd, 0, none⟩) pg cd, .slice (some ⟨gs, 0, none⟩) ns cs, .int .i64 ((pu : Nat) : Int), .int .i64 ((ru : Nat) : Int)] 118, .row (.slice (some ⟨gl, 0, none⟩) sn cl) 3 1 sn (List.map (Value.int .i64) L), .row (.slice (some ⟨gd, 0, none⟩) pg cd) 4 1 pg (List.map Value.bool D), .row (.slice (some ⟨gs, 0, none⟩) ns cs) 3 1 ns (List.map (Value.int .i64) S)]) w0 w' [.blk p #[.int .i64 r, .int .i64 s, .int .i64 b, .int .i64 o, .int .i64 c, .int .i64 y, .int .i64 z, .slice (some ⟨gl, 0, none⟩) sn cl, .slice (some ⟨gd, 0, none⟩) pg cd, .slice (some ⟨gs, 0, none⟩) ns cs, .int .i64 ((pu : Nat) : Int), .int .i64 ((ru : Nat) : Int)] 118, .row (.slice (some ⟨gl, 0, none⟩) sn cl) 3 1 sn (List.map (Value.int .i64) L), .row (.slice (some ⟨gd, 0, none⟩) pg cd) 4 1 pg (List.map Value.bool D), .row (.slice (some ⟨gs, 0, none⟩) ns cs) 3 1 ns (List.map (Value.int .i64) S)] := by
  refine z_enter Try.func75 rfl ?_
  have H := H0
  obtain ⟨eL, eD, eS, hp, hr⟩ := id hM
  have hok := hL.ok
  obtain ⟨-, r1, r8, s0, s8, b1, b2, o1, o2, c1, c2, y0, y4, z0, z2, hpg, hsn, hns, sn1, pg2, ln0, ln2⟩ := id hL
  have q1 : (decide (0 ≤ i) && decide (i < (ns : Int))) = false := by simpa using hi
  refine x_seq <| x_region <| x_b H [.m] <| x_nil <| x_then <| x_seq <| x_block ?_
  refine x_seq <| z_region_whole H <| q_b [.m, .m, .m, .m, .l 0 9, .m] <| q_callB (.bool (decide (0 ≤ i) && decide (i < (ns : Int)))) (by kernel_rfl) (fun _ => by kernel_rfl) (fun _ => (below_any _ _ _)) <| q_b [.v (.bool (!(decide (0 ≤ i) && decide (i < (ns : Int))))), .v (.bool (!(decide (0 ≤ i) && decide (i < (ns : Int)))))] ?_
  rw [q1]
  refine q_b [.k, .k, .k, .k, .k, .k, .k, .k, .k, .k, .k, .k, .k, .k, .m, .m] <| q_nil ?_
  clear H
  intro v1 H
  refine x_then <| x_t (by kernel_rfl) <| x_seq <| x_region <| x_b H [.m] <| x_nil <| x_then ?_
  refine x_retc <| x_blk_ret <| x_then_ret <| x_ret (.int .i64 12) (by kernel_rfl) (by kernel_rfl) ?_
  exact ⟨rfl, H⟩
def idxP (y r b o : Int) (S : List Int) (h : Int) : Int := if S.getD (pgAt y r b o h / 16384).toNat 0 = -1 then pgAt y r b o h else pgAt y r b o h + (S.getD (pgAt y r b o h / 16384).toNat 0 - pgAt y r b o h / 16384) * 16384
theorem geom_of {r s b o c y z : Int} {pg sn ns : Nat} (hL : Lay r s b o c y z pg sn ns) : geomOk r s b o c = true := by
  have := hL.ok; unfold layoutOk interOk at this; simp only [Bool.and_eq_true] at this; exact this.1.1
theorem Index_at {r s b o c y z : Int} {pg sn ns : Nat} (hL : Lay r s b o c y z pg sn ns) {p gl cl gd cd gs cs : Nat} {L : List Int} {D : List Bool} {S : List Int} {pu ru : Nat} (hM : MapOk z s sn pg ns L D S pu ru) {C : Nat} (hC : c = (C : Int)) (hLv : ∀ k, k < sn → 0 ≤ L.getD k 0 ∧ L.getD k 0 < (pg : Int)) (hSv : ∀ q, q < ns → S.getD q 0 = -1 ∨ (0 ≤ S.getD q 0 ∧ S.getD q 0 < r + s)) (n : Nat) (hn : (n : Int) < (sn : Int) * c) (w0 : World) (hR : Ro w0 [.blk p #[.int .i64 r, .int .i64 s, .int .i64 b, .int .i64 o, .int .i64 c, .int .i64 y, .int .i64 z, .slice (some ⟨gl, 0, none⟩) sn cl, .slice (some ⟨gd, 0, none⟩) pg cd, .slice (some ⟨gs, 0, none⟩) ns cs, .int .i64 ((pu : Nat) : Int), .int .i64 ((ru : Nat) : Int)] 118, .row (.slice (some ⟨gl, 0, none⟩) sn cl) 3 1 sn (List.map (Value.int .i64) L), .row (.slice (some ⟨gd, 0, none⟩) pg cd) 4 1 pg (List.map Value.bool D), .row (.slice (some ⟨gs, 0, none⟩) ns cs) 3 1 ns (List.map (Value.int .i64) S)]) :
    Calls Try.prog 30 #[.pointer (some ⟨p, 0, none⟩), .int .i64 (n : Int)] w0 fun e w' => e = .returned (.tuple #[.int .i64 (idxP y r b o S (L.getD (n / C) 0) * 64 + ((n % C : Nat) : Int)), .int .i64 (L.getD (n / C) 0), .int .i64 (pgAt y r b o (L.getD (n / C) 0) / 16384), .int .i64 0]) ∧ Below w0.heap.size w0 w' := by
  have hg := geom_of hL
  have c1 := hL.c1
  have hns := hL.hns
  have hC0 : 0 < C := by omega
  rw [hC] at hn
  have hn' : n < sn * C := by exact_mod_cast hn
  have hk : n / C < sn := Nat.div_lt_of_lt_mul (by rw [Nat.mul_comm]; exact hn')
  have hj : ((n % C : Nat) : Int) < c := by have := Nat.mod_lt n hC0; omega
  have e : ((n / C : Nat) : Int) * c + ((n % C : Nat) : Int) = (n : Int) := by
    rw [hC]; have := Nat.div_add_mod n C; rw [Nat.mul_comm] at this; exact_mod_cast this
  obtain ⟨h0, h1⟩ := hLv _ hk
  obtain ⟨N, hN⟩ := Int.eq_ofNat_of_zero_le h0
  rw [hN] at h1 ⊢
  obtain ⟨p1, p2, p3⟩ := pgAt_bd y (N : Int) hg
  obtain ⟨Q, hQ⟩ := Int.eq_ofNat_of_zero_le (show 0 ≤ pgAt y r b o (N : Int) / 16384 by omega)
  have hQs : Q < ns := by omega
  unfold idxP
  rw [hQ, Int.toNat_natCast]
  by_cases hs : S.getD Q 0 = -1
  · rw [if_pos hs]
    have := Index_no hL hM (n / C) (n % C) hk hj N Q (by omega) hQ hQs hN hs w0 hR
    rwa [e] at this
  · rw [if_neg hs]
    have := Index_yes hL hM (n / C) (n % C) hk hj N Q (by omega) hQ hQs hN hs ((hSv Q hQs).resolve_left hs) w0 hR
    rwa [e] at this
set_option maxRecDepth 100000 in
set_option maxHeartbeats 1000000 in
theorem Layout_of {r s b o c y z : Int} {pg sn ns : Nat} (hL : Lay r s b o c y z pg sn ns) {p gl cl gd cd gs cs : Nat} {L : List Int} {D : List Bool} {S : List Int} {pu ru : Nat} (hM : MapOk z s sn pg ns L D S pu ru)  (w0 : World) (hR : Ro w0 [.blk p #[.int .i64 r, .int .i64 s, .int .i64 b, .int .i64 o, .int .i64 c, .int .i64 y, .int .i64 z, .slice (some ⟨gl, 0, none⟩) sn cl, .slice (some ⟨gd, 0, none⟩) pg cd, .slice (some ⟨gs, 0, none⟩) ns cs, .int .i64 ((pu : Nat) : Int), .int .i64 ((ru : Nat) : Int)] 118, .row (.slice (some ⟨gl, 0, none⟩) sn cl) 3 1 sn (List.map (Value.int .i64) L), .row (.slice (some ⟨gd, 0, none⟩) pg cd) 4 1 pg (List.map Value.bool D), .row (.slice (some ⟨gs, 0, none⟩) ns cs) 3 1 ns (List.map (Value.int .i64) S)]) :
    Calls Try.prog 26 #[.pointer (some ⟨p, 0, none⟩)] w0 fun e w' => e = .returned (.agg #[.int .i64 r, .int .i64 s, .int .i64 b, .int .i64 o, .int .i64 c, .int .i64 y, .int .i64 z]) ∧ Below w0.heap.size w0 w' := by
  refine z_enter Try.func26 rfl ?_
  have H := Hs.nil w0
  have R0 := hR
  obtain ⟨eL, eD, eS, hp, hr⟩ := id hM
  have hok := hL.ok
  obtain ⟨-, r1, r8, s0, s8, b1, b2, o1, o2, c1, c2, y0, y4, z0, z2, hpg, hsn, hns, sn1, pg2, ln0, ln2⟩ := id hL
  refine x_seq <| x_region <| z_box H #[.int .i64 0, .int .i64 0, .int .i64 0, .int .i64 0, .int .i64 0, .int .i64 0, .int .i64 0] 25 (fun v1 g1 H => ?_)
  refine x_nil <| x_then <| x_seq <| x_region <| x_b H [.m, .m, .m] <| x_loadcn (t := 25) p 0 [.int .i64 r, .int .i64 s, .int .i64 b, .int .i64 o, .int .i64 c, .int .i64 y, .int .i64 z] ((H.ro R0).cells 0 rfl 0 (by kernel_rfl)) (by kernel_rfl) rfl (by kernel_rfl) (by kernel_rfl) <| z_store H 0 0 [.int .i64 r, .int .i64 s, .int .i64 b, .int .i64 o, .int .i64 c, .int .i64 y, .int .i64 z] (fun v2 H => ?_)
  refine x_nil <| x_then <| x_retc <| x_ret (.agg #[.int .i64 r, .int .i64 s, .int .i64 b, .int .i64 o, .int .i64 c, .int .i64 y, .int .i64 z]) (by kernel_rfl) (x_rescell H 0 g1 0 #[.int .i64 r, .int .i64 s, .int .i64 b, .int .i64 o, .int .i64 c, .int .i64 y, .int .i64 z] 25 [.int .i64 r, .int .i64 s, .int .i64 b, .int .i64 o, .int .i64 c, .int .i64 y, .int .i64 z] (fun x => x) (by kernel_rfl) (by kernel_rfl) (by kernel_rfl)) ?_
  exact ⟨rfl, H.below⟩
end Go.Proofs.Ytpmnnijjohlloaa
