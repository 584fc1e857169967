/- A map held against the document's. -/
import Derived.Test.YtpmnnijjohlloaaRemapW
import Derived.Test.YtpmnnijjohlloaaPxZ
namespace Go.Proofs.Ytpmnnijjohlloaa
open Go Go.RowKit
set_option linter.unusedVariables false
set_option linter.unusedSimpArgs false

theorem idxP_in {r s b o c y z : Int} {pg sn ns : Nat} (hL : Lay r s b o c y z pg sn ns) {L : List Int} {D : List Bool} {S : List Int} {pu ru : Nat} (hV : MapV r s z sn pg ns L D S pu ru) {h : Int} (h0 : 0 ≤ h) (h1 : h < (pg : Int)) : 0 ≤ idxP y r b o S h ∧ idxP y r b o S h ≤ 2000000 := by
  obtain ⟨p1, p2, p3⟩ := pgAt_bd y h (geom_of hL)
  have hns := hL.hns
  have r8 := hL.r8
  have hr := hV.m.hr
  have s8 := hL.s8
  have hs := hV.sv (pgAt y r b o h / 16384).toNat (by omega)
  unfold idxP
  split <;> omega
theorem ix_kj {c k j : Int} (hc : 1 ≤ c) (hj0 : 0 ≤ j) (hj : j < c) : (k * c + j) / c = k ∧ (k * c + j) % c = j := by
  have e : k * c + j = j + c * k := by rw [Int.mul_comm c k]; omega
  rw [e]
  exact ⟨by rw [Int.add_mul_ediv_left _ _ (by omega), Int.ediv_eq_zero_of_lt hj0 hj]; omega, by rw [Int.add_mul_emod_self_left]; exact Int.emod_eq_of_lt hj0 hj⟩
theorem kj_in {c k j n : Int} (hc : 1 ≤ c) (hk0 : 0 ≤ k) (hk : k < n) (hj0 : 0 ≤ j) (hj : j < c) : 0 ≤ k * c + j ∧ k * c + j < n * c := by
  have h1 : 0 ≤ k * c := Int.mul_nonneg hk0 (by omega)
  have h2 : (k + 1) * c ≤ n * c := Int.mul_le_mul_of_nonneg_right (by omega) (by omega)
  rw [Int.add_mul, Int.one_mul] at h2
  omega
theorem Index_kj {r s b o c y z : Int} {pg sn ns : Nat} (hL : Lay r s b o c y z pg sn ns) {p gl cl gd cd gs cs : Nat} {L : List Int} {D : List Bool} {S : List Int} {pu ru : Nat} (hV : MapV r s z sn pg ns L D S pu ru) (k j : Nat) (hk : k < sn) (hj : ((j : Nat) : Int) < c) (w0 : World) (hR : Ro w0 [.blk p #[.int .i64 r, .int .i64 s, .int .i64 b, .int .i64 o, .int .i64 c, .int .i64 y, .int .i64 z, .slice (some ⟨gl, 0, none⟩) sn cl, .slice (some ⟨gd, 0, none⟩) pg cd, .slice (some ⟨gs, 0, none⟩) ns cs, .int .i64 ((pu : Nat) : Int), .int .i64 ((ru : Nat) : Int)] 118, .row (.slice (some ⟨gl, 0, none⟩) sn cl) 3 1 sn (List.map (Value.int .i64) L), .row (.slice (some ⟨gd, 0, none⟩) pg cd) 4 1 pg (List.map Value.bool D), .row (.slice (some ⟨gs, 0, none⟩) ns cs) 3 1 ns (List.map (Value.int .i64) S)]) :
    Calls Try.prog 30 #[.pointer (some ⟨p, 0, none⟩), .int .i64 (((k : Nat) : Int) * c + ((j : Nat) : Int))] w0 fun e w' => e = .returned (.tuple #[.int .i64 (idxP y r b o S (L.getD k 0) * 64 + ((j : Nat) : Int)), .int .i64 (L.getD k 0), .int .i64 (pgAt y r b o (L.getD k 0) / 16384), .int .i64 0]) ∧ Below w0.heap.size w0 w' := by
  have h := Index_any hL hV (((k : Nat) : Int) * c + ((j : Nat) : Int)) w0 hR
  have hc := hL.c1
  have hi := kj_in (n := (sn : Int)) hc (Int.natCast_nonneg k) (by omega) (Int.natCast_nonneg j) hj
  obtain ⟨e1, e2⟩ := ix_kj (k := ((k : Nat) : Int)) hc (Int.natCast_nonneg j) hj
  unfold ixI ixH ixR ixE at h
  rw [if_pos hi, if_pos hi, if_pos hi, if_pos hi, e1, e2, Int.toNat_natCast] at h
  exact h
theorem Lies_k {r s b o c y z : Int} {pg sn ns : Nat} (hL : Lay r s b o c y z pg sn ns) {p gl cl gd cd gs cs : Nat} {L : List Int} {D : List Bool} {S : List Int} {pu ru : Nat} (hV : MapV r s z sn pg ns L D S pu ru) (k : Nat) (hk : k < pg) (w0 : World) (hR : Ro w0 [.blk p #[.int .i64 r, .int .i64 s, .int .i64 b, .int .i64 o, .int .i64 c, .int .i64 y, .int .i64 z, .slice (some ⟨gl, 0, none⟩) sn cl, .slice (some ⟨gd, 0, none⟩) pg cd, .slice (some ⟨gs, 0, none⟩) ns cs, .int .i64 ((pu : Nat) : Int), .int .i64 ((ru : Nat) : Int)] 118, .row (.slice (some ⟨gl, 0, none⟩) sn cl) 3 1 sn (List.map (Value.int .i64) L), .row (.slice (some ⟨gd, 0, none⟩) pg cd) 4 1 pg (List.map Value.bool D), .row (.slice (some ⟨gs, 0, none⟩) ns cs) 3 1 ns (List.map (Value.int .i64) S)]) :
    Calls Try.prog 29 #[.pointer (some ⟨p, 0, none⟩), .int .i64 ((k : Nat) : Int)] w0 fun e w' => e = .returned (.tuple #[.int .i64 (idxP y r b o S ((k : Nat) : Int)), .int .i64 0]) ∧ Below w0.heap.size w0 w' := by
  have h := Lies_any hL hV ((k : Nat) : Int) w0 hR
  unfold liV rngE at h
  rw [if_pos (by omega), if_pos (by omega)] at h
  exact h
theorem Lives_k {r s b o c y z : Int} {pg sn ns : Nat} (hL : Lay r s b o c y z pg sn ns) {p gl cl gd cd gs cs : Nat} {L : List Int} {D : List Bool} {S : List Int} {pu ru : Nat} (hV : MapV r s z sn pg ns L D S pu ru) (k : Nat) (hk : k < sn) (w0 : World) (hR : Ro w0 [.blk p #[.int .i64 r, .int .i64 s, .int .i64 b, .int .i64 o, .int .i64 c, .int .i64 y, .int .i64 z, .slice (some ⟨gl, 0, none⟩) sn cl, .slice (some ⟨gd, 0, none⟩) pg cd, .slice (some ⟨gs, 0, none⟩) ns cs, .int .i64 ((pu : Nat) : Int), .int .i64 ((ru : Nat) : Int)] 118, .row (.slice (some ⟨gl, 0, none⟩) sn cl) 3 1 sn (List.map (Value.int .i64) L), .row (.slice (some ⟨gd, 0, none⟩) pg cd) 4 1 pg (List.map Value.bool D), .row (.slice (some ⟨gs, 0, none⟩) ns cs) 3 1 ns (List.map (Value.int .i64) S)]) :
    Calls Try.prog 34 #[.pointer (some ⟨p, 0, none⟩), .int .i64 ((k : Nat) : Int)] w0 fun e w' => e = .returned (.tuple #[.int .i64 (L.getD k 0), .int .i64 0]) ∧ Below w0.heap.size w0 w' := by
  have h := Lives_any hL hV ((k : Nat) : Int) w0 hR
  unfold lvV rngE at h
  rw [if_pos (by omega), if_pos (by omega), Int.toNat_natCast] at h
  exact h
theorem Lives_o {r s b o c y z : Int} {pg sn ns : Nat} (hL : Lay r s b o c y z pg sn ns) {p gl cl gd cd gs cs : Nat} {L : List Int} {D : List Bool} {S : List Int} {pu ru : Nat} (hV : MapV r s z sn pg ns L D S pu ru) (k : Int) (hk : ¬ (0 ≤ k ∧ k < (sn : Int))) (w0 : World) (hR : Ro w0 [.blk p #[.int .i64 r, .int .i64 s, .int .i64 b, .int .i64 o, .int .i64 c, .int .i64 y, .int .i64 z, .slice (some ⟨gl, 0, none⟩) sn cl, .slice (some ⟨gd, 0, none⟩) pg cd, .slice (some ⟨gs, 0, none⟩) ns cs, .int .i64 ((pu : Nat) : Int), .int .i64 ((ru : Nat) : Int)] 118, .row (.slice (some ⟨gl, 0, none⟩) sn cl) 3 1 sn (List.map (Value.int .i64) L), .row (.slice (some ⟨gd, 0, none⟩) pg cd) 4 1 pg (List.map Value.bool D), .row (.slice (some ⟨gs, 0, none⟩) ns cs) 3 1 ns (List.map (Value.int .i64) S)]) :
    Calls Try.prog 34 #[.pointer (some ⟨p, 0, none⟩), .int .i64 k] w0 fun e w' => e = .returned (.tuple #[.int .i64 0, .int .i64 12]) ∧ Below w0.heap.size w0 w' := by
  have h := Lives_any hL hV k w0 hR
  unfold lvV rngE at h
  rw [if_neg hk, if_neg hk] at h
  exact h
theorem Dead_k {r s b o c y z : Int} {pg sn ns : Nat} (hL : Lay r s b o c y z pg sn ns) {p gl cl gd cd gs cs : Nat} {L : List Int} {D : List Bool} {S : List Int} {pu ru : Nat} (hV : MapV r s z sn pg ns L D S pu ru) (k : Nat) (hk : k < pg) (w0 : World) (hR : Ro w0 [.blk p #[.int .i64 r, .int .i64 s, .int .i64 b, .int .i64 o, .int .i64 c, .int .i64 y, .int .i64 z, .slice (some ⟨gl, 0, none⟩) sn cl, .slice (some ⟨gd, 0, none⟩) pg cd, .slice (some ⟨gs, 0, none⟩) ns cs, .int .i64 ((pu : Nat) : Int), .int .i64 ((ru : Nat) : Int)] 118, .row (.slice (some ⟨gl, 0, none⟩) sn cl) 3 1 sn (List.map (Value.int .i64) L), .row (.slice (some ⟨gd, 0, none⟩) pg cd) 4 1 pg (List.map Value.bool D), .row (.slice (some ⟨gs, 0, none⟩) ns cs) 3 1 ns (List.map (Value.int .i64) S)]) :
    Calls Try.prog 59 #[.pointer (some ⟨p, 0, none⟩), .int .i64 ((k : Nat) : Int)] w0 fun e w' => e = .returned (.bool (D.getD k false)) ∧ Below w0.heap.size w0 w' := by
  have h := Dead_any hL hV ((k : Nat) : Int) w0 hR
  unfold ddV at h
  rw [decide_eq_true (show 0 ≤ ((k : Nat) : Int) ∧ ((k : Nat) : Int) < (pg : Int) by omega), Bool.true_and, Int.toNat_natCast] at h
  exact h
theorem Used_k {r s b o c y z : Int} {pg sn ns : Nat} (hL : Lay r s b o c y z pg sn ns) {p gl cl gd cd gs cs : Nat} {L : List Int} {D : List Bool} {S : List Int} {pu ru : Nat} (hV : MapV r s z sn pg ns L D S pu ru) (k : Nat) (w0 : World) (hR : Ro w0 [.blk p #[.int .i64 r, .int .i64 s, .int .i64 b, .int .i64 o, .int .i64 c, .int .i64 y, .int .i64 z, .slice (some ⟨gl, 0, none⟩) sn cl, .slice (some ⟨gd, 0, none⟩) pg cd, .slice (some ⟨gs, 0, none⟩) ns cs, .int .i64 ((pu : Nat) : Int), .int .i64 ((ru : Nat) : Int)] 118, .row (.slice (some ⟨gl, 0, none⟩) sn cl) 3 1 sn (List.map (Value.int .i64) L), .row (.slice (some ⟨gd, 0, none⟩) pg cd) 4 1 pg (List.map Value.bool D), .row (.slice (some ⟨gs, 0, none⟩) ns cs) 3 1 ns (List.map (Value.int .i64) S)]) :
    Calls Try.prog 18 #[.pointer (some ⟨p, 0, none⟩), .int .i64 ((k : Nat) : Int)] w0 fun e w' => e = .returned (.bool (decide (((k : Nat) : Int) < ((sn : Nat) : Int) + ((pu : Nat) : Int)) && !(D.getD k false))) ∧ Below w0.heap.size w0 w' := by
  have h := Used_anyV hL hV ((k : Nat) : Int) w0 hR
  unfold usV at h
  rw [show decide (0 ≤ ((k : Nat) : Int) ∧ ((k : Nat) : Int) < ((sn : Nat) : Int) + ((pu : Nat) : Int)) = decide (((k : Nat) : Int) < ((sn : Nat) : Int) + ((pu : Nat) : Int)) by congr 1; exact propext ⟨fun h => h.2, fun h => ⟨by omega, h⟩⟩, Int.toNat_natCast] at h
  exact h
theorem Spare_k {r s b o c y z : Int} {pg sn ns : Nat} (hL : Lay r s b o c y z pg sn ns) {p gl cl gd cd gs cs : Nat} {L : List Int} {D : List Bool} {S : List Int} {pu ru : Nat} (hV : MapV r s z sn pg ns L D S pu ru) (k : Nat) (hk : k < ns) (w0 : World) (hR : Ro w0 [.blk p #[.int .i64 r, .int .i64 s, .int .i64 b, .int .i64 o, .int .i64 c, .int .i64 y, .int .i64 z, .slice (some ⟨gl, 0, none⟩) sn cl, .slice (some ⟨gd, 0, none⟩) pg cd, .slice (some ⟨gs, 0, none⟩) ns cs, .int .i64 ((pu : Nat) : Int), .int .i64 ((ru : Nat) : Int)] 118, .row (.slice (some ⟨gl, 0, none⟩) sn cl) 3 1 sn (List.map (Value.int .i64) L), .row (.slice (some ⟨gd, 0, none⟩) pg cd) 4 1 pg (List.map Value.bool D), .row (.slice (some ⟨gs, 0, none⟩) ns cs) 3 1 ns (List.map (Value.int .i64) S)]) (t : Bool) (ht : decide (S.getD k 0 = -1) = t) :
    Calls Try.prog 61 #[.pointer (some ⟨p, 0, none⟩), .int .i64 ((k : Nat) : Int)] w0 fun e w' => e = .returned (.tuple #[.int .i64 (if t = true then 0 else S.getD k 0), .bool (!t)]) ∧ Below w0.heap.size w0 w' := by
  have h := Spare_any hL hV ((k : Nat) : Int) w0 hR
  have e : spK ns S ((k : Nat) : Int) = !t := by
    unfold spK
    rw [decide_eq_true (show 0 ≤ ((k : Nat) : Int) ∧ ((k : Nat) : Int) < (ns : Int) by omega), Bool.true_and, Int.toNat_natCast, ht]
  unfold spV at h
  rw [e, Int.toNat_natCast] at h
  cases t <;> exact h

theorem Lies19I {r s b o c y z : Int} {pg sn ns : Nat} (hL : Lay r s b o c y z pg sn ns) {L : List Int} {D : List Bool} {S : List Int} {Pg Rk : List Ent} {pu ru : Nat} {lv pv kv : Value} (hd : DocM pg sn ns L D S Pg Rk) (hp8 : Pg.length ≤ 4000) (hr8 : Rk.length ≤ 4000) (h : Int) (h0 : 0 ≤ h) (h1 : h < (pg : Int)) (w0 : World) (hR : Ro w0 [.row (lv) 3 1 pg (List.map (Value.int .i64) (layL y r b o pg)), .row (kv) 156 2 (List.length Rk) (List.flatMap entL Rk)]) : Calls Try.prog 76 #[.agg #[.int .i64 r, .int .i64 s, .int .i64 b, .int .i64 o, .int .i64 c, .int .i64 y, .int .i64 z, lv, pv, kv, .int .i64 ((pu : Nat) : Int), .int .i64 ((ru : Nat) : Int)], .int .i64 h] w0 fun e w' => e = .returned (.int .i64 (idxP y r b o S h)) ∧ Below w0.heap.size w0 w' := by
  obtain ⟨k, rfl⟩ := Int.eq_ofNat_of_zero_le h0
  exact Lies19 hL hd hp8 hr8 k (by omega) w0 hR

set_option maxRecDepth 100000 in
set_option maxHeartbeats 4000000 in
theorem rsame_s {M : List Nat} {r s b o c y z : Int} {pg sn ns : Nat} (hL : Lay r s b o c y z pg sn ns) {p gl cl gd cd gs cs : Nat} {L : List Int} {D : List Bool} {S : List Int} {pu ru : Nat} (hV : MapV r s z sn pg ns L D S pu ru) {Pg Rk : List Ent} {gy cy : Nat} {pv kv : Value} (hd : DocM pg sn ns L D S Pg Rk) (hp8 : Pg.length ≤ 4000) (hr8 : Rk.length ≤ 4000) (w0 : World) (H0 : Hs M w0 w0 [.blk p #[.int .i64 r, .int .i64 s, .int .i64 b, .int .i64 o, .int .i64 c, .int .i64 y, .int .i64 z, .slice (some ⟨gl, 0, none⟩) sn cl, .slice (some ⟨gd, 0, none⟩) pg cd, .slice (some ⟨gs, 0, none⟩) ns cs, .int .i64 ((pu : Nat) : Int), .int .i64 ((ru : Nat) : Int)] 118, .row (.slice (some ⟨gl, 0, none⟩) sn cl) 3 1 sn (List.map (Value.int .i64) L), .row (.slice (some ⟨gd, 0, none⟩) pg cd) 4 1 pg (List.map Value.bool D), .row (.slice (some ⟨gs, 0, none⟩) ns cs) 3 1 ns (List.map (Value.int .i64) S), .row (.slice (some ⟨gy, 0, none⟩) pg cy) 3 1 pg (List.map (Value.int .i64) (layL y r b o pg)), .row (pv) 156 2 (List.length Pg) (List.flatMap entL Pg), .row (kv) 156 2 (List.length Rk) (List.flatMap entL Rk)]) :
    Calls Try.prog 28 #[.pointer (some ⟨p, 0, none⟩), .agg #[.int .i64 r, .int .i64 s, .int .i64 b, .int .i64 o, .int .i64 c, .int .i64 y, .int .i64 z, .slice (some ⟨gy, 0, none⟩) pg cy, pv, kv, .int .i64 ((pu : Nat) : Int), .int .i64 ((ru : Nat) : Int)]] w0 fun e w' => e = .returned (.bool true) ∧ Hs M w0 w' [.blk p #[.int .i64 r, .int .i64 s, .int .i64 b, .int .i64 o, .int .i64 c, .int .i64 y, .int .i64 z, .slice (some ⟨gl, 0, none⟩) sn cl, .slice (some ⟨gd, 0, none⟩) pg cd, .slice (some ⟨gs, 0, none⟩) ns cs, .int .i64 ((pu : Nat) : Int), .int .i64 ((ru : Nat) : Int)] 118, .row (.slice (some ⟨gl, 0, none⟩) sn cl) 3 1 sn (List.map (Value.int .i64) L), .row (.slice (some ⟨gd, 0, none⟩) pg cd) 4 1 pg (List.map Value.bool D), .row (.slice (some ⟨gs, 0, none⟩) ns cs) 3 1 ns (List.map (Value.int .i64) S), .row (.slice (some ⟨gy, 0, none⟩) pg cy) 3 1 pg (List.map (Value.int .i64) (layL y r b o pg)), .row (pv) 156 2 (List.length Pg) (List.flatMap entL Pg), .row (kv) 156 2 (List.length Rk) (List.flatMap entL Rk)] := by
  refine z_enter Try.func28 rfl ?_
  have H := H0
  have hp := hV.m.hp
  have hru := hV.m.hr
  have hsn := hL.hsn
  have hns := hL.hns
  have hpg2 := hL.pg2
  have hr8' := hL.r8
  have hs8 := hL.s8
  have hr1 := hL.r1
  have hz0 := hL.z0
  have hz2 := hL.z2
  have hs0 := hL.s0
  have hc1 := hL.c1
  have hc2 := hL.c2
  have hln := hL.ln2
  have hlen := layL_len y r b o pg
  refine x_seq <| x_region <| z_box H #[.int .i64 r, .int .i64 s, .int .i64 b, .int .i64 o, .int .i64 c, .int .i64 y, .int .i64 z, .slice (some ⟨gy, 0, none⟩) pg cy, pv, kv, .int .i64 (pu : Int), .int .i64 (ru : Int)] 43 (fun v1 g1 H => ?_)
  refine x_b H [.m] <| x_nil <| x_then <| x_seq <| x_seq <| x_region <| x_b H [.m, .l 0 7, .m, .m] ?_
  refine x_nil <| x_then <| x_block <| x_loop (G := Nat) (fun (k : Nat) a w' => ∃ uf1 : Nat → Value, a = frm 168 uf1 [(0, .pointer (some ⟨p, 0, none⟩)), (3, .pointer (some ⟨g1, 0, none⟩)), (21, .int .i64 (pg : Int)), (22, .int .i64 (k : Int))] [] ∧ Hs M w0 w' [.blk g1 #[.int .i64 r, .int .i64 s, .int .i64 b, .int .i64 o, .int .i64 c, .int .i64 y, .int .i64 z, .slice (some ⟨gy, 0, none⟩) pg cy, pv, kv, .int .i64 (pu : Int), .int .i64 (ru : Int)] 43, .blk p #[.int .i64 r, .int .i64 s, .int .i64 b, .int .i64 o, .int .i64 c, .int .i64 y, .int .i64 z, .slice (some ⟨gl, 0, none⟩) sn cl, .slice (some ⟨gd, 0, none⟩) pg cd, .slice (some ⟨gs, 0, none⟩) ns cs, .int .i64 (pu : Int), .int .i64 (ru : Int)] 118, .row (.slice (some ⟨gl, 0, none⟩) sn cl) 3 1 sn (List.map (Value.int .i64) L), .row (.slice (some ⟨gd, 0, none⟩) pg cd) 4 1 pg (List.map Value.bool D), .row (.slice (some ⟨gs, 0, none⟩) ns cs) 3 1 ns (List.map (Value.int .i64) S), .row (.slice (some ⟨gy, 0, none⟩) pg cy) 3 1 pg (List.map (Value.int .i64) (layL y r b o pg)), .row (pv) 156 2 (List.length Pg) (List.flatMap entL Pg), .row (kv) 156 2 (List.length Rk) (List.flatMap entL Rk)] ∧ (k ≤ pg)) (fun (k : Nat) => pg - k) 0 ⟨_, frm_of, H, (Nat.zero_le _)⟩ ?_
  clear H
  rintro k _ v2 ⟨uf1, rfl, H, r1⟩
  have hik := fun (hk : k < pg) => idxP_in hL hV (h := (k : Int)) (by omega) (by omega)
  refine x_seq <| x_region <| x_b H [.v (.bool (decide ((k : Int) < (pg : Int))))] <| x_nil <| x_then <| x_seq ?_
  cases h1 : decide ((k : Int) < (pg : Int))
  · skip
    have h1p := of_decide_eq_false h1
    refine x_f (by kernel_rfl) <| x_exit <| x_then_exit <| x_then_exit <| x_blk_exit <| x_then <| x_seq ?_
    refine x_seq <| x_region <| x_b H [.m, .m, .l 0 0, .m] <| x_nil <| x_then <| x_block <| x_loop (G := Nat) (fun (q : Nat) a w' => ∃ uf2 : Nat → Value, a = frm 168 uf2 [(0, .pointer (some ⟨p, 0, none⟩)), (3, .pointer (some ⟨g1, 0, none⟩)), (144, .int .i64 r), (145, .int .i64 (q : Int))] [] ∧ Hs M w0 w' [.blk g1 #[.int .i64 r, .int .i64 s, .int .i64 b, .int .i64 o, .int .i64 c, .int .i64 y, .int .i64 z, .slice (some ⟨gy, 0, none⟩) pg cy, pv, kv, .int .i64 (pu : Int), .int .i64 (ru : Int)] 43, .blk p #[.int .i64 r, .int .i64 s, .int .i64 b, .int .i64 o, .int .i64 c, .int .i64 y, .int .i64 z, .slice (some ⟨gl, 0, none⟩) sn cl, .slice (some ⟨gd, 0, none⟩) pg cd, .slice (some ⟨gs, 0, none⟩) ns cs, .int .i64 (pu : Int), .int .i64 (ru : Int)] 118, .row (.slice (some ⟨gl, 0, none⟩) sn cl) 3 1 sn (List.map (Value.int .i64) L), .row (.slice (some ⟨gd, 0, none⟩) pg cd) 4 1 pg (List.map Value.bool D), .row (.slice (some ⟨gs, 0, none⟩) ns cs) 3 1 ns (List.map (Value.int .i64) S), .row (.slice (some ⟨gy, 0, none⟩) pg cy) 3 1 pg (List.map (Value.int .i64) (layL y r b o pg)), .row (pv) 156 2 (List.length Pg) (List.flatMap entL Pg), .row (kv) 156 2 (List.length Rk) (List.flatMap entL Rk)] ∧ (q ≤ ns)) (fun (q : Nat) => ns - q) 0 ⟨_, frm_of, H, (Nat.zero_le _)⟩ ?_
    clear H
    rintro q _ v3 ⟨uf2, rfl, H, r1⟩
    refine x_seq <| x_region <| x_b H [.v (.bool (decide ((q : Int) < r)))] <| x_nil <| x_then <| x_seq ?_
    cases h2 : decide ((q : Int) < r)
    · skip
      have h2p := of_decide_eq_false h2
      refine x_f (by kernel_rfl) <| x_exit <| x_then_exit <| x_then_exit <| x_blk_exit <| x_then <| x_seq ?_
      refine x_region <| x_b H [.m] <| x_nil <| x_then <| x_retc <| x_ret (.bool true) (by kernel_rfl) (by kernel_rfl) ?_
      replace H := H.pk [1, 2, 3, 4, 5, 6, 7]
      exact ⟨rfl, H⟩
    have h2p := of_decide_eq_true h2
    refine x_t (by kernel_rfl) <| x_skipc <| x_then <| x_seq <| x_block <| x_seq <| x_region ?_
    refine x_b H [.m, .m] <| x_nil <| x_then <| x_seq <| x_region <| x_b H [.m, .m] ?_
    cases h3 : decide (S.getD q 0 = -1)
    · skip
      have h3p := of_decide_eq_false h3
      have hsq := hV.sv q (by omega)
      have h4 : (true != (decide (0 ≤ (S.getD q 0)))) = false := by rw [decide_eq_true (by omega)]; rfl
      have h5 : (decide ((S.getD q 0) = (max (S.getD q 0) 0))) = true := decide_eq_true (by omega)
      refine z_callB (v := .tuple #[.int .i64 (S.getD q 0), .bool true]) H (Spare_k hL hV q (by omega) _ (H.ro1 [1, 2, 3, 4]) false h3) fun v4 H => x_b H [.m, .m, .m, .m, .m] <| x_nil <| x_then <| x_seq <| x_region <| x_b H [.n 0 0 12 43, .m] ?_
      refine z_callB (v := .int .i64 (S.getD q 0)) H (Spare19 (pu := pu) (ru := ru) (lv := .slice (some ⟨gy, 0, none⟩) pg cy) (pv := pv) hL hd hp8 hr8 q (by omega) _ (H.ro1 [7])) fun v5 H => x_b H [.m] <| x_nil <| x_then <| x_seq <| x_region <| x_b H [.m, .m, .v (.bool (decide (0 ≤ (S.getD q 0)))), .v (.bool (true != (decide (0 ≤ (S.getD q 0))))), .v (.bool (true != (decide (0 ≤ (S.getD q 0)))))] ?_
      rw [h4]
      refine x_b H [.m, .m] <| x_eq (.int .i64 (max (S.getD q 0) 0)) (e_max (S.getD q 0) 0) (by kernel_rfl) rfl (by kernel_rfl) <| x_b H [.v (.bool (!(decide ((S.getD q 0) = (max (S.getD q 0) 0))))), .v (.bool (!(decide ((S.getD q 0) = (max (S.getD q 0) 0)))))] <| x_nil <| x_then ?_
      rw [h5]
      refine x_f (by kernel_rfl) <| x_skipc <| x_blk <| x_then <| x_region <| z_ar ((q : Int) + 1) <| x_b H [.m] ?_
      refine x_nil <| x_then ?_
      exact ⟨(q + 1), (by omega), _, frm_of, H, (by omega)⟩
    have h3p := of_decide_eq_true h3
    have hsq := hV.sv q (by omega)
    have h6 : (false != (decide (0 ≤ (S.getD q 0)))) = false := by rw [decide_eq_false (by omega)]; rfl
    have h7 : (decide (0 = (max (S.getD q 0) 0))) = true := decide_eq_true (by omega)
    refine z_callB (v := .tuple #[.int .i64 0, .bool false]) H (Spare_k hL hV q (by omega) _ (H.ro1 [1, 2, 3, 4]) true h3) fun v6 H => x_b H [.m, .m, .m, .m, .m] <| x_nil <| x_then <| x_seq <| x_region <| x_b H [.n 0 0 12 43, .m] ?_
    refine z_callB (v := .int .i64 (S.getD q 0)) H (Spare19 (pu := pu) (ru := ru) (lv := .slice (some ⟨gy, 0, none⟩) pg cy) (pv := pv) hL hd hp8 hr8 q (by omega) _ (H.ro1 [7])) fun v7 H => x_b H [.m] <| x_nil <| x_then <| x_seq <| x_region <| x_b H [.m, .m, .v (.bool (decide (0 ≤ (S.getD q 0)))), .v (.bool (false != (decide (0 ≤ (S.getD q 0))))), .v (.bool (false != (decide (0 ≤ (S.getD q 0)))))] ?_
    rw [h6]
    refine x_b H [.m, .m] <| x_eq (.int .i64 (max (S.getD q 0) 0)) (e_max (S.getD q 0) 0) (by kernel_rfl) rfl (by kernel_rfl) <| x_b H [.v (.bool (!(decide (0 = (max (S.getD q 0) 0))))), .v (.bool (!(decide (0 = (max (S.getD q 0) 0)))))] <| x_nil <| x_then ?_
    rw [h7]
    refine x_f (by kernel_rfl) <| x_skipc <| x_blk <| x_then <| x_region <| z_ar ((q : Int) + 1) <| x_b H [.m] ?_
    refine x_nil <| x_then ?_
    exact ⟨(q + 1), (by omega), _, frm_of, H, (by omega)⟩
  have h1p := of_decide_eq_true h1
  refine x_t (by kernel_rfl) <| x_skipc <| x_then <| x_seq <| x_block <| x_seq <| x_region ?_
  refine x_b H [.m, .m] <| x_nil <| x_then <| x_seq <| x_region <| x_b H [.m, .m] ?_
  cases h8 : D.getD k false
  · skip
    cases h9 : decide ((k : Int) < ((sn : Int) + (pu : Int)))
    · skip
      have h9p := of_decide_eq_false h9
      refine z_callB (v := .tuple #[.int .i64 (idxP y r b o S (k : Int)), .int .i64 0]) H (Lies_k hL hV k (by omega) _ (H.ro1 [1, 2, 3, 4])) fun v8 H => x_b H [.m, .m, .m, .m, .m] <| x_nil <| x_then <| x_seq <| x_seq <| z_region_s H 37 [0, 1, 2, 3, 4, 5, 6, 7] ?_
      refine s_b [(0, .m), (1, .m), (2, .m), (3, .m), (4, .n 0 0 12 43), (5, .m)] 31 <| s_c 6 (v := .int .i64 (idxP y r b o S (k : Int))) (fun _ H => (Lies19 (pu := pu) (ru := ru) (pv := pv) hL hd hp8 hr8 k (by omega) _ (Ro.two (H.ro1 [5]) (H.ro1 [7])))) <| s_y 7 (y_eq (.bool false) (show Value.bool (!decide ((idxP y r b o S (k : Int)) = (idxP y r b o S (k : Int)))) = Value.bool false by simp) (by kernel_rfl) (fun _ => by kernel_rfl)) <| s_b [(8, .m), (9, .m), (10, .m), (11, .m)] 25 <| s_c 12 (v := .bool false) (fun _ H => (by have h := Dead_k hL hV k (by omega) _ (H.ro1 [1, 2, 3, 4]); rw [h8] at h; exact h)) <| s_b [(13, .n 0 0 12 43), (14, .m)] 22 <| s_c 15 (v := .bool false) (fun _ H => (by have h := Dead19 (pu := pu) (ru := ru) (lv := .slice (some ⟨gy, 0, none⟩) pg cy) (kv := kv) hL hd hp8 hr8 k (by omega) _ (H.ro1 [6]); rw [h8] at h; exact h)) ?_
      refine s_b [(16, .m), (17, .m), (18, .m), (19, .m), (20, .m)] 16 <| s_c 21 (v := .bool false) (fun _ H => (by have h := Used_k hL hV k _ (H.ro1 [1, 2, 3, 4]); rw [h9, h8] at h; exact h)) <| s_b [(22, .m), (23, .n 0 0 12 43)] 13 <| s_c 24 (fun _ H => (Seen19 (pu := pu) (ru := ru) (pv := pv) (kv := kv) hL _ (H.ro1 [5]))) <| s_b [(25, .m), (26, .l 0 10)] 10 <| s_y 27 (y_ar ((sn : Int) + (pu : Int)) ⟨by omega, by omega⟩ (by kernel_rfl) (fun _ => by kernel_rfl)) <| s_b [(28, .v (.bool (decide ((k : Int) < ((sn : Int) + (pu : Int)))))), (29, .v (.bool (decide ((k : Int) < ((sn : Int) + (pu : Int))))))] 7 ?_
      rw [h9]
      refine s_b [(30, .k), (31, .k), (32, .k), (33, .k), (34, .m), (35, .m), (36, .m)] 0 <| s_done (by kernel_rfl) ?_
      clear H
      intro v9 H
      refine z_fr 168 [(0, .pointer (some ⟨p, 0, none⟩)), (3, .pointer (some ⟨g1, 0, none⟩)), (5, .int .i64 (k : Int)), (21, .int .i64 (pg : Int)), (22, .int .i64 (k : Int)), (67, .bool false)] [] fun uf3 => x_then <| x_f (by kernel_rfl) <| x_skipc <| x_then <| x_seq <| x_region ?_
      refine x_b H [.m, .m] ?_
      cases h10 : decide ((k : Int) < (sn : Int))
      · skip
        have h10p := of_decide_eq_false h10
        have h11 : (decide ((sn : Int) ≤ (k : Int))) = true := by simp; omega
        refine z_callB (v := .tuple #[.int .i64 0, .int .i64 12]) H (Lives_o hL hV (k : Int) (by omega) _ (H.ro1 [1, 2, 3, 4])) fun v10 H => x_b H [.m, .m, .m, .m, .m] <| x_nil <| x_then <| x_seq <| x_seq <| x_region ?_
        refine x_b H [.m, .n 0 0 12 43] <| z_callB H (Seen19 (pu := pu) (ru := ru) (pv := pv) (kv := kv) hL _ (H.ro1 [5])) fun v11 H => x_b H [.v (.bool (decide ((sn : Int) ≤ (k : Int))))] <| x_nil <| x_then ?_
        rw [h11]
        refine x_t (by kernel_rfl) <| x_seq <| x_seq <| x_region <| x_b H [.m, .m, .m, .m, .m, .m] <| x_nil <| x_then ?_
        refine x_f (by kernel_rfl) <| x_skipc <| x_then <| x_exit <| x_then_exit <| x_blk_exit <| x_then ?_
        refine x_region <| z_ar ((k : Int) + 1) <| x_b H [.m] <| x_nil <| x_then ?_
        exact ⟨(k + 1), (by omega), _, frm_of, H, (by omega)⟩
      have h10p := of_decide_eq_true h10
      have h12 : (decide ((sn : Int) ≤ (k : Int))) = false := by simp; omega
      have hv0 := (hV.lv k (by omega)).1
      have hv1 := (hV.lv k (by omega)).2
      obtain ⟨u8, hu8⟩ := Int.eq_ofNat_of_zero_le hv0
      rw [hu8] at hv0 hv1
      have hil := idxP_in hL hV hv0 hv1
      have hpb := pgAt_bd y (u8 : Int) (geom_of hL)
      have hkc := kj_in (j := 0) (k := (k : Int)) (n := (sn : Int)) hc1 (by omega) (by omega) (by omega) (by omega)
      refine z_callB (v := .tuple #[.int .i64 (u8 : Int), .int .i64 0]) H (by have h := Lives_k hL hV k (by omega) _ (H.ro1 [1, 2, 3, 4]); rw [hu8] at h; exact h) fun v12 H => x_b H [.m, .m, .m, .m, .m] <| x_nil <| x_then <| x_seq <| x_seq <| x_region ?_
      refine x_b H [.m, .n 0 0 12 43] <| z_callB H (Seen19 (pu := pu) (ru := ru) (pv := pv) (kv := kv) hL _ (H.ro1 [5])) fun v13 H => x_b H [.v (.bool (decide ((sn : Int) ≤ (k : Int))))] <| x_nil <| x_then ?_
      rw [h12]
      refine x_f (by kernel_rfl) <| x_skipc <| x_then <| x_seq <| x_seq <| x_region <| x_b H [.m, .m, .m, .m, .n 0 0 12 43, .m] ?_
      refine z_callB (v := .int .i64 (u8 : Int)) H (by have h := Lives19 (pu := pu) (ru := ru) (lv := .slice (some ⟨gy, 0, none⟩) pg cy) (kv := kv) hL hd hp8 hr8 k (by omega) _ (H.ro1 [6]); rw [hu8] at h; exact h) fun v14 H => x_eq (.bool false) (show Value.bool (!decide ((u8 : Int) = (u8 : Int))) = Value.bool false by simp) (by kernel_rfl) rfl (by kernel_rfl) <| x_b H [.m] <| x_nil <| x_then <| x_f (by kernel_rfl) <| x_skipc ?_
      refine x_then <| x_seq <| x_region <| x_b H [.m, .m, .l 0 4, .m] <| x_nil <| x_then <| x_block ?_
      refine x_loop (G := Nat) (fun (j : Nat) a w' => ∃ uf4 : Nat → Value, a = frm 168 uf4 [(0, .pointer (some ⟨p, 0, none⟩)), (3, .pointer (some ⟨g1, 0, none⟩)), (5, .int .i64 (k : Int)), (8, .int .i64 (u8 : Int)), (21, .int .i64 (pg : Int)), (22, .int .i64 (k : Int)), (95, .int .i64 c), (96, .int .i64 (j : Int))] [] ∧ Hs M w0 w' [.blk g1 #[.int .i64 r, .int .i64 s, .int .i64 b, .int .i64 o, .int .i64 c, .int .i64 y, .int .i64 z, .slice (some ⟨gy, 0, none⟩) pg cy, pv, kv, .int .i64 (pu : Int), .int .i64 (ru : Int)] 43, .blk p #[.int .i64 r, .int .i64 s, .int .i64 b, .int .i64 o, .int .i64 c, .int .i64 y, .int .i64 z, .slice (some ⟨gl, 0, none⟩) sn cl, .slice (some ⟨gd, 0, none⟩) pg cd, .slice (some ⟨gs, 0, none⟩) ns cs, .int .i64 (pu : Int), .int .i64 (ru : Int)] 118, .row (.slice (some ⟨gl, 0, none⟩) sn cl) 3 1 sn (List.map (Value.int .i64) L), .row (.slice (some ⟨gd, 0, none⟩) pg cd) 4 1 pg (List.map Value.bool D), .row (.slice (some ⟨gs, 0, none⟩) ns cs) 3 1 ns (List.map (Value.int .i64) S), .row (.slice (some ⟨gy, 0, none⟩) pg cy) 3 1 pg (List.map (Value.int .i64) (layL y r b o pg)), .row (pv) 156 2 (List.length Pg) (List.flatMap entL Pg), .row (kv) 156 2 (List.length Rk) (List.flatMap entL Rk)] ∧ ((j : Int) ≤ c)) (fun (j : Nat) => c.toNat - j) 0 ⟨_, frm_of, H, (by omega)⟩ ?_
      clear H
      rintro j _ v15 ⟨uf4, rfl, H, r1⟩
      refine x_seq <| x_region <| x_b H [.v (.bool (decide ((j : Int) < c)))] <| x_nil <| x_then <| x_seq ?_
      cases h13 : decide ((j : Int) < c)
      · skip
        have h13p := of_decide_eq_false h13
        refine x_f (by kernel_rfl) <| x_exit <| x_then_exit <| x_then_exit <| x_blk_exit <| x_blk <| x_then ?_
        refine x_region <| z_ar ((k : Int) + 1) <| x_b H [.m] <| x_nil <| x_then ?_
        exact ⟨(k + 1), (by omega), _, frm_of, H, (by omega)⟩
      have h13p := of_decide_eq_true h13
      refine x_t (by kernel_rfl) <| x_skipc <| x_then <| x_seq <| x_block <| x_seq <| x_region ?_
      refine x_b H [.m, .m] <| x_nil <| x_then <| x_seq <| x_region <| x_b H [.m, .m, .m, .m, .l 0 4] <| z_ar ((k : Int) * c) ?_
      refine x_b H [.m] <| z_ar (((k : Int) * c) + (j : Int)) <| z_callB (v := .tuple #[.int .i64 (((idxP y r b o S (u8 : Int)) * 64) + (j : Int)), .int .i64 (u8 : Int), .int .i64 ((pgAt y r b o (u8 : Int)) / 16384), .int .i64 0]) H (by have h := Index_kj hL hV k j (by omega) (by omega) _ (H.ro1 [1, 2, 3, 4]); rw [hu8] at h; exact h) fun v16 H => x_b H [.m, .m, .m, .m, .m, .m, .m, .m, .m] <| x_nil <| x_then <| x_seq ?_
      refine x_region <| x_b H [.m, .m, .m, .m, .m] <| x_eq (.bool false) (show Value.bool (!decide ((u8 : Int) = (u8 : Int))) = Value.bool false by simp) (by kernel_rfl) rfl (by kernel_rfl) <| x_b H [.m, .m, .m, .n 0 0 12 43, .m] <| z_callB (v := .int .i64 (idxP y r b o S (u8 : Int))) H (Lies19 (pu := pu) (ru := ru) (pv := pv) hL hd hp8 hr8 u8 (by omega) _ (Ro.two (H.ro1 [5]) (H.ro1 [7]))) fun v17 H => z_ar ((idxP y r b o S (u8 : Int)) * 64) <| x_b H [.m] ?_
      refine z_ar (((idxP y r b o S (u8 : Int)) * 64) + (j : Int)) <| x_eq (.bool false) (show Value.bool (!decide ((((idxP y r b o S (u8 : Int)) * 64) + (j : Int)) = (((idxP y r b o S (u8 : Int)) * 64) + (j : Int)))) = Value.bool false by simp) (by kernel_rfl) rfl (by kernel_rfl) <| x_b H [.m, .m, .m, .m, .l 0 7, .m] <| x_ix (t := 40) gy 0 u8 pg cy 3 1 u8 (by omega) (by omega) (by kernel_rfl) (by kernel_rfl) (by kernel_rfl) rfl (by kernel_rfl) <| x_loadc gy u8 (.int .i64 (pgAt y r b o (u8 : Int))) (cell_as (H.rowCell 5 rfl u8 (mapAt 0 (by omega))) (by rw [(layL_get y r b o pg u8 (by omega))])) (by kernel_rfl) rfl (by kernel_rfl) <| x_eq (.int .i64 ((pgAt y r b o (u8 : Int)) / 16384)) (e_quo (pgAt y r b o (u8 : Int)) 16384 (by omega) (by omega) (by omega)) (by kernel_rfl) rfl (by kernel_rfl) <| x_eq (.bool false) (show Value.bool (!decide (((pgAt y r b o (u8 : Int)) / 16384) = ((pgAt y r b o (u8 : Int)) / 16384))) = Value.bool false by simp) (by kernel_rfl) rfl (by kernel_rfl) ?_
      refine x_b H [.m] <| x_nil <| z_fr 168 [(0, .pointer (some ⟨p, 0, none⟩)), (3, .pointer (some ⟨g1, 0, none⟩)), (5, .int .i64 (k : Int)), (8, .int .i64 (u8 : Int)), (21, .int .i64 (pg : Int)), (22, .int .i64 (k : Int)), (95, .int .i64 c), (96, .int .i64 (j : Int)), (139, .bool false)] [] fun uf5 => x_then <| x_f (by kernel_rfl) <| x_skipc <| x_blk ?_
      refine x_then <| x_region <| z_ar ((j : Int) + 1) <| x_b H [.m] <| x_nil <| x_then ?_
      exact ⟨(j + 1), (by omega), _, frm_of, H, (by omega)⟩
    have h9p := of_decide_eq_true h9
    refine z_callB (v := .tuple #[.int .i64 (idxP y r b o S (k : Int)), .int .i64 0]) H (Lies_k hL hV k (by omega) _ (H.ro1 [1, 2, 3, 4])) fun v18 H => x_b H [.m, .m, .m, .m, .m] <| x_nil <| x_then <| x_seq <| x_seq <| z_region_s H 37 [0, 1, 2, 3, 4, 5, 6, 7] ?_
    refine s_b [(0, .m), (1, .m), (2, .m), (3, .m), (4, .n 0 0 12 43), (5, .m)] 31 <| s_c 6 (v := .int .i64 (idxP y r b o S (k : Int))) (fun _ H => (Lies19 (pu := pu) (ru := ru) (pv := pv) hL hd hp8 hr8 k (by omega) _ (Ro.two (H.ro1 [5]) (H.ro1 [7])))) <| s_y 7 (y_eq (.bool false) (show Value.bool (!decide ((idxP y r b o S (k : Int)) = (idxP y r b o S (k : Int)))) = Value.bool false by simp) (by kernel_rfl) (fun _ => by kernel_rfl)) <| s_b [(8, .m), (9, .m), (10, .m), (11, .m)] 25 <| s_c 12 (v := .bool false) (fun _ H => (by have h := Dead_k hL hV k (by omega) _ (H.ro1 [1, 2, 3, 4]); rw [h8] at h; exact h)) <| s_b [(13, .n 0 0 12 43), (14, .m)] 22 <| s_c 15 (v := .bool false) (fun _ H => (by have h := Dead19 (pu := pu) (ru := ru) (lv := .slice (some ⟨gy, 0, none⟩) pg cy) (kv := kv) hL hd hp8 hr8 k (by omega) _ (H.ro1 [6]); rw [h8] at h; exact h)) ?_
    refine s_b [(16, .m), (17, .m), (18, .m), (19, .m), (20, .m)] 16 <| s_c 21 (v := .bool true) (fun _ H => (by have h := Used_k hL hV k _ (H.ro1 [1, 2, 3, 4]); rw [h9, h8] at h; exact h)) <| s_b [(22, .m), (23, .n 0 0 12 43)] 13 <| s_c 24 (fun _ H => (Seen19 (pu := pu) (ru := ru) (pv := pv) (kv := kv) hL _ (H.ro1 [5]))) <| s_b [(25, .m), (26, .l 0 10)] 10 <| s_y 27 (y_ar ((sn : Int) + (pu : Int)) ⟨by omega, by omega⟩ (by kernel_rfl) (fun _ => by kernel_rfl)) <| s_b [(28, .v (.bool (decide ((k : Int) < ((sn : Int) + (pu : Int)))))), (29, .v (.bool (decide ((k : Int) < ((sn : Int) + (pu : Int))))))] 7 ?_
    rw [h9]
    refine s_b [(30, .n 0 0 12 43), (31, .m)] 5 <| s_c 32 (v := .bool false) (fun _ H => (by have h := Dead19 (pu := pu) (ru := ru) (lv := .slice (some ⟨gy, 0, none⟩) pg cy) (kv := kv) hL hd hp8 hr8 k (by omega) _ (H.ro1 [6]); rw [h8] at h; exact h)) <| s_b [(33, .m), (34, .m), (35, .m), (36, .m)] 0 <| s_done (by kernel_rfl) ?_
    clear H
    intro v19 H
    refine z_fr 168 [(0, .pointer (some ⟨p, 0, none⟩)), (3, .pointer (some ⟨g1, 0, none⟩)), (5, .int .i64 (k : Int)), (21, .int .i64 (pg : Int)), (22, .int .i64 (k : Int)), (67, .bool false)] [] fun uf6 => x_then <| x_f (by kernel_rfl) <| x_skipc <| x_then <| x_seq <| x_region ?_
    refine x_b H [.m, .m] ?_
    cases h14 : decide ((k : Int) < (sn : Int))
    · skip
      have h14p := of_decide_eq_false h14
      have h15 : (decide ((sn : Int) ≤ (k : Int))) = true := by simp; omega
      refine z_callB (v := .tuple #[.int .i64 0, .int .i64 12]) H (Lives_o hL hV (k : Int) (by omega) _ (H.ro1 [1, 2, 3, 4])) fun v20 H => x_b H [.m, .m, .m, .m, .m] <| x_nil <| x_then <| x_seq <| x_seq <| x_region ?_
      refine x_b H [.m, .n 0 0 12 43] <| z_callB H (Seen19 (pu := pu) (ru := ru) (pv := pv) (kv := kv) hL _ (H.ro1 [5])) fun v21 H => x_b H [.v (.bool (decide ((sn : Int) ≤ (k : Int))))] <| x_nil <| x_then ?_
      rw [h15]
      refine x_t (by kernel_rfl) <| x_seq <| x_seq <| x_region <| x_b H [.m, .m, .m, .m, .m, .m] <| x_nil <| x_then ?_
      refine x_f (by kernel_rfl) <| x_skipc <| x_then <| x_exit <| x_then_exit <| x_blk_exit <| x_then ?_
      refine x_region <| z_ar ((k : Int) + 1) <| x_b H [.m] <| x_nil <| x_then ?_
      exact ⟨(k + 1), (by omega), _, frm_of, H, (by omega)⟩
    have h14p := of_decide_eq_true h14
    have h16 : (decide ((sn : Int) ≤ (k : Int))) = false := by simp; omega
    have hv0 := (hV.lv k (by omega)).1
    have hv1 := (hV.lv k (by omega)).2
    obtain ⟨u8, hu8⟩ := Int.eq_ofNat_of_zero_le hv0
    rw [hu8] at hv0 hv1
    have hil := idxP_in hL hV hv0 hv1
    have hpb := pgAt_bd y (u8 : Int) (geom_of hL)
    have hkc := kj_in (j := 0) (k := (k : Int)) (n := (sn : Int)) hc1 (by omega) (by omega) (by omega) (by omega)
    refine z_callB (v := .tuple #[.int .i64 (u8 : Int), .int .i64 0]) H (by have h := Lives_k hL hV k (by omega) _ (H.ro1 [1, 2, 3, 4]); rw [hu8] at h; exact h) fun v22 H => x_b H [.m, .m, .m, .m, .m] <| x_nil <| x_then <| x_seq <| x_seq <| x_region ?_
    refine x_b H [.m, .n 0 0 12 43] <| z_callB H (Seen19 (pu := pu) (ru := ru) (pv := pv) (kv := kv) hL _ (H.ro1 [5])) fun v23 H => x_b H [.v (.bool (decide ((sn : Int) ≤ (k : Int))))] <| x_nil <| x_then ?_
    rw [h16]
    refine x_f (by kernel_rfl) <| x_skipc <| x_then <| x_seq <| x_seq <| x_region <| x_b H [.m, .m, .m, .m, .n 0 0 12 43, .m] ?_
    refine z_callB (v := .int .i64 (u8 : Int)) H (by have h := Lives19 (pu := pu) (ru := ru) (lv := .slice (some ⟨gy, 0, none⟩) pg cy) (kv := kv) hL hd hp8 hr8 k (by omega) _ (H.ro1 [6]); rw [hu8] at h; exact h) fun v24 H => x_eq (.bool false) (show Value.bool (!decide ((u8 : Int) = (u8 : Int))) = Value.bool false by simp) (by kernel_rfl) rfl (by kernel_rfl) <| x_b H [.m] <| x_nil <| x_then <| x_f (by kernel_rfl) <| x_skipc ?_
    refine x_then <| x_seq <| x_region <| x_b H [.m, .m, .l 0 4, .m] <| x_nil <| x_then <| x_block ?_
    refine x_loop (G := Nat) (fun (j : Nat) a w' => ∃ uf7 : Nat → Value, a = frm 168 uf7 [(0, .pointer (some ⟨p, 0, none⟩)), (3, .pointer (some ⟨g1, 0, none⟩)), (5, .int .i64 (k : Int)), (8, .int .i64 (u8 : Int)), (21, .int .i64 (pg : Int)), (22, .int .i64 (k : Int)), (95, .int .i64 c), (96, .int .i64 (j : Int))] [] ∧ Hs M w0 w' [.blk g1 #[.int .i64 r, .int .i64 s, .int .i64 b, .int .i64 o, .int .i64 c, .int .i64 y, .int .i64 z, .slice (some ⟨gy, 0, none⟩) pg cy, pv, kv, .int .i64 (pu : Int), .int .i64 (ru : Int)] 43, .blk p #[.int .i64 r, .int .i64 s, .int .i64 b, .int .i64 o, .int .i64 c, .int .i64 y, .int .i64 z, .slice (some ⟨gl, 0, none⟩) sn cl, .slice (some ⟨gd, 0, none⟩) pg cd, .slice (some ⟨gs, 0, none⟩) ns cs, .int .i64 (pu : Int), .int .i64 (ru : Int)] 118, .row (.slice (some ⟨gl, 0, none⟩) sn cl) 3 1 sn (List.map (Value.int .i64) L), .row (.slice (some ⟨gd, 0, none⟩) pg cd) 4 1 pg (List.map Value.bool D), .row (.slice (some ⟨gs, 0, none⟩) ns cs) 3 1 ns (List.map (Value.int .i64) S), .row (.slice (some ⟨gy, 0, none⟩) pg cy) 3 1 pg (List.map (Value.int .i64) (layL y r b o pg)), .row (pv) 156 2 (List.length Pg) (List.flatMap entL Pg), .row (kv) 156 2 (List.length Rk) (List.flatMap entL Rk)] ∧ ((j : Int) ≤ c)) (fun (j : Nat) => c.toNat - j) 0 ⟨_, frm_of, H, (by omega)⟩ ?_
    clear H
    rintro j _ v25 ⟨uf7, rfl, H, r1⟩
    refine x_seq <| x_region <| x_b H [.v (.bool (decide ((j : Int) < c)))] <| x_nil <| x_then <| x_seq ?_
    cases h17 : decide ((j : Int) < c)
    · skip
      have h17p := of_decide_eq_false h17
      refine x_f (by kernel_rfl) <| x_exit <| x_then_exit <| x_then_exit <| x_blk_exit <| x_blk <| x_then ?_
      refine x_region <| z_ar ((k : Int) + 1) <| x_b H [.m] <| x_nil <| x_then ?_
      exact ⟨(k + 1), (by omega), _, frm_of, H, (by omega)⟩
    have h17p := of_decide_eq_true h17
    refine x_t (by kernel_rfl) <| x_skipc <| x_then <| x_seq <| x_block <| x_seq <| x_region ?_
    refine x_b H [.m, .m] <| x_nil <| x_then <| x_seq <| x_region <| x_b H [.m, .m, .m, .m, .l 0 4] <| z_ar ((k : Int) * c) ?_
    refine x_b H [.m] <| z_ar (((k : Int) * c) + (j : Int)) <| z_callB (v := .tuple #[.int .i64 (((idxP y r b o S (u8 : Int)) * 64) + (j : Int)), .int .i64 (u8 : Int), .int .i64 ((pgAt y r b o (u8 : Int)) / 16384), .int .i64 0]) H (by have h := Index_kj hL hV k j (by omega) (by omega) _ (H.ro1 [1, 2, 3, 4]); rw [hu8] at h; exact h) fun v26 H => x_b H [.m, .m, .m, .m, .m, .m, .m, .m, .m] <| x_nil <| x_then <| x_seq ?_
    refine x_region <| x_b H [.m, .m, .m, .m, .m] <| x_eq (.bool false) (show Value.bool (!decide ((u8 : Int) = (u8 : Int))) = Value.bool false by simp) (by kernel_rfl) rfl (by kernel_rfl) <| x_b H [.m, .m, .m, .n 0 0 12 43, .m] <| z_callB (v := .int .i64 (idxP y r b o S (u8 : Int))) H (Lies19 (pu := pu) (ru := ru) (pv := pv) hL hd hp8 hr8 u8 (by omega) _ (Ro.two (H.ro1 [5]) (H.ro1 [7]))) fun v27 H => z_ar ((idxP y r b o S (u8 : Int)) * 64) <| x_b H [.m] ?_
    refine z_ar (((idxP y r b o S (u8 : Int)) * 64) + (j : Int)) <| x_eq (.bool false) (show Value.bool (!decide ((((idxP y r b o S (u8 : Int)) * 64) + (j : Int)) = (((idxP y r b o S (u8 : Int)) * 64) + (j : Int)))) = Value.bool false by simp) (by kernel_rfl) rfl (by kernel_rfl) <| x_b H [.m, .m, .m, .m, .l 0 7, .m] <| x_ix (t := 40) gy 0 u8 pg cy 3 1 u8 (by omega) (by omega) (by kernel_rfl) (by kernel_rfl) (by kernel_rfl) rfl (by kernel_rfl) <| x_loadc gy u8 (.int .i64 (pgAt y r b o (u8 : Int))) (cell_as (H.rowCell 5 rfl u8 (mapAt 0 (by omega))) (by rw [(layL_get y r b o pg u8 (by omega))])) (by kernel_rfl) rfl (by kernel_rfl) <| x_eq (.int .i64 ((pgAt y r b o (u8 : Int)) / 16384)) (e_quo (pgAt y r b o (u8 : Int)) 16384 (by omega) (by omega) (by omega)) (by kernel_rfl) rfl (by kernel_rfl) <| x_eq (.bool false) (show Value.bool (!decide (((pgAt y r b o (u8 : Int)) / 16384) = ((pgAt y r b o (u8 : Int)) / 16384))) = Value.bool false by simp) (by kernel_rfl) rfl (by kernel_rfl) ?_
    refine x_b H [.m] <| x_nil <| z_fr 168 [(0, .pointer (some ⟨p, 0, none⟩)), (3, .pointer (some ⟨g1, 0, none⟩)), (5, .int .i64 (k : Int)), (8, .int .i64 (u8 : Int)), (21, .int .i64 (pg : Int)), (22, .int .i64 (k : Int)), (95, .int .i64 c), (96, .int .i64 (j : Int)), (139, .bool false)] [] fun uf8 => x_then <| x_f (by kernel_rfl) <| x_skipc <| x_blk ?_
    refine x_then <| x_region <| z_ar ((j : Int) + 1) <| x_b H [.m] <| x_nil <| x_then ?_
    exact ⟨(j + 1), (by omega), _, frm_of, H, (by omega)⟩
  cases h18 : decide ((k : Int) < ((sn : Int) + (pu : Int)))
  · skip
    have h18p := of_decide_eq_false h18
    refine z_callB (v := .tuple #[.int .i64 (idxP y r b o S (k : Int)), .int .i64 0]) H (Lies_k hL hV k (by omega) _ (H.ro1 [1, 2, 3, 4])) fun v28 H => x_b H [.m, .m, .m, .m, .m] <| x_nil <| x_then <| x_seq <| x_seq <| z_region_s H 37 [0, 1, 2, 3, 4, 5, 6, 7] ?_
    refine s_b [(0, .m), (1, .m), (2, .m), (3, .m), (4, .n 0 0 12 43), (5, .m)] 31 <| s_c 6 (v := .int .i64 (idxP y r b o S (k : Int))) (fun _ H => (Lies19 (pu := pu) (ru := ru) (pv := pv) hL hd hp8 hr8 k (by omega) _ (Ro.two (H.ro1 [5]) (H.ro1 [7])))) <| s_y 7 (y_eq (.bool false) (show Value.bool (!decide ((idxP y r b o S (k : Int)) = (idxP y r b o S (k : Int)))) = Value.bool false by simp) (by kernel_rfl) (fun _ => by kernel_rfl)) <| s_b [(8, .m), (9, .m), (10, .m), (11, .m)] 25 <| s_c 12 (v := .bool true) (fun _ H => (by have h := Dead_k hL hV k (by omega) _ (H.ro1 [1, 2, 3, 4]); rw [h8] at h; exact h)) <| s_b [(13, .n 0 0 12 43), (14, .m)] 22 <| s_c 15 (v := .bool true) (fun _ H => (by have h := Dead19 (pu := pu) (ru := ru) (lv := .slice (some ⟨gy, 0, none⟩) pg cy) (kv := kv) hL hd hp8 hr8 k (by omega) _ (H.ro1 [6]); rw [h8] at h; exact h)) ?_
    refine s_b [(16, .m), (17, .m), (18, .m), (19, .m), (20, .m)] 16 <| s_c 21 (v := .bool false) (fun _ H => (by have h := Used_k hL hV k _ (H.ro1 [1, 2, 3, 4]); rw [h18, h8] at h; exact h)) <| s_b [(22, .m), (23, .n 0 0 12 43)] 13 <| s_c 24 (fun _ H => (Seen19 (pu := pu) (ru := ru) (pv := pv) (kv := kv) hL _ (H.ro1 [5]))) <| s_b [(25, .m), (26, .l 0 10)] 10 <| s_y 27 (y_ar ((sn : Int) + (pu : Int)) ⟨by omega, by omega⟩ (by kernel_rfl) (fun _ => by kernel_rfl)) <| s_b [(28, .v (.bool (decide ((k : Int) < ((sn : Int) + (pu : Int)))))), (29, .v (.bool (decide ((k : Int) < ((sn : Int) + (pu : Int))))))] 7 ?_
    rw [h18]
    refine s_b [(30, .k), (31, .k), (32, .k), (33, .k), (34, .m), (35, .m), (36, .m)] 0 <| s_done (by kernel_rfl) ?_
    clear H
    intro v29 H
    refine z_fr 168 [(0, .pointer (some ⟨p, 0, none⟩)), (3, .pointer (some ⟨g1, 0, none⟩)), (5, .int .i64 (k : Int)), (21, .int .i64 (pg : Int)), (22, .int .i64 (k : Int)), (67, .bool false)] [] fun uf9 => x_then <| x_f (by kernel_rfl) <| x_skipc <| x_then <| x_seq <| x_region ?_
    refine x_b H [.m, .m] ?_
    cases h19 : decide ((k : Int) < (sn : Int))
    · skip
      have h19p := of_decide_eq_false h19
      have h20 : (decide ((sn : Int) ≤ (k : Int))) = true := by simp; omega
      refine z_callB (v := .tuple #[.int .i64 0, .int .i64 12]) H (Lives_o hL hV (k : Int) (by omega) _ (H.ro1 [1, 2, 3, 4])) fun v30 H => x_b H [.m, .m, .m, .m, .m] <| x_nil <| x_then <| x_seq <| x_seq <| x_region ?_
      refine x_b H [.m, .n 0 0 12 43] <| z_callB H (Seen19 (pu := pu) (ru := ru) (pv := pv) (kv := kv) hL _ (H.ro1 [5])) fun v31 H => x_b H [.v (.bool (decide ((sn : Int) ≤ (k : Int))))] <| x_nil <| x_then ?_
      rw [h20]
      refine x_t (by kernel_rfl) <| x_seq <| x_seq <| x_region <| x_b H [.m, .m, .m, .m, .m, .m] <| x_nil <| x_then ?_
      refine x_f (by kernel_rfl) <| x_skipc <| x_then <| x_exit <| x_then_exit <| x_blk_exit <| x_then ?_
      refine x_region <| z_ar ((k : Int) + 1) <| x_b H [.m] <| x_nil <| x_then ?_
      exact ⟨(k + 1), (by omega), _, frm_of, H, (by omega)⟩
    have h19p := of_decide_eq_true h19
    have h21 : (decide ((sn : Int) ≤ (k : Int))) = false := by simp; omega
    have hv0 := (hV.lv k (by omega)).1
    have hv1 := (hV.lv k (by omega)).2
    obtain ⟨u8, hu8⟩ := Int.eq_ofNat_of_zero_le hv0
    rw [hu8] at hv0 hv1
    have hil := idxP_in hL hV hv0 hv1
    have hpb := pgAt_bd y (u8 : Int) (geom_of hL)
    have hkc := kj_in (j := 0) (k := (k : Int)) (n := (sn : Int)) hc1 (by omega) (by omega) (by omega) (by omega)
    refine z_callB (v := .tuple #[.int .i64 (u8 : Int), .int .i64 0]) H (by have h := Lives_k hL hV k (by omega) _ (H.ro1 [1, 2, 3, 4]); rw [hu8] at h; exact h) fun v32 H => x_b H [.m, .m, .m, .m, .m] <| x_nil <| x_then <| x_seq <| x_seq <| x_region ?_
    refine x_b H [.m, .n 0 0 12 43] <| z_callB H (Seen19 (pu := pu) (ru := ru) (pv := pv) (kv := kv) hL _ (H.ro1 [5])) fun v33 H => x_b H [.v (.bool (decide ((sn : Int) ≤ (k : Int))))] <| x_nil <| x_then ?_
    rw [h21]
    refine x_f (by kernel_rfl) <| x_skipc <| x_then <| x_seq <| x_seq <| x_region <| x_b H [.m, .m, .m, .m, .n 0 0 12 43, .m] ?_
    refine z_callB (v := .int .i64 (u8 : Int)) H (by have h := Lives19 (pu := pu) (ru := ru) (lv := .slice (some ⟨gy, 0, none⟩) pg cy) (kv := kv) hL hd hp8 hr8 k (by omega) _ (H.ro1 [6]); rw [hu8] at h; exact h) fun v34 H => x_eq (.bool false) (show Value.bool (!decide ((u8 : Int) = (u8 : Int))) = Value.bool false by simp) (by kernel_rfl) rfl (by kernel_rfl) <| x_b H [.m] <| x_nil <| x_then <| x_f (by kernel_rfl) <| x_skipc ?_
    refine x_then <| x_seq <| x_region <| x_b H [.m, .m, .l 0 4, .m] <| x_nil <| x_then <| x_block ?_
    refine x_loop (G := Nat) (fun (j : Nat) a w' => ∃ uf10 : Nat → Value, a = frm 168 uf10 [(0, .pointer (some ⟨p, 0, none⟩)), (3, .pointer (some ⟨g1, 0, none⟩)), (5, .int .i64 (k : Int)), (8, .int .i64 (u8 : Int)), (21, .int .i64 (pg : Int)), (22, .int .i64 (k : Int)), (95, .int .i64 c), (96, .int .i64 (j : Int))] [] ∧ Hs M w0 w' [.blk g1 #[.int .i64 r, .int .i64 s, .int .i64 b, .int .i64 o, .int .i64 c, .int .i64 y, .int .i64 z, .slice (some ⟨gy, 0, none⟩) pg cy, pv, kv, .int .i64 (pu : Int), .int .i64 (ru : Int)] 43, .blk p #[.int .i64 r, .int .i64 s, .int .i64 b, .int .i64 o, .int .i64 c, .int .i64 y, .int .i64 z, .slice (some ⟨gl, 0, none⟩) sn cl, .slice (some ⟨gd, 0, none⟩) pg cd, .slice (some ⟨gs, 0, none⟩) ns cs, .int .i64 (pu : Int), .int .i64 (ru : Int)] 118, .row (.slice (some ⟨gl, 0, none⟩) sn cl) 3 1 sn (List.map (Value.int .i64) L), .row (.slice (some ⟨gd, 0, none⟩) pg cd) 4 1 pg (List.map Value.bool D), .row (.slice (some ⟨gs, 0, none⟩) ns cs) 3 1 ns (List.map (Value.int .i64) S), .row (.slice (some ⟨gy, 0, none⟩) pg cy) 3 1 pg (List.map (Value.int .i64) (layL y r b o pg)), .row (pv) 156 2 (List.length Pg) (List.flatMap entL Pg), .row (kv) 156 2 (List.length Rk) (List.flatMap entL Rk)] ∧ ((j : Int) ≤ c)) (fun (j : Nat) => c.toNat - j) 0 ⟨_, frm_of, H, (by omega)⟩ ?_
    clear H
    rintro j _ v35 ⟨uf10, rfl, H, r1⟩
    refine x_seq <| x_region <| x_b H [.v (.bool (decide ((j : Int) < c)))] <| x_nil <| x_then <| x_seq ?_
    cases h22 : decide ((j : Int) < c)
    · skip
      have h22p := of_decide_eq_false h22
      refine x_f (by kernel_rfl) <| x_exit <| x_then_exit <| x_then_exit <| x_blk_exit <| x_blk <| x_then ?_
      refine x_region <| z_ar ((k : Int) + 1) <| x_b H [.m] <| x_nil <| x_then ?_
      exact ⟨(k + 1), (by omega), _, frm_of, H, (by omega)⟩
    have h22p := of_decide_eq_true h22
    refine x_t (by kernel_rfl) <| x_skipc <| x_then <| x_seq <| x_block <| x_seq <| x_region ?_
    refine x_b H [.m, .m] <| x_nil <| x_then <| x_seq <| x_region <| x_b H [.m, .m, .m, .m, .l 0 4] <| z_ar ((k : Int) * c) ?_
    refine x_b H [.m] <| z_ar (((k : Int) * c) + (j : Int)) <| z_callB (v := .tuple #[.int .i64 (((idxP y r b o S (u8 : Int)) * 64) + (j : Int)), .int .i64 (u8 : Int), .int .i64 ((pgAt y r b o (u8 : Int)) / 16384), .int .i64 0]) H (by have h := Index_kj hL hV k j (by omega) (by omega) _ (H.ro1 [1, 2, 3, 4]); rw [hu8] at h; exact h) fun v36 H => x_b H [.m, .m, .m, .m, .m, .m, .m, .m, .m] <| x_nil <| x_then <| x_seq ?_
    refine x_region <| x_b H [.m, .m, .m, .m, .m] <| x_eq (.bool false) (show Value.bool (!decide ((u8 : Int) = (u8 : Int))) = Value.bool false by simp) (by kernel_rfl) rfl (by kernel_rfl) <| x_b H [.m, .m, .m, .n 0 0 12 43, .m] <| z_callB (v := .int .i64 (idxP y r b o S (u8 : Int))) H (Lies19 (pu := pu) (ru := ru) (pv := pv) hL hd hp8 hr8 u8 (by omega) _ (Ro.two (H.ro1 [5]) (H.ro1 [7]))) fun v37 H => z_ar ((idxP y r b o S (u8 : Int)) * 64) <| x_b H [.m] ?_
    refine z_ar (((idxP y r b o S (u8 : Int)) * 64) + (j : Int)) <| x_eq (.bool false) (show Value.bool (!decide ((((idxP y r b o S (u8 : Int)) * 64) + (j : Int)) = (((idxP y r b o S (u8 : Int)) * 64) + (j : Int)))) = Value.bool false by simp) (by kernel_rfl) rfl (by kernel_rfl) <| x_b H [.m, .m, .m, .m, .l 0 7, .m] <| x_ix (t := 40) gy 0 u8 pg cy 3 1 u8 (by omega) (by omega) (by kernel_rfl) (by kernel_rfl) (by kernel_rfl) rfl (by kernel_rfl) <| x_loadc gy u8 (.int .i64 (pgAt y r b o (u8 : Int))) (cell_as (H.rowCell 5 rfl u8 (mapAt 0 (by omega))) (by rw [(layL_get y r b o pg u8 (by omega))])) (by kernel_rfl) rfl (by kernel_rfl) <| x_eq (.int .i64 ((pgAt y r b o (u8 : Int)) / 16384)) (e_quo (pgAt y r b o (u8 : Int)) 16384 (by omega) (by omega) (by omega)) (by kernel_rfl) rfl (by kernel_rfl) <| x_eq (.bool false) (show Value.bool (!decide (((pgAt y r b o (u8 : Int)) / 16384) = ((pgAt y r b o (u8 : Int)) / 16384))) = Value.bool false by simp) (by kernel_rfl) rfl (by kernel_rfl) ?_
    refine x_b H [.m] <| x_nil <| z_fr 168 [(0, .pointer (some ⟨p, 0, none⟩)), (3, .pointer (some ⟨g1, 0, none⟩)), (5, .int .i64 (k : Int)), (8, .int .i64 (u8 : Int)), (21, .int .i64 (pg : Int)), (22, .int .i64 (k : Int)), (95, .int .i64 c), (96, .int .i64 (j : Int)), (139, .bool false)] [] fun uf11 => x_then <| x_f (by kernel_rfl) <| x_skipc <| x_blk ?_
    refine x_then <| x_region <| z_ar ((j : Int) + 1) <| x_b H [.m] <| x_nil <| x_then ?_
    exact ⟨(j + 1), (by omega), _, frm_of, H, (by omega)⟩
  have h18p := of_decide_eq_true h18
  refine z_callB (v := .tuple #[.int .i64 (idxP y r b o S (k : Int)), .int .i64 0]) H (Lies_k hL hV k (by omega) _ (H.ro1 [1, 2, 3, 4])) fun v38 H => x_b H [.m, .m, .m, .m, .m] <| x_nil <| x_then <| x_seq <| x_seq <| z_region_s H 37 [0, 1, 2, 3, 4, 5, 6, 7] ?_
  refine s_b [(0, .m), (1, .m), (2, .m), (3, .m), (4, .n 0 0 12 43), (5, .m)] 31 <| s_c 6 (v := .int .i64 (idxP y r b o S (k : Int))) (fun _ H => (Lies19 (pu := pu) (ru := ru) (pv := pv) hL hd hp8 hr8 k (by omega) _ (Ro.two (H.ro1 [5]) (H.ro1 [7])))) <| s_y 7 (y_eq (.bool false) (show Value.bool (!decide ((idxP y r b o S (k : Int)) = (idxP y r b o S (k : Int)))) = Value.bool false by simp) (by kernel_rfl) (fun _ => by kernel_rfl)) <| s_b [(8, .m), (9, .m), (10, .m), (11, .m)] 25 <| s_c 12 (v := .bool true) (fun _ H => (by have h := Dead_k hL hV k (by omega) _ (H.ro1 [1, 2, 3, 4]); rw [h8] at h; exact h)) <| s_b [(13, .n 0 0 12 43), (14, .m)] 22 <| s_c 15 (v := .bool true) (fun _ H => (by have h := Dead19 (pu := pu) (ru := ru) (lv := .slice (some ⟨gy, 0, none⟩) pg cy) (kv := kv) hL hd hp8 hr8 k (by omega) _ (H.ro1 [6]); rw [h8] at h; exact h)) ?_
  refine s_b [(16, .m), (17, .m), (18, .m), (19, .m), (20, .m)] 16 <| s_c 21 (v := .bool false) (fun _ H => (by have h := Used_k hL hV k _ (H.ro1 [1, 2, 3, 4]); rw [h18, h8] at h; exact h)) <| s_b [(22, .m), (23, .n 0 0 12 43)] 13 <| s_c 24 (fun _ H => (Seen19 (pu := pu) (ru := ru) (pv := pv) (kv := kv) hL _ (H.ro1 [5]))) <| s_b [(25, .m), (26, .l 0 10)] 10 <| s_y 27 (y_ar ((sn : Int) + (pu : Int)) ⟨by omega, by omega⟩ (by kernel_rfl) (fun _ => by kernel_rfl)) <| s_b [(28, .v (.bool (decide ((k : Int) < ((sn : Int) + (pu : Int)))))), (29, .v (.bool (decide ((k : Int) < ((sn : Int) + (pu : Int))))))] 7 ?_
  rw [h18]
  refine s_b [(30, .n 0 0 12 43), (31, .m)] 5 <| s_c 32 (v := .bool true) (fun _ H => (by have h := Dead19 (pu := pu) (ru := ru) (lv := .slice (some ⟨gy, 0, none⟩) pg cy) (kv := kv) hL hd hp8 hr8 k (by omega) _ (H.ro1 [6]); rw [h8] at h; exact h)) <| s_b [(33, .m), (34, .m), (35, .m), (36, .m)] 0 <| s_done (by kernel_rfl) ?_
  clear H
  intro v39 H
  refine z_fr 168 [(0, .pointer (some ⟨p, 0, none⟩)), (3, .pointer (some ⟨g1, 0, none⟩)), (5, .int .i64 (k : Int)), (21, .int .i64 (pg : Int)), (22, .int .i64 (k : Int)), (67, .bool false)] [] fun uf12 => x_then <| x_f (by kernel_rfl) <| x_skipc <| x_then <| x_seq <| x_region ?_
  refine x_b H [.m, .m] ?_
  cases h23 : decide ((k : Int) < (sn : Int))
  · skip
    have h23p := of_decide_eq_false h23
    have h24 : (decide ((sn : Int) ≤ (k : Int))) = true := by simp; omega
    refine z_callB (v := .tuple #[.int .i64 0, .int .i64 12]) H (Lives_o hL hV (k : Int) (by omega) _ (H.ro1 [1, 2, 3, 4])) fun v40 H => x_b H [.m, .m, .m, .m, .m] <| x_nil <| x_then <| x_seq <| x_seq <| x_region ?_
    refine x_b H [.m, .n 0 0 12 43] <| z_callB H (Seen19 (pu := pu) (ru := ru) (pv := pv) (kv := kv) hL _ (H.ro1 [5])) fun v41 H => x_b H [.v (.bool (decide ((sn : Int) ≤ (k : Int))))] <| x_nil <| x_then ?_
    rw [h24]
    refine x_t (by kernel_rfl) <| x_seq <| x_seq <| x_region <| x_b H [.m, .m, .m, .m, .m, .m] <| x_nil <| x_then ?_
    refine x_f (by kernel_rfl) <| x_skipc <| x_then <| x_exit <| x_then_exit <| x_blk_exit <| x_then ?_
    refine x_region <| z_ar ((k : Int) + 1) <| x_b H [.m] <| x_nil <| x_then ?_
    exact ⟨(k + 1), (by omega), _, frm_of, H, (by omega)⟩
  have h23p := of_decide_eq_true h23
  have h25 : (decide ((sn : Int) ≤ (k : Int))) = false := by simp; omega
  have hv0 := (hV.lv k (by omega)).1
  have hv1 := (hV.lv k (by omega)).2
  obtain ⟨u8, hu8⟩ := Int.eq_ofNat_of_zero_le hv0
  rw [hu8] at hv0 hv1
  have hil := idxP_in hL hV hv0 hv1
  have hpb := pgAt_bd y (u8 : Int) (geom_of hL)
  have hkc := kj_in (j := 0) (k := (k : Int)) (n := (sn : Int)) hc1 (by omega) (by omega) (by omega) (by omega)
  refine z_callB (v := .tuple #[.int .i64 (u8 : Int), .int .i64 0]) H (by have h := Lives_k hL hV k (by omega) _ (H.ro1 [1, 2, 3, 4]); rw [hu8] at h; exact h) fun v42 H => x_b H [.m, .m, .m, .m, .m] <| x_nil <| x_then <| x_seq <| x_seq <| x_region ?_
  refine x_b H [.m, .n 0 0 12 43] <| z_callB H (Seen19 (pu := pu) (ru := ru) (pv := pv) (kv := kv) hL _ (H.ro1 [5])) fun v43 H => x_b H [.v (.bool (decide ((sn : Int) ≤ (k : Int))))] <| x_nil <| x_then ?_
  rw [h25]
  refine x_f (by kernel_rfl) <| x_skipc <| x_then <| x_seq <| x_seq <| x_region <| x_b H [.m, .m, .m, .m, .n 0 0 12 43, .m] ?_
  refine z_callB (v := .int .i64 (u8 : Int)) H (by have h := Lives19 (pu := pu) (ru := ru) (lv := .slice (some ⟨gy, 0, none⟩) pg cy) (kv := kv) hL hd hp8 hr8 k (by omega) _ (H.ro1 [6]); rw [hu8] at h; exact h) fun v44 H => x_eq (.bool false) (show Value.bool (!decide ((u8 : Int) = (u8 : Int))) = Value.bool false by simp) (by kernel_rfl) rfl (by kernel_rfl) <| x_b H [.m] <| x_nil <| x_then <| x_f (by kernel_rfl) <| x_skipc ?_
  refine x_then <| x_seq <| x_region <| x_b H [.m, .m, .l 0 4, .m] <| x_nil <| x_then <| x_block ?_
  refine x_loop (G := Nat) (fun (j : Nat) a w' => ∃ uf13 : Nat → Value, a = frm 168 uf13 [(0, .pointer (some ⟨p, 0, none⟩)), (3, .pointer (some ⟨g1, 0, none⟩)), (5, .int .i64 (k : Int)), (8, .int .i64 (u8 : Int)), (21, .int .i64 (pg : Int)), (22, .int .i64 (k : Int)), (95, .int .i64 c), (96, .int .i64 (j : Int))] [] ∧ Hs M w0 w' [.blk g1 #[.int .i64 r, .int .i64 s, .int .i64 b, .int .i64 o, .int .i64 c, .int .i64 y, .int .i64 z, .slice (some ⟨gy, 0, none⟩) pg cy, pv, kv, .int .i64 (pu : Int), .int .i64 (ru : Int)] 43, .blk p #[.int .i64 r, .int .i64 s, .int .i64 b, .int .i64 o, .int .i64 c, .int .i64 y, .int .i64 z, .slice (some ⟨gl, 0, none⟩) sn cl, .slice (some ⟨gd, 0, none⟩) pg cd, .slice (some ⟨gs, 0, none⟩) ns cs, .int .i64 (pu : Int), .int .i64 (ru : Int)] 118, .row (.slice (some ⟨gl, 0, none⟩) sn cl) 3 1 sn (List.map (Value.int .i64) L), .row (.slice (some ⟨gd, 0, none⟩) pg cd) 4 1 pg (List.map Value.bool D), .row (.slice (some ⟨gs, 0, none⟩) ns cs) 3 1 ns (List.map (Value.int .i64) S), .row (.slice (some ⟨gy, 0, none⟩) pg cy) 3 1 pg (List.map (Value.int .i64) (layL y r b o pg)), .row (pv) 156 2 (List.length Pg) (List.flatMap entL Pg), .row (kv) 156 2 (List.length Rk) (List.flatMap entL Rk)] ∧ ((j : Int) ≤ c)) (fun (j : Nat) => c.toNat - j) 0 ⟨_, frm_of, H, (by omega)⟩ ?_
  clear H
  rintro j _ v45 ⟨uf13, rfl, H, r1⟩
  refine x_seq <| x_region <| x_b H [.v (.bool (decide ((j : Int) < c)))] <| x_nil <| x_then <| x_seq ?_
  cases h26 : decide ((j : Int) < c)
  · skip
    have h26p := of_decide_eq_false h26
    refine x_f (by kernel_rfl) <| x_exit <| x_then_exit <| x_then_exit <| x_blk_exit <| x_blk <| x_then ?_
    refine x_region <| z_ar ((k : Int) + 1) <| x_b H [.m] <| x_nil <| x_then ?_
    exact ⟨(k + 1), (by omega), _, frm_of, H, (by omega)⟩
  have h26p := of_decide_eq_true h26
  refine x_t (by kernel_rfl) <| x_skipc <| x_then <| x_seq <| x_block <| x_seq <| x_region ?_
  refine x_b H [.m, .m] <| x_nil <| x_then <| x_seq <| x_region <| x_b H [.m, .m, .m, .m, .l 0 4] <| z_ar ((k : Int) * c) ?_
  refine x_b H [.m] <| z_ar (((k : Int) * c) + (j : Int)) <| z_callB (v := .tuple #[.int .i64 (((idxP y r b o S (u8 : Int)) * 64) + (j : Int)), .int .i64 (u8 : Int), .int .i64 ((pgAt y r b o (u8 : Int)) / 16384), .int .i64 0]) H (by have h := Index_kj hL hV k j (by omega) (by omega) _ (H.ro1 [1, 2, 3, 4]); rw [hu8] at h; exact h) fun v46 H => x_b H [.m, .m, .m, .m, .m, .m, .m, .m, .m] <| x_nil <| x_then <| x_seq ?_
  refine x_region <| x_b H [.m, .m, .m, .m, .m] <| x_eq (.bool false) (show Value.bool (!decide ((u8 : Int) = (u8 : Int))) = Value.bool false by simp) (by kernel_rfl) rfl (by kernel_rfl) <| x_b H [.m, .m, .m, .n 0 0 12 43, .m] <| z_callB (v := .int .i64 (idxP y r b o S (u8 : Int))) H (Lies19 (pu := pu) (ru := ru) (pv := pv) hL hd hp8 hr8 u8 (by omega) _ (Ro.two (H.ro1 [5]) (H.ro1 [7]))) fun v47 H => z_ar ((idxP y r b o S (u8 : Int)) * 64) <| x_b H [.m] ?_
  refine z_ar (((idxP y r b o S (u8 : Int)) * 64) + (j : Int)) <| x_eq (.bool false) (show Value.bool (!decide ((((idxP y r b o S (u8 : Int)) * 64) + (j : Int)) = (((idxP y r b o S (u8 : Int)) * 64) + (j : Int)))) = Value.bool false by simp) (by kernel_rfl) rfl (by kernel_rfl) <| x_b H [.m, .m, .m, .m, .l 0 7, .m] <| x_ix (t := 40) gy 0 u8 pg cy 3 1 u8 (by omega) (by omega) (by kernel_rfl) (by kernel_rfl) (by kernel_rfl) rfl (by kernel_rfl) <| x_loadc gy u8 (.int .i64 (pgAt y r b o (u8 : Int))) (cell_as (H.rowCell 5 rfl u8 (mapAt 0 (by omega))) (by rw [(layL_get y r b o pg u8 (by omega))])) (by kernel_rfl) rfl (by kernel_rfl) <| x_eq (.int .i64 ((pgAt y r b o (u8 : Int)) / 16384)) (e_quo (pgAt y r b o (u8 : Int)) 16384 (by omega) (by omega) (by omega)) (by kernel_rfl) rfl (by kernel_rfl) <| x_eq (.bool false) (show Value.bool (!decide (((pgAt y r b o (u8 : Int)) / 16384) = ((pgAt y r b o (u8 : Int)) / 16384))) = Value.bool false by simp) (by kernel_rfl) rfl (by kernel_rfl) ?_
  refine x_b H [.m] <| x_nil <| z_fr 168 [(0, .pointer (some ⟨p, 0, none⟩)), (3, .pointer (some ⟨g1, 0, none⟩)), (5, .int .i64 (k : Int)), (8, .int .i64 (u8 : Int)), (21, .int .i64 (pg : Int)), (22, .int .i64 (k : Int)), (95, .int .i64 c), (96, .int .i64 (j : Int)), (139, .bool false)] [] fun uf14 => x_then <| x_f (by kernel_rfl) <| x_skipc <| x_blk ?_
  refine x_then <| x_region <| z_ar ((j : Int) + 1) <| x_b H [.m] <| x_nil <| x_then ?_
  exact ⟨(j + 1), (by omega), _, frm_of, H, (by omega)⟩

theorem rsame {M : List Nat} {r s b o c y z : Int} {pg sn ns : Nat} (hL : Lay r s b o c y z pg sn ns) {p gl cl gd cd gs cs : Nat} {L : List Int} {D : List Bool} {S : List Int} {pu ru : Nat} (hV : MapV r s z sn pg ns L D S pu ru) {Pg Rk : List Ent} {lv pv kv : Value} (hd : DocM pg sn ns L D S Pg Rk) (hp8 : Pg.length ≤ 4000) (hr8 : Rk.length ≤ 4000) (w0 : World) (H0 : Hs M w0 w0 [.blk p #[.int .i64 r, .int .i64 s, .int .i64 b, .int .i64 o, .int .i64 c, .int .i64 y, .int .i64 z, .slice (some ⟨gl, 0, none⟩) sn cl, .slice (some ⟨gd, 0, none⟩) pg cd, .slice (some ⟨gs, 0, none⟩) ns cs, .int .i64 ((pu : Nat) : Int), .int .i64 ((ru : Nat) : Int)] 118, .row (.slice (some ⟨gl, 0, none⟩) sn cl) 3 1 sn (List.map (Value.int .i64) L), .row (.slice (some ⟨gd, 0, none⟩) pg cd) 4 1 pg (List.map Value.bool D), .row (.slice (some ⟨gs, 0, none⟩) ns cs) 3 1 ns (List.map (Value.int .i64) S), .row (lv) 3 1 pg (List.map (Value.int .i64) (layL y r b o pg)), .row (pv) 156 2 (List.length Pg) (List.flatMap entL Pg), .row (kv) 156 2 (List.length Rk) (List.flatMap entL Rk)]) : Calls Try.prog 28 #[.pointer (some ⟨p, 0, none⟩), .agg #[.int .i64 r, .int .i64 s, .int .i64 b, .int .i64 o, .int .i64 c, .int .i64 y, .int .i64 z, lv, pv, kv, .int .i64 ((pu : Nat) : Int), .int .i64 ((ru : Nat) : Int)]] w0 fun e w' => e = .returned (.bool true) ∧ Hs M w0 w' [.blk p #[.int .i64 r, .int .i64 s, .int .i64 b, .int .i64 o, .int .i64 c, .int .i64 y, .int .i64 z, .slice (some ⟨gl, 0, none⟩) sn cl, .slice (some ⟨gd, 0, none⟩) pg cd, .slice (some ⟨gs, 0, none⟩) ns cs, .int .i64 ((pu : Nat) : Int), .int .i64 ((ru : Nat) : Int)] 118, .row (.slice (some ⟨gl, 0, none⟩) sn cl) 3 1 sn (List.map (Value.int .i64) L), .row (.slice (some ⟨gd, 0, none⟩) pg cd) 4 1 pg (List.map Value.bool D), .row (.slice (some ⟨gs, 0, none⟩) ns cs) 3 1 ns (List.map (Value.int .i64) S), .row (lv) 3 1 pg (List.map (Value.int .i64) (layL y r b o pg)), .row (pv) 156 2 (List.length Pg) (List.flatMap entL Pg), .row (kv) 156 2 (List.length Rk) (List.flatMap entL Rk)] := by
  have hsn := hL.hsn
  have hs1 := hL.sn1
  have hz := hL.z0
  rcases H0.rowForm 4 rfl with ⟨rfl, h0⟩ | ⟨gy, cy, rfl, hcy, _⟩
  · omega
  · exact rsame_s hL hV hd hp8 hr8 w0 H0

end Go.Proofs.Ytpmnnijjohlloaa
