/- Contracts: Replace, small, indices; a line's index told by a function. -/
import Derived.Test.YtgpalgbdacoagaaRemapC
namespace Go.Proofs.Ytgpalgbdacoagaa
open Go Go.RowKit
set_option linter.unusedVariables false
set_option linter.unusedSimpArgs false

set_option maxRecDepth 100000 in
set_option maxHeartbeats 1000000 in
theorem Replace_ok {r s b o c y z : Int} {pg sn ns : Nat} (hL : Lay r s b o c y z pg sn ns) {p gl cl gd cd gs cs : Nat} {L : List Int} {D : List Bool} {S : List Int} {pu ru : Nat} (hM : MapOk z s sn pg ns L D S pu ru) (q : Nat) (v : Int) (hq : q < ns) (hv1 : r ≤ v) (hv2 : v < r + ru) (hs : S.getD q 0 = -1) (w0 : World) (H0 : Hs (fps [.blk p #[.int .i64 r, .int .i64 s, .int .i64 b, .int .i64 o, .int .i64 c, .int .i64 y, .int .i64 z, .slice (some ⟨gl, 0, none⟩) sn cl, .slice (some ⟨gd, 0, none⟩) pg cd, .slice (some ⟨gs, 0, none⟩) ns cs, .int .i64 ((pu : Nat) : Int), .int .i64 ((ru : Nat) : Int)] 181, .row (.slice (some ⟨gl, 0, none⟩) sn cl) 3 1 sn (List.map (Value.int .i64) L), .row (.slice (some ⟨gd, 0, none⟩) pg cd) 4 1 pg (List.map Value.bool D), .row (.slice (some ⟨gs, 0, none⟩) ns cs) 3 1 ns (List.map (Value.int .i64) S)]) w0 w0 [.blk p #[.int .i64 r, .int .i64 s, .int .i64 b, .int .i64 o, .int .i64 c, .int .i64 y, .int .i64 z, .slice (some ⟨gl, 0, none⟩) sn cl, .slice (some ⟨gd, 0, none⟩) pg cd, .slice (some ⟨gs, 0, none⟩) ns cs, .int .i64 ((pu : Nat) : Int), .int .i64 ((ru : Nat) : Int)] 181, .row (.slice (some ⟨gl, 0, none⟩) sn cl) 3 1 sn (List.map (Value.int .i64) L), .row (.slice (some ⟨gd, 0, none⟩) pg cd) 4 1 pg (List.map Value.bool D), .row (.slice (some ⟨gs, 0, none⟩) ns cs) 3 1 ns (List.map (Value.int .i64) S)]) :
    Calls Try.prog 53 #[.pointer (some ⟨p, 0, none⟩), .int .i64 ((q : Nat) : Int), .int .i64 v] w0 fun e w' => e = .returned (.int .i64 0) ∧ Hs (fps [.blk p #[.int .i64 r, .int .i64 s, .int .i64 b, .int .i64 o, .int .i64 c, .int .i64 y, .int .i64 z, .slice (some ⟨gl, 0, none⟩) sn cl, .slice (some ⟨gd, 0, none⟩) pg cd, .slice (some ⟨gs, 0, none⟩) ns cs, .int .i64 ((pu : Nat) : Int), .int .i64 ((ru : Nat) : Int)] 181, .row (.slice (some ⟨gl, 0, none⟩) sn cl) 3 1 sn (List.map (Value.int .i64) L), .row (.slice (some ⟨gd, 0, none⟩) pg cd) 4 1 pg (List.map Value.bool D), .row (.slice (some ⟨gs, 0, none⟩) ns cs) 3 1 ns (List.map (Value.int .i64) S)]) w0 w' [.blk p #[.int .i64 r, .int .i64 s, .int .i64 b, .int .i64 o, .int .i64 c, .int .i64 y, .int .i64 z, .slice (some ⟨gl, 0, none⟩) sn cl, .slice (some ⟨gd, 0, none⟩) pg cd, .slice (some ⟨gs, 0, none⟩) ns cs, .int .i64 ((pu : Nat) : Int), .int .i64 ((ru : Nat) : Int)] 181, .row (.slice (some ⟨gl, 0, none⟩) sn cl) 3 1 sn (List.map (Value.int .i64) L), .row (.slice (some ⟨gd, 0, none⟩) pg cd) 4 1 pg (List.map Value.bool D), .row (.slice (some ⟨gs, 0, none⟩) ns cs) 3 1 ns (List.map (Value.int .i64) (S.set q v))] := by
  refine x_enter Try.func53 rfl #[.pointer (some ⟨p, 0, none⟩), .int .i64 ((q : Nat) : Int), .int .i64 v, undef, undef, undef, undef, undef, undef, undef, undef, undef, undef, undef, undef, undef, undef, undef, undef, undef, undef, undef, undef, undef, undef, undef, undef, undef, undef, undef, undef, undef, undef, undef, undef, undef, undef, undef, undef, undef, undef, undef, undef, undef, undef, undef, undef, undef] (by kernel_rfl) ?_
  have H := H0
  obtain ⟨eL, eD, eS, hp, hr⟩ := id hM
  have hok := hL.ok
  obtain ⟨-, r1, r8, s0, s8, b1, b2, o1, o2, c1, c2, y0, y4, z0, z2, hpg, hsn, hns, sn1, pg2, ln0, ln2⟩ := id hL
  have q1 : (decide (0 ≤ ((q : Nat) : Int)) && decide (((q : Nat) : Int) < ((ns : Nat) : Int))) = true := by simp; omega
  have q2 : (decide (0 ≤ (v - r)) && decide ((v - r) < ((ru : Nat) : Int))) = true := by simp; omega
  have q3 : (decide ((S.getD q 0) = (-1))) = true := by simpa using hs
  refine x_seq ?_
  refine x_region ?_
  refine x_val (.int .i64 0) (by kernel_rfl) rfl (by kernel_rfl) ?_
  refine x_nil ?_
  refine x_then ?_
  refine x_seq ?_
  refine x_block ?_
  refine x_seq ?_
  refine x_region_whole (fun w' => Hs (fps [.blk p #[.int .i64 r, .int .i64 s, .int .i64 b, .int .i64 o, .int .i64 c, .int .i64 y, .int .i64 z, .slice (some ⟨gl, 0, none⟩) sn cl, .slice (some ⟨gd, 0, none⟩) pg cd, .slice (some ⟨gs, 0, none⟩) ns cs, .int .i64 ((pu : Nat) : Int), .int .i64 ((ru : Nat) : Int)] 181, .row (.slice (some ⟨gl, 0, none⟩) sn cl) 3 1 sn (List.map (Value.int .i64) L), .row (.slice (some ⟨gd, 0, none⟩) pg cd) 4 1 pg (List.map Value.bool D), .row (.slice (some ⟨gs, 0, none⟩) ns cs) 3 1 ns (List.map (Value.int .i64) S)]) w0 w' [.blk p #[.int .i64 r, .int .i64 s, .int .i64 b, .int .i64 o, .int .i64 c, .int .i64 y, .int .i64 z, .slice (some ⟨gl, 0, none⟩) sn cl, .slice (some ⟨gd, 0, none⟩) pg cd, .slice (some ⟨gs, 0, none⟩) ns cs, .int .i64 ((pu : Nat) : Int), .int .i64 ((ru : Nat) : Int)] 181, .row (.slice (some ⟨gl, 0, none⟩) sn cl) 3 1 sn (List.map (Value.int .i64) L), .row (.slice (some ⟨gd, 0, none⟩) pg cd) 4 1 pg (List.map Value.bool D), .row (.slice (some ⟨gs, 0, none⟩) ns cs) 3 1 ns (List.map (Value.int .i64) S)]) (by kernel_rfl) (by kernel_rfl) (by kernel_rfl) H.drew ?_
  refine q_val (.int .i64 ((q : Nat) : Int)) (by kernel_rfl) (fun _ => by kernel_rfl) ?_
  refine q_val (.pointer (some ⟨p, 0, none⟩)) (by kernel_rfl) (fun _ => by kernel_rfl) ?_
  refine q_val (.pointer (some ⟨p, 0, none⟩)) (by kernel_rfl) (fun _ => by kernel_rfl) ?_
  refine q_val (.pointer (some ⟨p, 9, none⟩)) (by kernel_rfl) (fun _ => by kernel_rfl) ?_
  refine q_load1 0 p 9 #[.int .i64 r, .int .i64 s, .int .i64 b, .int .i64 o, .int .i64 c, .int .i64 y, .int .i64 z, .slice (some ⟨gl, 0, none⟩) sn cl, .slice (some ⟨gd, 0, none⟩) pg cd, .slice (some ⟨gs, 0, none⟩) ns cs, .int .i64 ((pu : Nat) : Int), .int .i64 ((ru : Nat) : Int)] 181 (.slice (some ⟨gs, 0, none⟩) ns cs) (by kernel_rfl) (by kernel_rfl) (by kernel_rfl) (fun _ => by kernel_rfl) ?_
  refine q_val (.int .i64 ((ns : Nat) : Int)) (by kernel_rfl) (fun _ => by kernel_rfl) ?_
  refine q_callB (.bool (decide (0 ≤ ((q : Nat) : Int)) && decide (((q : Nat) : Int) < ((ns : Nat) : Int)))) (by kernel_rfl) (fun _ => by kernel_rfl) (fun _ => (below_any _ _ _)) ?_
  refine q_val (.bool (!(decide (0 ≤ ((q : Nat) : Int)) && decide (((q : Nat) : Int) < ((ns : Nat) : Int))))) (by kernel_rfl) (fun _ => by kernel_rfl) ?_
  refine q_val (.bool (!(decide (0 ≤ ((q : Nat) : Int)) && decide (((q : Nat) : Int) < ((ns : Nat) : Int))))) (by kernel_rfl) (fun _ => by kernel_rfl) ?_
  rw [q1]
  refine q_val (.int .i64 v) (by kernel_rfl) (fun _ => by kernel_rfl) ?_
  refine q_val (.pointer (some ⟨p, 0, none⟩)) (by kernel_rfl) (fun _ => by kernel_rfl) ?_
  refine q_val (.pointer (some ⟨p, 0, none⟩)) (by kernel_rfl) (fun _ => by kernel_rfl) ?_
  refine q_val (.pointer (some ⟨p, 0, none⟩)) (by kernel_rfl) (fun _ => by kernel_rfl) ?_
  refine q_val (.pointer (some ⟨p, 0, none⟩)) (by kernel_rfl) (fun _ => by kernel_rfl) ?_
  refine q_val (.pointer (some ⟨p, 0, none⟩)) (by kernel_rfl) (fun _ => by kernel_rfl) ?_
  refine q_load1 0 p 0 #[.int .i64 r, .int .i64 s, .int .i64 b, .int .i64 o, .int .i64 c, .int .i64 y, .int .i64 z, .slice (some ⟨gl, 0, none⟩) sn cl, .slice (some ⟨gd, 0, none⟩) pg cd, .slice (some ⟨gs, 0, none⟩) ns cs, .int .i64 ((pu : Nat) : Int), .int .i64 ((ru : Nat) : Int)] 181 (.int .i64 r) (by kernel_rfl) (by kernel_rfl) (by kernel_rfl) (fun _ => by kernel_rfl) ?_
  refine q_ar (v - r) ⟨by omega, by omega⟩ (by kernel_rfl) (fun _ => by kernel_rfl) ?_
  refine q_val (.pointer (some ⟨p, 0, none⟩)) (by kernel_rfl) (fun _ => by kernel_rfl) ?_
  refine q_val (.pointer (some ⟨p, 0, none⟩)) (by kernel_rfl) (fun _ => by kernel_rfl) ?_
  refine q_val (.pointer (some ⟨p, 11, none⟩)) (by kernel_rfl) (fun _ => by kernel_rfl) ?_
  refine q_load1 0 p 11 #[.int .i64 r, .int .i64 s, .int .i64 b, .int .i64 o, .int .i64 c, .int .i64 y, .int .i64 z, .slice (some ⟨gl, 0, none⟩) sn cl, .slice (some ⟨gd, 0, none⟩) pg cd, .slice (some ⟨gs, 0, none⟩) ns cs, .int .i64 ((pu : Nat) : Int), .int .i64 ((ru : Nat) : Int)] 181 (.int .i64 ((ru : Nat) : Int)) (by kernel_rfl) (by kernel_rfl) (by kernel_rfl) (fun _ => by kernel_rfl) ?_
  refine q_callB (.bool (decide (0 ≤ (v - r)) && decide ((v - r) < ((ru : Nat) : Int)))) (by kernel_rfl) (fun _ => by kernel_rfl) (fun _ => (below_any _ _ _)) ?_
  refine q_val (.bool (!(decide (0 ≤ (v - r)) && decide ((v - r) < ((ru : Nat) : Int))))) (by kernel_rfl) (fun _ => by kernel_rfl) ?_
  refine q_val (.bool (!(decide (0 ≤ (v - r)) && decide ((v - r) < ((ru : Nat) : Int))))) (by kernel_rfl) (fun _ => by kernel_rfl) ?_
  refine q_val (.bool (!(decide (0 ≤ (v - r)) && decide ((v - r) < ((ru : Nat) : Int))))) (by kernel_rfl) (fun _ => by kernel_rfl) ?_
  refine q_nil ?_
  clear H
  intro v1 H
  refine x_frame' { tmps := #[.pointer (some ⟨p, 0, none⟩), .int .i64 ((q : Nat) : Int), .int .i64 v, undef, undef, undef, .int .i64 0, .bool (!(decide (0 ≤ (v - r)) && decide ((v - r) < ((ru : Nat) : Int)))), .int .i64 ((q : Nat) : Int), .pointer (some ⟨p, 0, none⟩), .pointer (some ⟨p, 0, none⟩), .pointer (some ⟨p, 9, none⟩), .slice (some ⟨gs, 0, none⟩) ns cs, .int .i64 ((ns : Nat) : Int), .bool true, .bool false, .bool false, .int .i64 v, .pointer (some ⟨p, 0, none⟩), .pointer (some ⟨p, 0, none⟩), .pointer (some ⟨p, 0, none⟩), .pointer (some ⟨p, 0, none⟩), .pointer (some ⟨p, 0, none⟩), .int .i64 r, .int .i64 (v - r), .pointer (some ⟨p, 0, none⟩), .pointer (some ⟨p, 0, none⟩), .pointer (some ⟨p, 11, none⟩), .int .i64 ((ru : Nat) : Int), .bool (decide (0 ≤ (v - r)) && decide ((v - r) < ((ru : Nat) : Int))), .bool (!(decide (0 ≤ (v - r)) && decide ((v - r) < ((ru : Nat) : Int)))), .bool (!(decide (0 ≤ (v - r)) && decide ((v - r) < ((ru : Nat) : Int)))), undef, undef, undef, undef, undef, undef, undef, undef, undef, undef, undef, undef, undef, undef, undef, undef], defers := [] } (by kernel_rfl) ?_
  refine x_then ?_
  rw [q2]
  refine x_f (by kernel_rfl) ?_
  refine x_seq ?_
  refine x_region ?_
  refine x_val (.pointer (some ⟨p, 0, none⟩)) (by kernel_rfl) rfl (by kernel_rfl) ?_
  refine x_val (.pointer (some ⟨p, 0, none⟩)) (by kernel_rfl) rfl (by kernel_rfl) ?_
  refine x_val (.pointer (some ⟨p, 9, none⟩)) (by kernel_rfl) rfl (by kernel_rfl) ?_
  refine x_load1 H 0 p 9 #[.int .i64 r, .int .i64 s, .int .i64 b, .int .i64 o, .int .i64 c, .int .i64 y, .int .i64 z, .slice (some ⟨gl, 0, none⟩) sn cl, .slice (some ⟨gd, 0, none⟩) pg cd, .slice (some ⟨gs, 0, none⟩) ns cs, .int .i64 ((pu : Nat) : Int), .int .i64 ((ru : Nat) : Int)] 181 (.slice (some ⟨gs, 0, none⟩) ns cs) (by kernel_rfl) (by kernel_rfl) (by kernel_rfl) rfl (by kernel_rfl) ?_
  refine x_val (.int .i64 ((q : Nat) : Int)) (by kernel_rfl) rfl (by kernel_rfl) ?_
  refine x_ix (t := 106) gs 0 q ns cs 3 1 q (by omega) (by omega) (by kernel_rfl) (by kernel_rfl) (by kernel_rfl) rfl (by kernel_rfl) ?_
  refine x_loadc gs q (.int .i64 (S.getD q 0)) (H.rowCell 3 rfl q (mapAt 0 (by omega))) (by kernel_rfl) rfl (by kernel_rfl) ?_
  refine x_val (.bool (!(decide ((S.getD q 0) = (-1))))) (by kernel_rfl) rfl (by kernel_rfl) ?_
  refine x_val (.bool (!(decide ((S.getD q 0) = (-1))))) (by kernel_rfl) rfl (by kernel_rfl) ?_
  refine x_nil ?_
  refine x_then ?_
  rw [q3]
  refine x_f (by kernel_rfl) ?_
  refine x_skipc ?_
  refine x_blk ?_
  refine x_then ?_
  refine x_seq ?_
  refine x_region ?_
  refine x_val (.pointer (some ⟨p, 0, none⟩)) (by kernel_rfl) rfl (by kernel_rfl) ?_
  refine x_val (.pointer (some ⟨p, 0, none⟩)) (by kernel_rfl) rfl (by kernel_rfl) ?_
  refine x_val (.pointer (some ⟨p, 9, none⟩)) (by kernel_rfl) rfl (by kernel_rfl) ?_
  refine x_load1 H 0 p 9 #[.int .i64 r, .int .i64 s, .int .i64 b, .int .i64 o, .int .i64 c, .int .i64 y, .int .i64 z, .slice (some ⟨gl, 0, none⟩) sn cl, .slice (some ⟨gd, 0, none⟩) pg cd, .slice (some ⟨gs, 0, none⟩) ns cs, .int .i64 ((pu : Nat) : Int), .int .i64 ((ru : Nat) : Int)] 181 (.slice (some ⟨gs, 0, none⟩) ns cs) (by kernel_rfl) (by kernel_rfl) (by kernel_rfl) rfl (by kernel_rfl) ?_
  refine x_val (.int .i64 ((q : Nat) : Int)) (by kernel_rfl) rfl (by kernel_rfl) ?_
  refine x_val (.int .i64 v) (by kernel_rfl) rfl (by kernel_rfl) ?_
  refine x_ix (t := 106) gs 0 q ns cs 3 1 q (by omega) (by omega) (by kernel_rfl) (by kernel_rfl) (by kernel_rfl) rfl (by kernel_rfl) ?_
  refine x_storeRow (t := 3) (v := .int .i64 v) H 3 gs q ns cs 3 1 (List.map (Value.int .i64) S) [.int .i64 v] (List.map (Value.int .i64) (S.set q v)) [.blk p #[.int .i64 r, .int .i64 s, .int .i64 b, .int .i64 o, .int .i64 c, .int .i64 y, .int .i64 z, .slice (some ⟨gl, 0, none⟩) sn cl, .slice (some ⟨gd, 0, none⟩) pg cd, .slice (some ⟨gs, 0, none⟩) ns cs, .int .i64 ((pu : Nat) : Int), .int .i64 ((ru : Nat) : Int)] 181, .row (.slice (some ⟨gl, 0, none⟩) sn cl) 3 1 sn (List.map (Value.int .i64) L), .row (.slice (some ⟨gd, 0, none⟩) pg cd) 4 1 pg (List.map Value.bool D), .row (.slice (some ⟨gs, 0, none⟩) ns cs) 3 1 ns (List.map (Value.int .i64) (S.set q v))] rfl (by simp only [List.length_cons, List.length_nil]; omega) (by kernel_rfl) (setMap (by omega) v) rfl (by kernel_rfl) rfl (by kernel_rfl) (by kernel_rfl) (by kernel_rfl) ?_
  clear H
  intro v2 H
  refine x_nil ?_
  refine x_frame' { tmps := #[.pointer (some ⟨p, 0, none⟩), .int .i64 ((q : Nat) : Int), .int .i64 v, undef, undef, undef, .int .i64 0, .bool false, .int .i64 ((q : Nat) : Int), .pointer (some ⟨p, 0, none⟩), .pointer (some ⟨p, 0, none⟩), .pointer (some ⟨p, 9, none⟩), .slice (some ⟨gs, 0, none⟩) ns cs, .int .i64 ((ns : Nat) : Int), .bool true, .bool false, .bool false, .int .i64 v, .pointer (some ⟨p, 0, none⟩), .pointer (some ⟨p, 0, none⟩), .pointer (some ⟨p, 0, none⟩), .pointer (some ⟨p, 0, none⟩), .pointer (some ⟨p, 0, none⟩), .int .i64 r, .int .i64 (v - r), .pointer (some ⟨p, 0, none⟩), .pointer (some ⟨p, 0, none⟩), .pointer (some ⟨p, 11, none⟩), .int .i64 ((ru : Nat) : Int), .bool true, .bool false, .bool false, .bool false, .pointer (some ⟨p, 0, none⟩), .pointer (some ⟨p, 0, none⟩), .pointer (some ⟨p, 9, none⟩), .slice (some ⟨gs, 0, none⟩) ns cs, .int .i64 ((q : Nat) : Int), .pointer (some ⟨gs, q, none⟩), .int .i64 (S.getD q 0), .bool false, .pointer (some ⟨p, 0, none⟩), .pointer (some ⟨p, 0, none⟩), .pointer (some ⟨p, 9, none⟩), .slice (some ⟨gs, 0, none⟩) ns cs, .int .i64 ((q : Nat) : Int), .int .i64 v, .pointer (some ⟨gs, q, none⟩)], defers := [] } (by kernel_rfl) ?_
  refine x_then ?_
  refine x_seq ?_
  refine x_region ?_
  refine x_val (.int .i64 0) (by kernel_rfl) rfl (by kernel_rfl) ?_
  refine x_nil ?_
  refine x_then ?_
  refine x_retc ?_
  refine x_ret (.int .i64 0) (by kernel_rfl) (by kernel_rfl) ?_
  exact ⟨rfl, H⟩

set_option maxRecDepth 100000 in
set_option maxHeartbeats 1000000 in
theorem Replace_out {r s b o c y z : Int} {pg sn ns : Nat} (hL : Lay r s b o c y z pg sn ns) {p gl cl gd cd gs cs : Nat} {L : List Int} {D : List Bool} {S : List Int} {pu ru : Nat} (hM : MapOk z s sn pg ns L D S pu ru) (i v : Int) (hi : 0 ≤ i → ((ns : Nat) : Int) ≤ i) (w0 : World) (H0 : Hs (fps [.blk p #[.int .i64 r, .int .i64 s, .int .i64 b, .int .i64 o, .int .i64 c, .int .i64 y, .int .i64 z, .slice (some ⟨gl, 0, none⟩) sn cl, .slice (some ⟨gd, 0, none⟩) pg cd, .slice (some ⟨gs, 0, none⟩) ns cs, .int .i64 ((pu : Nat) : Int), .int .i64 ((ru : Nat) : Int)] 181, .row (.slice (some ⟨gl, 0, none⟩) sn cl) 3 1 sn (List.map (Value.int .i64) L), .row (.slice (some ⟨gd, 0, none⟩) pg cd) 4 1 pg (List.map Value.bool D), .row (.slice (some ⟨gs, 0, none⟩) ns cs) 3 1 ns (List.map (Value.int .i64) S)]) w0 w0 [.blk p #[.int .i64 r, .int .i64 s, .int .i64 b, .int .i64 o, .int .i64 c, .int .i64 y, .int .i64 z, .slice (some ⟨gl, 0, none⟩) sn cl, .slice (some ⟨gd, 0, none⟩) pg cd, .slice (some ⟨gs, 0, none⟩) ns cs, .int .i64 ((pu : Nat) : Int), .int .i64 ((ru : Nat) : Int)] 181, .row (.slice (some ⟨gl, 0, none⟩) sn cl) 3 1 sn (List.map (Value.int .i64) L), .row (.slice (some ⟨gd, 0, none⟩) pg cd) 4 1 pg (List.map Value.bool D), .row (.slice (some ⟨gs, 0, none⟩) ns cs) 3 1 ns (List.map (Value.int .i64) S)]) :
    Calls Try.prog 53 #[.pointer (some ⟨p, 0, none⟩), .int .i64 i, .int .i64 v] w0 fun e w' => e = .returned (.int .i64 12) ∧ Hs (fps [.blk p #[.int .i64 r, .int .i64 s, .int .i64 b, .int .i64 o, .int .i64 c, .int .i64 y, .int .i64 z, .slice (some ⟨gl, 0, none⟩) sn cl, .slice (some ⟨gd, 0, none⟩) pg cd, .slice (some ⟨gs, 0, none⟩) ns cs, .int .i64 ((pu : Nat) : Int), .int .i64 ((ru : Nat) : Int)] 181, .row (.slice (some ⟨gl, 0, none⟩) sn cl) 3 1 sn (List.map (Value.int .i64) L), .row (.slice (some ⟨gd, 0, none⟩) pg cd) 4 1 pg (List.map Value.bool D), .row (.slice (some ⟨gs, 0, none⟩) ns cs) 3 1 ns (List.map (Value.int .i64) S)]) w0 w' [.blk p #[.int .i64 r, .int .i64 s, .int .i64 b, .int .i64 o, .int .i64 c, .int .i64 y, .int .i64 z, .slice (some ⟨gl, 0, none⟩) sn cl, .slice (some ⟨gd, 0, none⟩) pg cd, .slice (some ⟨gs, 0, none⟩) ns cs, .int .i64 ((pu : Nat) : Int), .int .i64 ((ru : Nat) : Int)] 181, .row (.slice (some ⟨gl, 0, none⟩) sn cl) 3 1 sn (List.map (Value.int .i64) L), .row (.slice (some ⟨gd, 0, none⟩) pg cd) 4 1 pg (List.map Value.bool D), .row (.slice (some ⟨gs, 0, none⟩) ns cs) 3 1 ns (List.map (Value.int .i64) S)] := by
  refine x_enter Try.func53 rfl #[.pointer (some ⟨p, 0, none⟩), .int .i64 i, .int .i64 v, undef, undef, undef, undef, undef, undef, undef, undef, undef, undef, undef, undef, undef, undef, undef, undef, undef, undef, undef, undef, undef, undef, undef, undef, undef, undef, undef, undef, undef, undef, undef, undef, undef, undef, undef, undef, undef, undef, undef, undef, undef, undef, undef, undef, undef] (by kernel_rfl) ?_
  have H := H0
  obtain ⟨eL, eD, eS, hp, hr⟩ := id hM
  have hok := hL.ok
  obtain ⟨-, r1, r8, s0, s8, b1, b2, o1, o2, c1, c2, y0, y4, z0, z2, hpg, hsn, hns, sn1, pg2, ln0, ln2⟩ := id hL
  have q1 : (decide (0 ≤ i) && decide (i < ((ns : Nat) : Int))) = false := by simpa using hi
  refine x_seq ?_
  refine x_region ?_
  refine x_val (.int .i64 0) (by kernel_rfl) rfl (by kernel_rfl) ?_
  refine x_nil ?_
  refine x_then ?_
  refine x_seq ?_
  refine x_block ?_
  refine x_seq ?_
  refine x_region_whole (fun w' => Hs (fps [.blk p #[.int .i64 r, .int .i64 s, .int .i64 b, .int .i64 o, .int .i64 c, .int .i64 y, .int .i64 z, .slice (some ⟨gl, 0, none⟩) sn cl, .slice (some ⟨gd, 0, none⟩) pg cd, .slice (some ⟨gs, 0, none⟩) ns cs, .int .i64 ((pu : Nat) : Int), .int .i64 ((ru : Nat) : Int)] 181, .row (.slice (some ⟨gl, 0, none⟩) sn cl) 3 1 sn (List.map (Value.int .i64) L), .row (.slice (some ⟨gd, 0, none⟩) pg cd) 4 1 pg (List.map Value.bool D), .row (.slice (some ⟨gs, 0, none⟩) ns cs) 3 1 ns (List.map (Value.int .i64) S)]) w0 w' [.blk p #[.int .i64 r, .int .i64 s, .int .i64 b, .int .i64 o, .int .i64 c, .int .i64 y, .int .i64 z, .slice (some ⟨gl, 0, none⟩) sn cl, .slice (some ⟨gd, 0, none⟩) pg cd, .slice (some ⟨gs, 0, none⟩) ns cs, .int .i64 ((pu : Nat) : Int), .int .i64 ((ru : Nat) : Int)] 181, .row (.slice (some ⟨gl, 0, none⟩) sn cl) 3 1 sn (List.map (Value.int .i64) L), .row (.slice (some ⟨gd, 0, none⟩) pg cd) 4 1 pg (List.map Value.bool D), .row (.slice (some ⟨gs, 0, none⟩) ns cs) 3 1 ns (List.map (Value.int .i64) S)]) (by kernel_rfl) (by kernel_rfl) (by kernel_rfl) H.drew ?_
  refine q_val (.int .i64 i) (by kernel_rfl) (fun _ => by kernel_rfl) ?_
  refine q_val (.pointer (some ⟨p, 0, none⟩)) (by kernel_rfl) (fun _ => by kernel_rfl) ?_
  refine q_val (.pointer (some ⟨p, 0, none⟩)) (by kernel_rfl) (fun _ => by kernel_rfl) ?_
  refine q_val (.pointer (some ⟨p, 9, none⟩)) (by kernel_rfl) (fun _ => by kernel_rfl) ?_
  refine q_load1 0 p 9 #[.int .i64 r, .int .i64 s, .int .i64 b, .int .i64 o, .int .i64 c, .int .i64 y, .int .i64 z, .slice (some ⟨gl, 0, none⟩) sn cl, .slice (some ⟨gd, 0, none⟩) pg cd, .slice (some ⟨gs, 0, none⟩) ns cs, .int .i64 ((pu : Nat) : Int), .int .i64 ((ru : Nat) : Int)] 181 (.slice (some ⟨gs, 0, none⟩) ns cs) (by kernel_rfl) (by kernel_rfl) (by kernel_rfl) (fun _ => by kernel_rfl) ?_
  refine q_val (.int .i64 ((ns : Nat) : Int)) (by kernel_rfl) (fun _ => by kernel_rfl) ?_
  refine q_callB (.bool (decide (0 ≤ i) && decide (i < ((ns : Nat) : Int)))) (by kernel_rfl) (fun _ => by kernel_rfl) (fun _ => (below_any _ _ _)) ?_
  refine q_val (.bool (!(decide (0 ≤ i) && decide (i < ((ns : Nat) : Int))))) (by kernel_rfl) (fun _ => by kernel_rfl) ?_
  refine q_val (.bool (!(decide (0 ≤ i) && decide (i < ((ns : Nat) : Int))))) (by kernel_rfl) (fun _ => by kernel_rfl) ?_
  rw [q1]
  refine q_skip (by kernel_rfl) ?_
  refine q_skip (by kernel_rfl) ?_
  refine q_skip (by kernel_rfl) ?_
  refine q_skip (by kernel_rfl) ?_
  refine q_skip (by kernel_rfl) ?_
  refine q_skip (by kernel_rfl) ?_
  refine q_skip (by kernel_rfl) ?_
  refine q_skip (by kernel_rfl) ?_
  refine q_skip (by kernel_rfl) ?_
  refine q_skip (by kernel_rfl) ?_
  refine q_skip (by kernel_rfl) ?_
  refine q_skip (by kernel_rfl) ?_
  refine q_skip (by kernel_rfl) ?_
  refine q_skip (by kernel_rfl) ?_
  refine q_val (.bool true) (by kernel_rfl) (fun _ => by kernel_rfl) ?_
  refine q_val (.bool true) (by kernel_rfl) (fun _ => by kernel_rfl) ?_
  refine q_nil ?_
  clear H
  intro v1 H
  refine x_frame' { tmps := #[.pointer (some ⟨p, 0, none⟩), .int .i64 i, .int .i64 v, undef, undef, undef, .int .i64 0, .bool true, .int .i64 i, .pointer (some ⟨p, 0, none⟩), .pointer (some ⟨p, 0, none⟩), .pointer (some ⟨p, 9, none⟩), .slice (some ⟨gs, 0, none⟩) ns cs, .int .i64 ((ns : Nat) : Int), .bool false, .bool true, .bool true, undef, undef, undef, undef, undef, undef, undef, undef, undef, undef, undef, undef, undef, undef, .bool true, undef, undef, undef, undef, undef, undef, undef, undef, undef, undef, undef, undef, undef, undef, undef, undef], defers := [] } (by kernel_rfl) ?_
  refine x_then ?_
  refine x_t (by kernel_rfl) ?_
  refine x_seq ?_
  refine x_region ?_
  refine x_val (.int .i64 12) (by kernel_rfl) rfl (by kernel_rfl) ?_
  refine x_nil ?_
  refine x_then ?_
  refine x_retc ?_
  refine x_blk_ret ?_
  refine x_then_ret ?_
  refine x_ret (.int .i64 12) (by kernel_rfl) (by kernel_rfl) ?_
  exact ⟨rfl, H⟩

set_option maxRecDepth 100000 in
set_option maxHeartbeats 1000000 in
theorem small_any (r s b o c y z : Int) (hr : r ≤ 9223372036854775807) (hb : b ≤ 9223372036854775807) (ho : o ≤ 9223372036854775807) (hc : c ≤ 9223372036854775807) (w0 : World) :
    Calls Try.prog 48 #[.agg #[.int .i64 r, .int .i64 s, .int .i64 b, .int .i64 o, .int .i64 c, .int .i64 y, .int .i64 z]] w0 fun e w' => ∃ t : Bool, e = .returned (.bool t) ∧ Below w0.heap.size w0 w' := by
  refine x_enter Try.func48 rfl #[.agg #[.int .i64 r, .int .i64 s, .int .i64 b, .int .i64 o, .int .i64 c, .int .i64 y, .int .i64 z], undef, undef, undef, undef, undef, undef, undef, undef, undef, undef, undef, undef, undef, undef, undef, undef, undef, undef, undef, undef, undef, undef, undef, undef, undef] (by kernel_rfl) ?_
  have H := Hs.nil w0
  refine x_seq ?_
  refine x_region ?_
  refine x_box H #[.int .i64 r, .int .i64 s, .int .i64 b, .int .i64 o, .int .i64 c, .int .i64 y, .int .i64 z] 69 (by kernel_rfl) rfl (by kernel_rfl) ?_
  clear H
  intro v1 g1 H
  refine x_val (.bool false) (by kernel_rfl) rfl (by kernel_rfl) ?_
  refine x_nil ?_
  refine x_then ?_
  refine x_seq ?_
  refine x_region ?_
  refine x_val (.pointer (some ⟨g1, 0, none⟩)) (by kernel_rfl) rfl (by kernel_rfl) ?_
  refine x_loadn (t := 67) H 0 g1 0 #[.int .i64 r, .int .i64 s, .int .i64 b, .int .i64 o, .int .i64 c, .int .i64 y, .int .i64 z] 69 [.int .i64 r, .int .i64 s, .int .i64 b, .int .i64 o, .int .i64 c] (by kernel_rfl) (by kernel_rfl) (by kernel_rfl) rfl (by kernel_rfl) (by kernel_rfl) ?_
  refine x_box H #[.int .i64 0, .int .i64 0, .int .i64 0, .int .i64 0, .int .i64 0] 67 (by kernel_rfl) rfl (by kernel_rfl) ?_
  clear H
  intro v2 g2 H
  refine x_store (t := 67) (v := .agg #[.int .i64 r, .int .i64 s, .int .i64 b, .int .i64 o, .int .i64 c]) H 0 g2 0 #[.int .i64 0, .int .i64 0, .int .i64 0, .int .i64 0, .int .i64 0] #[.int .i64 r, .int .i64 s, .int .i64 b, .int .i64 o, .int .i64 c] 67 [.int .i64 r, .int .i64 s, .int .i64 b, .int .i64 o, .int .i64 c] [.blk g2 #[.int .i64 r, .int .i64 s, .int .i64 b, .int .i64 o, .int .i64 c] 67, .blk g1 #[.int .i64 r, .int .i64 s, .int .i64 b, .int .i64 o, .int .i64 c, .int .i64 y, .int .i64 z] 69] (by kernel_rfl) rfl (by kernel_rfl) (by kernel_rfl) (by kernel_rfl) (by kernel_rfl) (by kernel_rfl) (by kernel_rfl) (by kernel_rfl) (by kernel_rfl) ?_
  clear H
  intro v3 H
  refine x_nil ?_
  refine x_then ?_
  refine x_seq ?_
  refine x_region ?_
  refine x_loadn (t := 67) H 0 g2 0 #[.int .i64 r, .int .i64 s, .int .i64 b, .int .i64 o, .int .i64 c] 67 [.int .i64 r, .int .i64 s, .int .i64 b, .int .i64 o, .int .i64 c] (by kernel_rfl) (by kernel_rfl) (by kernel_rfl) rfl (by kernel_rfl) (by kernel_rfl) ?_
  refine x_callB (.bool (geomOk r s b o c)) H (by kernel_rfl) rfl (by kernel_rfl) (G7Right_any _ _ _ _ _ (by omega) (by omega) (by omega) (by omega) _) ?_
  clear H
  intro v4 H
  refine x_val (.bool (!(geomOk r s b o c))) (by kernel_rfl) rfl (by kernel_rfl) ?_
  refine x_val (.bool (!(geomOk r s b o c))) (by kernel_rfl) rfl (by kernel_rfl) ?_
  cases h1 : geomOk r s b o c
  · skip
    refine x_skip (by kernel_rfl) ?_
    refine x_skip (by kernel_rfl) ?_
    refine x_skip (by kernel_rfl) ?_
    refine x_skip (by kernel_rfl) ?_
    refine x_skip (by kernel_rfl) ?_
    refine x_skip (by kernel_rfl) ?_
    refine x_skip (by kernel_rfl) ?_
    refine x_skip (by kernel_rfl) ?_
    refine x_skip (by kernel_rfl) ?_
    refine x_skip (by kernel_rfl) ?_
    refine x_skip (by kernel_rfl) ?_
    refine x_skip (by kernel_rfl) ?_
    refine x_skip (by kernel_rfl) ?_
    refine x_skip (by kernel_rfl) ?_
    refine x_skip (by kernel_rfl) ?_
    refine x_val (.bool true) (by kernel_rfl) rfl (by kernel_rfl) ?_
    refine x_val (.bool true) (by kernel_rfl) rfl (by kernel_rfl) ?_
    refine x_nil ?_
    refine x_frame' { tmps := #[.agg #[.int .i64 r, .int .i64 s, .int .i64 b, .int .i64 o, .int .i64 c, .int .i64 y, .int .i64 z], .pointer (some ⟨g1, 0, none⟩), .bool true, .pointer (some ⟨g2, 0, none⟩), .pointer (some ⟨g1, 0, none⟩), .agg #[.int .i64 r, .int .i64 s, .int .i64 b, .int .i64 o, .int .i64 c], .agg #[.int .i64 r, .int .i64 s, .int .i64 b, .int .i64 o, .int .i64 c], .bool false, .bool true, .bool true, undef, undef, undef, undef, undef, undef, undef, undef, undef, undef, undef, undef, undef, undef, undef, .bool true], defers := [] } (by kernel_rfl) ?_
    refine x_then ?_
    refine x_retc ?_
    refine x_ret (.bool true) (by kernel_rfl) (by kernel_rfl) ?_
    exact ⟨_, rfl, H.below⟩
  · skip
    obtain ⟨⟨d1, d2⟩, ⟨d3, d4⟩, ⟨d5, d6⟩, ⟨d7, d8⟩, ⟨d9, d10⟩, _⟩ := geom_bd h1
    obtain ⟨x1, x2⟩ := mul_bd (p := 8) (q := 16) (show 0 ≤ r + s by omega) (by omega) (show 0 ≤ b by omega) (by omega)
    obtain ⟨x3, x4⟩ := mul_bd (p := 128) (q := 1024) (show 0 ≤ (r + s) * b by omega) (by omega) (show 0 ≤ o by omega) (by omega)
    obtain ⟨x5, x6⟩ := mul_bd (p := 131072) (q := 64) (show 0 ≤ (r + s) * b * o by omega) (by omega) (show 0 ≤ c by omega) (by omega)
    refine x_val (.pointer (some ⟨g2, 0, none⟩)) (by kernel_rfl) rfl (by kernel_rfl) ?_
    refine x_load1 H 0 g2 0 #[.int .i64 r, .int .i64 s, .int .i64 b, .int .i64 o, .int .i64 c] 67 (.int .i64 r) (by kernel_rfl) (by kernel_rfl) (by kernel_rfl) rfl (by kernel_rfl) ?_
    refine x_val (.pointer (some ⟨g2, 1, none⟩)) (by kernel_rfl) rfl (by kernel_rfl) ?_
    refine x_load1 H 0 g2 1 #[.int .i64 r, .int .i64 s, .int .i64 b, .int .i64 o, .int .i64 c] 67 (.int .i64 s) (by kernel_rfl) (by kernel_rfl) (by kernel_rfl) rfl (by kernel_rfl) ?_
    refine x_ar (r + s) ⟨by omega, by omega⟩ (by kernel_rfl) rfl (by kernel_rfl) ?_
    refine x_val (.pointer (some ⟨g2, 2, none⟩)) (by kernel_rfl) rfl (by kernel_rfl) ?_
    refine x_load1 H 0 g2 2 #[.int .i64 r, .int .i64 s, .int .i64 b, .int .i64 o, .int .i64 c] 67 (.int .i64 b) (by kernel_rfl) (by kernel_rfl) (by kernel_rfl) rfl (by kernel_rfl) ?_
    refine x_ar ((r + s) * b) ⟨by omega, by omega⟩ (by kernel_rfl) rfl (by kernel_rfl) ?_
    refine x_val (.pointer (some ⟨g2, 3, none⟩)) (by kernel_rfl) rfl (by kernel_rfl) ?_
    refine x_load1 H 0 g2 3 #[.int .i64 r, .int .i64 s, .int .i64 b, .int .i64 o, .int .i64 c] 67 (.int .i64 o) (by kernel_rfl) (by kernel_rfl) (by kernel_rfl) rfl (by kernel_rfl) ?_
    refine x_ar (((r + s) * b) * o) ⟨by omega, by omega⟩ (by kernel_rfl) rfl (by kernel_rfl) ?_
    refine x_val (.pointer (some ⟨g2, 4, none⟩)) (by kernel_rfl) rfl (by kernel_rfl) ?_
    refine x_load1 H 0 g2 4 #[.int .i64 r, .int .i64 s, .int .i64 b, .int .i64 o, .int .i64 c] 67 (.int .i64 c) (by kernel_rfl) (by kernel_rfl) (by kernel_rfl) rfl (by kernel_rfl) ?_
    refine x_ar ((((r + s) * b) * o) * c) ⟨by omega, by omega⟩ (by kernel_rfl) rfl (by kernel_rfl) ?_
    refine x_val (.bool (decide (((((r + s) * b) * o) * c) ≤ 600))) (by kernel_rfl) rfl (by kernel_rfl) ?_
    refine x_val (.bool (decide (((((r + s) * b) * o) * c) ≤ 600))) (by kernel_rfl) rfl (by kernel_rfl) ?_
    refine x_val (.bool (decide (((((r + s) * b) * o) * c) ≤ 600))) (by kernel_rfl) rfl (by kernel_rfl) ?_
    refine x_nil ?_
    refine x_frame' { tmps := #[.agg #[.int .i64 r, .int .i64 s, .int .i64 b, .int .i64 o, .int .i64 c, .int .i64 y, .int .i64 z], .pointer (some ⟨g1, 0, none⟩), .bool (decide (((((r + s) * b) * o) * c) ≤ 600)), .pointer (some ⟨g2, 0, none⟩), .pointer (some ⟨g1, 0, none⟩), .agg #[.int .i64 r, .int .i64 s, .int .i64 b, .int .i64 o, .int .i64 c], .agg #[.int .i64 r, .int .i64 s, .int .i64 b, .int .i64 o, .int .i64 c], .bool true, .bool false, .bool false, .pointer (some ⟨g2, 0, none⟩), .int .i64 r, .pointer (some ⟨g2, 1, none⟩), .int .i64 s, .int .i64 (r + s), .pointer (some ⟨g2, 2, none⟩), .int .i64 b, .int .i64 ((r + s) * b), .pointer (some ⟨g2, 3, none⟩), .int .i64 o, .int .i64 (((r + s) * b) * o), .pointer (some ⟨g2, 4, none⟩), .int .i64 c, .int .i64 ((((r + s) * b) * o) * c), .bool (decide (((((r + s) * b) * o) * c) ≤ 600)), .bool (decide (((((r + s) * b) * o) * c) ≤ 600))], defers := [] } (by kernel_rfl) ?_
    refine x_then ?_
    refine x_retc ?_
    refine x_ret (.bool (decide (((((r + s) * b) * o) * c) ≤ 600))) (by kernel_rfl) (by kernel_rfl) ?_
    exact ⟨_, rfl, H.below⟩

def idxP (y r b o : Int) (S : List Int) (h : Int) : Int := if S.getD (pgAt y r b o h / 16384).toNat 0 = -1 then pgAt y r b o h else pgAt y r b o h + (S.getD (pgAt y r b o h / 16384).toNat 0 - pgAt y r b o h / 16384) * 16384
def idxs (y r b o : Int) (S L : List Int) (C N : Nat) : List Int := (List.range N).map fun n => idxP y r b o S (L.getD (n / C) 0) * 64 + ((n % C : Nat) : Int)
theorem idxs_succ (y r b o : Int) (S L : List Int) (C n : Nat) : idxs y r b o S L C (n + 1) = idxs y r b o S L C n ++ [idxP y r b o S (L.getD (n / C) 0) * 64 + ((n % C : Nat) : Int)] := by simp [idxs, List.range_succ]
theorem idxs_len (y r b o : Int) (S L : List Int) (C N : Nat) : (idxs y r b o S L C N).length = N := by simp [idxs]
theorem idxs_get (y r b o : Int) (S L : List Int) (C N n : Nat) (h : n < N) : (idxs y r b o S L C N).getD n 0 = idxP y r b o S (L.getD (n / C) 0) * 64 + ((n % C : Nat) : Int) := by simp [idxs, List.getD, h]
theorem geom_of {r s b o c y z : Int} {pg sn ns : Nat} (hL : Lay r s b o c y z pg sn ns) : geomOk r s b o c = true := by
  have := hL.ok; unfold layoutOk interOk at this; simp only [Bool.and_eq_true] at this; exact this.1.1
theorem Index_at {r s b o c y z : Int} {pg sn ns : Nat} (hL : Lay r s b o c y z pg sn ns) {p gl cl gd cd gs cs : Nat} {L : List Int} {D : List Bool} {S : List Int} {pu ru : Nat} (hM : MapOk z s sn pg ns L D S pu ru) {C : Nat} (hC : c = (C : Int)) (hLv : ∀ k, k < sn → 0 ≤ L.getD k 0 ∧ L.getD k 0 < (pg : Int)) (hSv : ∀ q, q < ns → S.getD q 0 = -1 ∨ (0 ≤ S.getD q 0 ∧ S.getD q 0 < r + s)) (n : Nat) (hn : (n : Int) < (sn : Int) * c) (w0 : World) (hR : Ro w0 [.blk p #[.int .i64 r, .int .i64 s, .int .i64 b, .int .i64 o, .int .i64 c, .int .i64 y, .int .i64 z, .slice (some ⟨gl, 0, none⟩) sn cl, .slice (some ⟨gd, 0, none⟩) pg cd, .slice (some ⟨gs, 0, none⟩) ns cs, .int .i64 ((pu : Nat) : Int), .int .i64 ((ru : Nat) : Int)] 181, .row (.slice (some ⟨gl, 0, none⟩) sn cl) 3 1 sn (List.map (Value.int .i64) L), .row (.slice (some ⟨gd, 0, none⟩) pg cd) 4 1 pg (List.map Value.bool D), .row (.slice (some ⟨gs, 0, none⟩) ns cs) 3 1 ns (List.map (Value.int .i64) S)]) :
    Calls Try.prog 52 #[.pointer (some ⟨p, 0, none⟩), .int .i64 (n : Int)] w0 fun e w' => e = .returned (.tuple #[.int .i64 (idxP y r b o S (L.getD (n / C) 0) * 64 + ((n % C : Nat) : Int)), .int .i64 (L.getD (n / C) 0), .int .i64 (pgAt y r b o (L.getD (n / C) 0) / 16384), .int .i64 0]) ∧ Below w0.heap.size w0 w' := by
  have hg := geom_of hL
  have c1 := hL.c1
  have hns := hL.hns
  have hC0 : 0 < C := by omega
  rw [hC] at hn
  have hn' : n < sn * C := by exact_mod_cast hn
  have hk : n / C < sn := Nat.div_lt_of_lt_mul (by rw [Nat.mul_comm]; exact hn')
  have hj : ((n % C : Nat) : Int) < c := by have := Nat.mod_lt n hC0; omega
  have e : ((n / C : Nat) : Int) * c + ((n % C : Nat) : Int) = (n : Int) := by
    rw [hC]; have := Nat.div_add_mod n C; rw [Nat.mul_comm] at this; exact_mod_cast this
  obtain ⟨h0, h1⟩ := hLv _ hk
  obtain ⟨N, hN⟩ := Int.eq_ofNat_of_zero_le h0
  rw [hN] at h1 ⊢
  obtain ⟨p1, p2, p3⟩ := pgAt_bd y (N : Int) hg
  obtain ⟨Q, hQ⟩ := Int.eq_ofNat_of_zero_le (show 0 ≤ pgAt y r b o (N : Int) / 16384 by omega)
  have hQs : Q < ns := by omega
  unfold idxP
  rw [hQ, Int.toNat_natCast]
  by_cases hs : S.getD Q 0 = -1
  · rw [if_pos hs]
    have := Index_no hL hM (n / C) (n % C) hk hj N Q (by omega) hQ hQs hN hs w0 hR
    rwa [e] at this
  · rw [if_neg hs]
    have := Index_yes hL hM (n / C) (n % C) hk hj N Q (by omega) hQ hQs hN hs ((hSv Q hQs).resolve_left hs) w0 hR
    rwa [e] at this

set_option maxRecDepth 100000 in
set_option maxHeartbeats 1000000 in
theorem Layout_of {r s b o c y z : Int} {pg sn ns : Nat} (hL : Lay r s b o c y z pg sn ns) {p gl cl gd cd gs cs : Nat} {L : List Int} {D : List Bool} {S : List Int} {pu ru : Nat} (hM : MapOk z s sn pg ns L D S pu ru)  (w0 : World) (hR : Ro w0 [.blk p #[.int .i64 r, .int .i64 s, .int .i64 b, .int .i64 o, .int .i64 c, .int .i64 y, .int .i64 z, .slice (some ⟨gl, 0, none⟩) sn cl, .slice (some ⟨gd, 0, none⟩) pg cd, .slice (some ⟨gs, 0, none⟩) ns cs, .int .i64 ((pu : Nat) : Int), .int .i64 ((ru : Nat) : Int)] 181, .row (.slice (some ⟨gl, 0, none⟩) sn cl) 3 1 sn (List.map (Value.int .i64) L), .row (.slice (some ⟨gd, 0, none⟩) pg cd) 4 1 pg (List.map Value.bool D), .row (.slice (some ⟨gs, 0, none⟩) ns cs) 3 1 ns (List.map (Value.int .i64) S)]) :
    Calls Try.prog 71 #[.pointer (some ⟨p, 0, none⟩)] w0 fun e w' => e = .returned (.agg #[.int .i64 r, .int .i64 s, .int .i64 b, .int .i64 o, .int .i64 c, .int .i64 y, .int .i64 z]) ∧ Below w0.heap.size w0 w' := by
  refine x_enter Try.func71 rfl #[.pointer (some ⟨p, 0, none⟩), undef, undef, undef, undef, undef, undef] (by kernel_rfl) ?_
  have H := Hs.nil w0
  have R0 := hR
  obtain ⟨eL, eD, eS, hp, hr⟩ := id hM
  have hok := hL.ok
  obtain ⟨-, r1, r8, s0, s8, b1, b2, o1, o2, c1, c2, y0, y4, z0, z2, hpg, hsn, hns, sn1, pg2, ln0, ln2⟩ := id hL
  refine x_seq ?_
  refine x_region ?_
  refine x_box H #[.int .i64 0, .int .i64 0, .int .i64 0, .int .i64 0, .int .i64 0, .int .i64 0, .int .i64 0] 69 (by kernel_rfl) rfl (by kernel_rfl) ?_
  clear H
  intro v1 g1 H
  refine x_nil ?_
  refine x_then ?_
  refine x_seq ?_
  refine x_region ?_
  refine x_val (.pointer (some ⟨p, 0, none⟩)) (by kernel_rfl) rfl (by kernel_rfl) ?_
  refine x_val (.pointer (some ⟨p, 0, none⟩)) (by kernel_rfl) rfl (by kernel_rfl) ?_
  refine x_val (.pointer (some ⟨p, 0, none⟩)) (by kernel_rfl) rfl (by kernel_rfl) ?_
  refine x_loadcn (t := 69) p 0 [.int .i64 r, .int .i64 s, .int .i64 b, .int .i64 o, .int .i64 c, .int .i64 y, .int .i64 z] ((H.ro R0).cells 0 rfl 0 (by kernel_rfl)) (by kernel_rfl) rfl (by kernel_rfl) (by kernel_rfl) ?_
  refine x_store (t := 69) (v := .agg #[.int .i64 r, .int .i64 s, .int .i64 b, .int .i64 o, .int .i64 c, .int .i64 y, .int .i64 z]) H 0 g1 0 #[.int .i64 0, .int .i64 0, .int .i64 0, .int .i64 0, .int .i64 0, .int .i64 0, .int .i64 0] #[.int .i64 r, .int .i64 s, .int .i64 b, .int .i64 o, .int .i64 c, .int .i64 y, .int .i64 z] 69 [.int .i64 r, .int .i64 s, .int .i64 b, .int .i64 o, .int .i64 c, .int .i64 y, .int .i64 z] [.blk g1 #[.int .i64 r, .int .i64 s, .int .i64 b, .int .i64 o, .int .i64 c, .int .i64 y, .int .i64 z] 69] (by kernel_rfl) rfl (by kernel_rfl) (by kernel_rfl) (by kernel_rfl) (by kernel_rfl) (by kernel_rfl) (by kernel_rfl) (by kernel_rfl) (by kernel_rfl) ?_
  clear H
  intro v2 H
  refine x_nil ?_
  refine x_then ?_
  refine x_retc ?_
  refine x_ret (.agg #[.int .i64 r, .int .i64 s, .int .i64 b, .int .i64 o, .int .i64 c, .int .i64 y, .int .i64 z]) (by kernel_rfl) (x_rescell H 0 g1 0 #[.int .i64 r, .int .i64 s, .int .i64 b, .int .i64 o, .int .i64 c, .int .i64 y, .int .i64 z] 69 [.int .i64 r, .int .i64 s, .int .i64 b, .int .i64 o, .int .i64 c, .int .i64 y, .int .i64 z] (fun x => x) (by kernel_rfl) (by kernel_rfl) (by kernel_rfl)) ?_
  exact ⟨rfl, H.below⟩

set_option maxRecDepth 100000 in
set_option maxHeartbeats 1000000 in
theorem indices_w {r s b o c y z : Int} {pg sn ns : Nat} (hL : Lay r s b o c y z pg sn ns) {p gl cl gd cd gs cs : Nat} {L : List Int} {D : List Bool} {S : List Int} {pu ru : Nat} (hM : MapOk z s sn pg ns L D S pu ru) {C N : Nat} (hC : c = (C : Int)) (hN : (sn : Int) * c = (N : Int)) (hLv : ∀ k, k < sn → 0 ≤ L.getD k 0 ∧ L.getD k 0 < (pg : Int)) (hSv : ∀ q, q < ns → S.getD q 0 = -1 ∨ (0 ≤ S.getD q 0 ∧ S.getD q 0 < r + s)) (w0 : World) (hR : Ro w0 [.blk p #[.int .i64 r, .int .i64 s, .int .i64 b, .int .i64 o, .int .i64 c, .int .i64 y, .int .i64 z, .slice (some ⟨gl, 0, none⟩) sn cl, .slice (some ⟨gd, 0, none⟩) pg cd, .slice (some ⟨gs, 0, none⟩) ns cs, .int .i64 ((pu : Nat) : Int), .int .i64 ((ru : Nat) : Int)] 181, .row (.slice (some ⟨gl, 0, none⟩) sn cl) 3 1 sn (List.map (Value.int .i64) L), .row (.slice (some ⟨gd, 0, none⟩) pg cd) 4 1 pg (List.map Value.bool D), .row (.slice (some ⟨gs, 0, none⟩) ns cs) 3 1 ns (List.map (Value.int .i64) S)]) :
    Calls Try.prog 51 #[.pointer (some ⟨p, 0, none⟩)] w0 fun e w' => ∃ gx cx, e = .returned (.slice (some ⟨gx, 0, none⟩) N cx) ∧ Hs [] w0 w' [.row (.slice (some ⟨gx, 0, none⟩) N cx) 3 1 N (List.map (Value.int .i64) (idxs y r b o S L C N))] := by
  refine x_enter Try.func51 rfl #[.pointer (some ⟨p, 0, none⟩), undef, undef, undef, undef, undef, undef, undef, undef, undef, undef, undef, undef, undef, undef, undef, undef, undef, undef, undef, undef, undef, undef, undef, undef, undef, undef, undef, undef] (by kernel_rfl) ?_
  have H := Hs.nil w0
  have R0 := hR
  obtain ⟨eL, eD, eS, hp, hr⟩ := id hM
  have hok := hL.ok
  obtain ⟨-, r1, r8, s0, s8, b1, b2, o1, o2, c1, c2, y0, y4, z0, z2, hpg, hsn, hns, sn1, pg2, ln0, ln2⟩ := id hL
  have hLi : ∀ w, Calls Try.prog 57 #[.agg #[.int .i64 r, .int .i64 s, .int .i64 b, .int .i64 o, .int .i64 c, .int .i64 y, .int .i64 z]] w fun e w' => e = .returned (.int .i64 ((N : Nat) : Int)) ∧ Below w.heap.size w w' := fun w => by have := lines_of hL w; rwa [hN] at this
  have hN1 : 1 ≤ N := by have : (1 : Int) * 1 ≤ (sn : Int) * c := Int.mul_le_mul (by omega) c1 (by omega) (by omega); omega
  refine x_seq ?_
  refine x_region ?_
  refine x_val (.slice none 0 0) (by kernel_rfl) rfl (by kernel_rfl) ?_
  refine x_nil ?_
  refine x_then ?_
  refine x_seq ?_
  refine x_region ?_
  refine x_val (.slice none 0 0) (by kernel_rfl) rfl (by kernel_rfl) ?_
  refine x_nil ?_
  refine x_then ?_
  refine x_seq ?_
  refine x_seq ?_
  refine x_region ?_
  refine x_val (.pointer (some ⟨p, 0, none⟩)) (by kernel_rfl) rfl (by kernel_rfl) ?_
  refine x_callB (.agg #[.int .i64 r, .int .i64 s, .int .i64 b, .int .i64 o, .int .i64 c, .int .i64 y, .int .i64 z]) H (by kernel_rfl) rfl (by kernel_rfl) (Layout_of hL hM _ (H.ro R0)) ?_
  clear H
  intro v1 H
  refine x_callB (.int .i64 ((N : Nat) : Int)) H (by kernel_rfl) rfl (by kernel_rfl) (hLi _) ?_
  clear H
  intro v2 H
  refine x_val (.int .i64 0) (by kernel_rfl) rfl (by kernel_rfl) ?_
  refine x_nil ?_
  refine x_then ?_
  refine x_block ?_
  replace H := H.nilRow 3 1
  refine x_loop (G := Nat × Value) (fun gh a w' => match gh with | (n, vl) => ∃ u4 : Value, ∃ u5 : Value, ∃ u6 : Value, ∃ u7 : Value, ∃ u8 : Value, ∃ u13 : Value, ∃ u14 : Value, ∃ u15 : Value, ∃ u16 : Value, ∃ u17 : Value, ∃ u18 : Value, ∃ u19 : Value, ∃ u20 : Value, ∃ u21 : Value, ∃ u22 : Value, ∃ u23 : Value, ∃ u24 : Value, ∃ u25 : Value, ∃ u26 : Value, ∃ u27 : Value, a = { tmps := #[.pointer (some ⟨p, 0, none⟩), undef, .slice none 0 0, vl, u4, u5, u6, u7, u8, .pointer (some ⟨p, 0, none⟩), .agg #[.int .i64 r, .int .i64 s, .int .i64 b, .int .i64 o, .int .i64 c, .int .i64 y, .int .i64 z], .int .i64 ((N : Nat) : Int), .int .i64 ((n : Nat) : Int), u13, u14, u15, u16, u17, u18, u19, u20, u21, u22, u23, u24, u25, u26, u27, undef], defers := [] } ∧ Hs [] w0 w' [.row (vl) 3 1 n (List.map (Value.int .i64) (idxs y r b o S L C n))] ∧ (n ≤ N)) (fun gh => match gh with | (n, vl) => N - n) (0, .slice none 0 0) ⟨undef, undef, undef, undef, undef, undef, undef, undef, undef, undef, undef, undef, undef, undef, undef, undef, undef, undef, undef, undef, (by kernel_rfl), H, (Nat.zero_le _)⟩ ?_
  clear H
  rintro ⟨n, vl⟩ _ v3 ⟨u4, u5, u6, u7, u8, u13, u14, u15, u16, u17, u18, u19, u20, u21, u22, u23, u24, u25, u26, u27, rfl, H, r1⟩
  refine x_seq ?_
  refine x_region ?_
  refine x_val (.bool (decide (((n : Nat) : Int) < ((N : Nat) : Int)))) (by kernel_rfl) rfl (by kernel_rfl) ?_
  refine x_nil ?_
  refine x_then ?_
  refine x_seq ?_
  cases h1 : decide (((n : Nat) : Int) < ((N : Nat) : Int))
  · skip
    have h1p := of_decide_eq_false h1
    refine x_f (by kernel_rfl) ?_
    refine x_exit ?_
    refine x_then_exit ?_
    refine x_then_exit ?_
    refine x_blk_exit ?_
    refine x_then ?_
    refine x_seq ?_
    refine x_region ?_
    refine x_val (vl) (by kernel_rfl) rfl (by kernel_rfl) ?_
    refine x_val (vl) (by kernel_rfl) rfl (by kernel_rfl) ?_
    refine x_nil ?_
    refine x_then ?_
    refine x_retc ?_
    refine x_ret (vl) (by kernel_rfl) (by kernel_rfl) ?_
    obtain rfl : n = N := by omega
    obtain ⟨gx, cx, rfl, -⟩ := rowSome (H.ok 0 _ rfl) (by omega)
    exact ⟨gx, cx, rfl, H.pick [0] _ (by decide) rfl⟩
  · skip
    have h1p := of_decide_eq_true h1
    refine x_t (by kernel_rfl) ?_
    refine x_skipc ?_
    refine x_then ?_
    refine x_seq ?_
    refine x_block ?_
    refine x_seq ?_
    refine x_region ?_
    refine x_val (.int .i64 ((n : Nat) : Int)) (by kernel_rfl) rfl (by kernel_rfl) ?_
    refine x_val (.int .i64 ((n : Nat) : Int)) (by kernel_rfl) rfl (by kernel_rfl) ?_
    refine x_nil ?_
    refine x_then ?_
    refine x_seq ?_
    refine x_region ?_
    refine x_val (.pointer (some ⟨p, 0, none⟩)) (by kernel_rfl) rfl (by kernel_rfl) ?_
    refine x_val (.int .i64 ((n : Nat) : Int)) (by kernel_rfl) rfl (by kernel_rfl) ?_
    refine x_callB (.tuple #[.int .i64 (idxP y r b o S (L.getD (n / C) 0) * 64 + ((n % C : Nat) : Int)), .int .i64 (L.getD (n / C) 0), .int .i64 (pgAt y r b o (L.getD (n / C) 0) / 16384), .int .i64 0]) H (by kernel_rfl) rfl (by kernel_rfl) (Index_at hL hM hC hLv hSv n (by omega) _ (H.ro R0)) ?_
    clear H
    intro v4 H
    refine x_val (.tuple #[.int .i64 (idxP y r b o S (L.getD (n / C) 0) * 64 + ((n % C : Nat) : Int)), .int .i64 (L.getD (n / C) 0), .int .i64 (pgAt y r b o (L.getD (n / C) 0) / 16384), .int .i64 0]) (by kernel_rfl) rfl (by kernel_rfl) ?_
    refine x_val (.int .i64 (idxP y r b o S (L.getD (n / C) 0) * 64 + ((n % C : Nat) : Int))) (by kernel_rfl) rfl (by kernel_rfl) ?_
    refine x_val (.int .i64 (L.getD (n / C) 0)) (by kernel_rfl) rfl (by kernel_rfl) ?_
    refine x_val (.int .i64 (pgAt y r b o (L.getD (n / C) 0) / 16384)) (by kernel_rfl) rfl (by kernel_rfl) ?_
    refine x_val (.int .i64 0) (by kernel_rfl) rfl (by kernel_rfl) ?_
    refine x_val (.int .i64 (idxP y r b o S (L.getD (n / C) 0) * 64 + ((n % C : Nat) : Int))) (by kernel_rfl) rfl (by kernel_rfl) ?_
    refine x_val (.int .i64 (L.getD (n / C) 0)) (by kernel_rfl) rfl (by kernel_rfl) ?_
    refine x_val (.int .i64 (pgAt y r b o (L.getD (n / C) 0) / 16384)) (by kernel_rfl) rfl (by kernel_rfl) ?_
    refine x_val (.int .i64 0) (by kernel_rfl) rfl (by kernel_rfl) ?_
    refine x_nil ?_
    refine x_frame' { tmps := #[.pointer (some ⟨p, 0, none⟩), undef, .slice none 0 0, vl, .int .i64 ((n : Nat) : Int), .int .i64 (idxP y r b o S (L.getD (n / C) 0) * 64 + ((n % C : Nat) : Int)), .int .i64 (L.getD (n / C) 0), .int .i64 (pgAt y r b o (L.getD (n / C) 0) / 16384), .int .i64 0, .pointer (some ⟨p, 0, none⟩), .agg #[.int .i64 r, .int .i64 s, .int .i64 b, .int .i64 o, .int .i64 c, .int .i64 y, .int .i64 z], .int .i64 ((N : Nat) : Int), .int .i64 ((n : Nat) : Int), .bool true, .int .i64 ((n : Nat) : Int), .tuple #[.int .i64 (idxP y r b o S (L.getD (n / C) 0) * 64 + ((n % C : Nat) : Int)), .int .i64 (L.getD (n / C) 0), .int .i64 (pgAt y r b o (L.getD (n / C) 0) / 16384), .int .i64 0], .pointer (some ⟨p, 0, none⟩), .int .i64 ((n : Nat) : Int), .tuple #[.int .i64 (idxP y r b o S (L.getD (n / C) 0) * 64 + ((n % C : Nat) : Int)), .int .i64 (L.getD (n / C) 0), .int .i64 (pgAt y r b o (L.getD (n / C) 0) / 16384), .int .i64 0], .int .i64 (idxP y r b o S (L.getD (n / C) 0) * 64 + ((n % C : Nat) : Int)), .int .i64 (L.getD (n / C) 0), .int .i64 (pgAt y r b o (L.getD (n / C) 0) / 16384), .int .i64 0, u23, u24, u25, u26, u27, undef], defers := [] } (by kernel_rfl) ?_
    refine x_then ?_
    refine x_region ?_
    refine x_val (vl) (by kernel_rfl) rfl (by kernel_rfl) ?_
    refine x_val (.int .i64 (idxP y r b o S (L.getD (n / C) 0) * 64 + ((n % C : Nat) : Int))) (by kernel_rfl) rfl (by kernel_rfl) ?_
    refine x_box' H #[.int .i64 (idxP y r b o S (L.getD (n / C) 0) * 64 + ((n % C : Nat) : Int))] 3 1 (by kernel_rfl) rfl (by kernel_rfl) ?_
    clear H
    intro v5 g1 H
    refine x_append H 1 (vl) 106 3 1 8 n (.int .i64 0) (List.map (Value.int .i64) (idxs y r b o S L C n)) ⟨g1, 0, none⟩ 1 1 [.int .i64 (idxP y r b o S (L.getD (n / C) 0) * 64 + ((n % C : Nat) : Int))] rfl (by kernel_rfl) (by kernel_rfl) rfl (by decide) (by decide) rfl (fun j u hj => by rw [add_none]; exact cellOf (H.blk 0 rfl) (by simpa using hj)) (List.all_eq_true.1 (by kernel_rfl)) (by unfold maxLen; omega) (by omega) (by kernel_rfl) rfl (by kernel_rfl) ?_
    clear H
    intro v6 g2 c2 hc2 H
    rw [show (List.map (Value.int .i64) (idxs y r b o S L C n)) ++ [.int .i64 (idxP y r b o S (L.getD (n / C) 0) * 64 + ((n % C : Nat) : Int))] = (List.map (Value.int .i64) (idxs y r b o S L C (n + 1))) from (by rw [idxs_succ, List.map_append]; rfl)] at H
    replace H : Hs [] w0 v6 [.blk g1 #[.int .i64 (idxP y r b o S (L.getD (n / C) 0) * 64 + ((n % C : Nat) : Int))] 3, .row (.slice (some ⟨g2, 0, none⟩) (n + 1) c2) 3 1 (n + 1) (List.map (Value.int .i64) (idxs y r b o S L C (n + 1)))] := H
    replace H := H.pick [1] [.row (.slice (some ⟨g2, 0, none⟩) (n + 1) c2) 3 1 (n + 1) (List.map (Value.int .i64) (idxs y r b o S L C (n + 1)))] (by decide) (by kernel_rfl)
    refine x_val (.slice (some ⟨g2, 0, none⟩) (n + 1) c2) (by kernel_rfl) rfl (by kernel_rfl) ?_
    refine x_nil ?_
    refine x_blk ?_
    refine x_then ?_
    refine x_region ?_
    refine x_ar (((n : Nat) : Int) + 1) ⟨by omega, by omega⟩ (by kernel_rfl) rfl (by kernel_rfl) ?_
    refine x_val (.int .i64 (((n : Nat) : Int) + 1)) (by kernel_rfl) rfl (by kernel_rfl) ?_
    refine x_nil ?_
    refine x_then ?_
    exact ⟨(n + 1, .slice (some ⟨g2, 0, none⟩) (n + 1) c2), (by dsimp only; omega), (.int .i64 ((n : Nat) : Int)), (.int .i64 (idxP y r b o S (L.getD (n / C) 0) * 64 + ((n % C : Nat) : Int))), (.int .i64 (L.getD (n / C) 0)), (.int .i64 (pgAt y r b o (L.getD (n / C) 0) / 16384)), (.int .i64 0), (.bool true), (.int .i64 ((n : Nat) : Int)), (.tuple #[.int .i64 (idxP y r b o S (L.getD (n / C) 0) * 64 + ((n % C : Nat) : Int)), .int .i64 (L.getD (n / C) 0), .int .i64 (pgAt y r b o (L.getD (n / C) 0) / 16384), .int .i64 0]), (.pointer (some ⟨p, 0, none⟩)), (.int .i64 ((n : Nat) : Int)), (.tuple #[.int .i64 (idxP y r b o S (L.getD (n / C) 0) * 64 + ((n % C : Nat) : Int)), .int .i64 (L.getD (n / C) 0), .int .i64 (pgAt y r b o (L.getD (n / C) 0) / 16384), .int .i64 0]), (.int .i64 (idxP y r b o S (L.getD (n / C) 0) * 64 + ((n % C : Nat) : Int))), (.int .i64 (L.getD (n / C) 0)), (.int .i64 (pgAt y r b o (L.getD (n / C) 0) / 16384)), (.int .i64 0), vl, (.int .i64 (idxP y r b o S (L.getD (n / C) 0) * 64 + ((n % C : Nat) : Int))), (.slice (some ⟨g1, 0, none⟩) 1 1), (.slice (some ⟨g2, 0, none⟩) (n + 1) c2), (.int .i64 (((n : Nat) : Int) + 1)), (by kernel_rfl), H, (by omega)⟩

end Go.Proofs.Ytgpalgbdacoagaa
