/- The law RemapSpent, walked. -/
import Derived.Test.YtgpalgbdacoagaaRemapC
namespace Go.Proofs.Ytgpalgbdacoagaa
open Go Go.RowKit
set_option linter.unusedVariables false
set_option linter.unusedSimpArgs false

theorem mok0 {z s : Int} {sn pg ns pu ru : Nat} (hp : (pu : Int) ≤ z) (hr : (ru : Int) ≤ s) : MapOk z s sn pg ns (iota sn) (List.replicate pg false) (List.replicate ns (-1)) pu ru :=
  ⟨iota_len sn, List.length_replicate, List.length_replicate, hp, hr⟩
theorem layA : Lay 1 0 1 4 2 0 1 4 3 1 := ⟨by decide, by decide, by decide, by decide, by decide, by decide, by decide, by decide, by decide, by decide, by decide, by decide, by decide, by decide, by decide, by decide, by decide, by decide, by decide, by decide, by decide, by decide⟩
theorem mokA : MapOk 1 0 3 4 1 (iota 3) (List.replicate 4 false) (List.replicate 1 (-1)) 0 0 := mok0 (by decide) (by decide)
theorem mokB : MapOk 1 0 3 4 1 (iota 3) (List.replicate 4 false) (List.replicate 1 (-1)) (0 + 1) 0 := mok0 (by decide) (by decide)
theorem mokC : MapOk 1 0 3 4 1 (retL ((1 : Nat) : Int) ((3 : Nat) : Int) (iota 3)) ((List.replicate 4 false).set 1 true) (List.replicate 1 (-1)) (0 + 1) 0 := ⟨by decide, by decide, by decide, by decide, by decide⟩
theorem pgA : pgAt 0 1 1 4 ((3 : Nat) : Int) = 3 := by decide

set_option maxRecDepth 100000 in
set_option maxHeartbeats 1000000 in
theorem anchor19  (w0 : World) :
    Calls Try.prog 33 #[] w0 fun e w' => e = .returned (.bool true) ∧ Below w0.heap.size w0 w' := by
  refine x_enter Try.func33 rfl #[undef, undef, undef, undef, undef, undef, undef, undef, undef, undef, undef, undef, undef, undef, undef, undef, undef, undef, undef, undef, undef, undef, undef, undef, undef, undef, undef, undef, undef, undef, undef, undef, undef, undef, undef, undef, undef, undef, undef, undef, undef, undef, undef, undef, undef, undef, undef, undef, undef, undef, undef, undef, undef, undef, undef, undef, undef, undef, undef] (by kernel_rfl) ?_
  have H := Hs.nil w0
  refine x_seq ?_
  refine x_region ?_
  refine x_val (.bool false) (by kernel_rfl) rfl (by kernel_rfl) ?_
  refine x_nil ?_
  refine x_then ?_
  refine x_seq ?_
  refine x_region ?_
  refine x_val (.agg #[.int .i64 1, .int .i64 0, .int .i64 1, .int .i64 4, .int .i64 2]) (by kernel_rfl) rfl (by kernel_rfl) ?_
  refine x_val (.agg #[.int .i64 1, .int .i64 0, .int .i64 1, .int .i64 4, .int .i64 2, .int .i64 0, .int .i64 1]) (by kernel_rfl) rfl (by kernel_rfl) ?_
  refine x_call (by kernel_rfl) rfl (by kernel_rfl) (New_yes layA _) ?_
  rintro _ v1 ⟨p, gl, cl, gd, cd, gs, cs, rfl, hN⟩
  refine ⟨_, rfl, ?_⟩
  replace H := H.more hN
  clear hN
  replace H : Hs [] w0 _ [.blk p #[.int .i64 1, .int .i64 0, .int .i64 1, .int .i64 4, .int .i64 2, .int .i64 0, .int .i64 1, .slice (some ⟨gl, 0, none⟩) 3 cl, .slice (some ⟨gd, 0, none⟩) 4 cd, .slice (some ⟨gs, 0, none⟩) 1 cs, .int .i64 ((0 : Nat) : Int), .int .i64 ((0 : Nat) : Int)] 181, .row (.slice (some ⟨gl, 0, none⟩) 3 cl) 3 1 3 (List.map (Value.int .i64) (iota 3)), .row (.slice (some ⟨gd, 0, none⟩) 4 cd) 4 1 4 (List.map Value.bool (List.replicate 4 false)), .row (.slice (some ⟨gs, 0, none⟩) 1 cs) 3 1 1 (List.map (Value.int .i64) (List.replicate 1 (-1)))] := H
  refine x_val (.tuple #[.pointer (some ⟨p, 0, none⟩), .int .i64 0]) (by kernel_rfl) rfl (by kernel_rfl) ?_
  refine x_val (.pointer (some ⟨p, 0, none⟩)) (by kernel_rfl) rfl (by kernel_rfl) ?_
  refine x_val (.int .i64 0) (by kernel_rfl) rfl (by kernel_rfl) ?_
  refine x_val (.pointer (some ⟨p, 0, none⟩)) (by kernel_rfl) rfl (by kernel_rfl) ?_
  refine x_val (.int .i64 0) (by kernel_rfl) rfl (by kernel_rfl) ?_
  refine x_nil ?_
  refine x_then ?_
  refine x_seq ?_
  refine x_seq ?_
  refine x_region ?_
  refine x_val (.int .i64 0) (by kernel_rfl) rfl (by kernel_rfl) ?_
  refine x_val (.bool false) (by kernel_rfl) rfl (by kernel_rfl) ?_
  refine x_val (.bool false) (by kernel_rfl) rfl (by kernel_rfl) ?_
  refine x_val (.pointer (some ⟨p, 0, none⟩)) (by kernel_rfl) rfl (by kernel_rfl) ?_
  refine x_val (.bool false) (by kernel_rfl) rfl (by kernel_rfl) ?_
  refine x_val (.bool false) (by kernel_rfl) rfl (by kernel_rfl) ?_
  refine x_nil ?_
  refine x_frame' { tmps := #[.bool false, .pointer (some ⟨p, 0, none⟩), .int .i64 0, undef, undef, undef, undef, undef, undef, undef, .tuple #[.pointer (some ⟨p, 0, none⟩), .int .i64 0], .agg #[.int .i64 1, .int .i64 0, .int .i64 1, .int .i64 4, .int .i64 2], .agg #[.int .i64 1, .int .i64 0, .int .i64 1, .int .i64 4, .int .i64 2, .int .i64 0, .int .i64 1], .tuple #[.pointer (some ⟨p, 0, none⟩), .int .i64 0], .pointer (some ⟨p, 0, none⟩), .int .i64 0, .int .i64 0, .bool false, .bool false, .pointer (some ⟨p, 0, none⟩), .bool false, .bool false, undef, undef, undef, undef, undef, undef, undef, undef, undef, undef, undef, undef, undef, undef, undef, undef, undef, undef, undef, undef, undef, undef, undef, undef, undef, undef, undef, undef, undef, undef, undef, undef, undef, undef, undef, undef, undef], defers := [] } (by kernel_rfl) ?_
  refine x_then ?_
  refine x_f (by kernel_rfl) ?_
  refine x_skipc ?_
  refine x_then ?_
  refine x_seq ?_
  refine x_region ?_
  refine x_val (.pointer (some ⟨p, 0, none⟩)) (by kernel_rfl) rfl (by kernel_rfl) ?_
  refine x_callH (.tuple #[.int .i64 (((3 : Nat) : Int) + ((0 : Nat) : Int)), .int .i64 0]) [.blk p #[.int .i64 1, .int .i64 0, .int .i64 1, .int .i64 4, .int .i64 2, .int .i64 0, .int .i64 1, .slice (some ⟨gl, 0, none⟩) 3 cl, .slice (some ⟨gd, 0, none⟩) 4 cd, .slice (some ⟨gs, 0, none⟩) 1 cs, .int .i64 (((0 + 1) : Nat) : Int), .int .i64 ((0 : Nat) : Int)] 181, .row (.slice (some ⟨gl, 0, none⟩) 3 cl) 3 1 3 (List.map (Value.int .i64) (iota 3)), .row (.slice (some ⟨gd, 0, none⟩) 4 cd) 4 1 4 (List.map Value.bool (List.replicate 4 false)), .row (.slice (some ⟨gs, 0, none⟩) 1 cs) 3 1 1 (List.map (Value.int .i64) (List.replicate 1 (-1)))] (by kernel_rfl) rfl (by kernel_rfl) (Hs.use (A := [.blk p #[.int .i64 1, .int .i64 0, .int .i64 1, .int .i64 4, .int .i64 2, .int .i64 0, .int .i64 1, .slice (some ⟨gl, 0, none⟩) 3 cl, .slice (some ⟨gd, 0, none⟩) 4 cd, .slice (some ⟨gs, 0, none⟩) 1 cs, .int .i64 ((0 : Nat) : Int), .int .i64 ((0 : Nat) : Int)] 181, .row (.slice (some ⟨gl, 0, none⟩) 3 cl) 3 1 3 (List.map (Value.int .i64) (iota 3)), .row (.slice (some ⟨gd, 0, none⟩) 4 cd) 4 1 4 (List.map Value.bool (List.replicate 4 false)), .row (.slice (some ⟨gs, 0, none⟩) 1 cs) 3 1 1 (List.map (Value.int .i64) (List.replicate 1 (-1)))]) (R := []) (H.pick [0, 1, 2, 3] _ (by decide) (by kernel_rfl)) (fun h => TakePage_yes layA mokA (by decide) _ h)) ?_
  clear H
  intro v2 H
  refine x_val (.tuple #[.int .i64 (((3 : Nat) : Int) + ((0 : Nat) : Int)), .int .i64 0]) (by kernel_rfl) rfl (by kernel_rfl) ?_
  refine x_val (.int .i64 (((3 : Nat) : Int) + ((0 : Nat) : Int))) (by kernel_rfl) rfl (by kernel_rfl) ?_
  refine x_val (.int .i64 0) (by kernel_rfl) rfl (by kernel_rfl) ?_
  refine x_val (.int .i64 (((3 : Nat) : Int) + ((0 : Nat) : Int))) (by kernel_rfl) rfl (by kernel_rfl) ?_
  refine x_val (.int .i64 0) (by kernel_rfl) rfl (by kernel_rfl) ?_
  refine x_nil ?_
  refine x_then ?_
  refine x_seq ?_
  refine x_region ?_
  refine x_val (.pointer (some ⟨p, 0, none⟩)) (by kernel_rfl) rfl (by kernel_rfl) ?_
  refine x_val (.int .i64 (((3 : Nat) : Int) + ((0 : Nat) : Int))) (by kernel_rfl) rfl (by kernel_rfl) ?_
  refine x_callH (.int .i64 0) [.blk p #[.int .i64 1, .int .i64 0, .int .i64 1, .int .i64 4, .int .i64 2, .int .i64 0, .int .i64 1, .slice (some ⟨gl, 0, none⟩) 3 cl, .slice (some ⟨gd, 0, none⟩) 4 cd, .slice (some ⟨gs, 0, none⟩) 1 cs, .int .i64 (((0 + 1) : Nat) : Int), .int .i64 ((0 : Nat) : Int)] 181, .row (.slice (some ⟨gl, 0, none⟩) 3 cl) 3 1 3 (List.map (Value.int .i64) (retL ((1 : Nat) : Int) ((3 : Nat) : Int) (iota 3))), .row (.slice (some ⟨gd, 0, none⟩) 4 cd) 4 1 4 (List.map Value.bool ((List.replicate 4 false).set 1 true)), .row (.slice (some ⟨gs, 0, none⟩) 1 cs) 3 1 1 (List.map (Value.int .i64) (List.replicate 1 (-1)))] (by kernel_rfl) rfl (by kernel_rfl) (Hs.use (A := [.blk p #[.int .i64 1, .int .i64 0, .int .i64 1, .int .i64 4, .int .i64 2, .int .i64 0, .int .i64 1, .slice (some ⟨gl, 0, none⟩) 3 cl, .slice (some ⟨gd, 0, none⟩) 4 cd, .slice (some ⟨gs, 0, none⟩) 1 cs, .int .i64 (((0 + 1) : Nat) : Int), .int .i64 ((0 : Nat) : Int)] 181, .row (.slice (some ⟨gl, 0, none⟩) 3 cl) 3 1 3 (List.map (Value.int .i64) (iota 3)), .row (.slice (some ⟨gd, 0, none⟩) 4 cd) 4 1 4 (List.map Value.bool (List.replicate 4 false)), .row (.slice (some ⟨gs, 0, none⟩) 1 cs) 3 1 1 (List.map (Value.int .i64) (List.replicate 1 (-1)))]) (R := []) (H.pick [0, 1, 2, 3] _ (by decide) (by kernel_rfl)) (fun h => Retire_ok layA mokB 1 3 (by decide) (by decide) (by decide) (by decide) (by decide) (by decide) (by decide) _ h)) ?_
  clear H
  intro v3 H
  refine x_val (.int .i64 0) (by kernel_rfl) rfl (by kernel_rfl) ?_
  refine x_nil ?_
  refine x_then ?_
  refine x_seq ?_
  refine x_region ?_
  refine x_val (.pointer (some ⟨p, 0, none⟩)) (by kernel_rfl) rfl (by kernel_rfl) ?_
  have hX := Index_no layA mokC 1 1 (by decide) (by decide) 3 0 (by decide) (by rw [pgA]; decide) (by decide) (by decide) (by decide) _ (H.roOf [0, 1, 2, 3] [.blk p #[.int .i64 1, .int .i64 0, .int .i64 1, .int .i64 4, .int .i64 2, .int .i64 0, .int .i64 1, .slice (some ⟨gl, 0, none⟩) 3 cl, .slice (some ⟨gd, 0, none⟩) 4 cd, .slice (some ⟨gs, 0, none⟩) 1 cs, .int .i64 (((0 + 1) : Nat) : Int), .int .i64 ((0 : Nat) : Int)] 181, .row (.slice (some ⟨gl, 0, none⟩) 3 cl) 3 1 3 (List.map (Value.int .i64) (retL ((1 : Nat) : Int) ((3 : Nat) : Int) (iota 3))), .row (.slice (some ⟨gd, 0, none⟩) 4 cd) 4 1 4 (List.map Value.bool ((List.replicate 4 false).set 1 true)), .row (.slice (some ⟨gs, 0, none⟩) 1 cs) 3 1 1 (List.map (Value.int .i64) (List.replicate 1 (-1)))] (by kernel_rfl))
  rw [pgA] at hX
  refine x_callB (.tuple #[.int .i64 193, .int .i64 3, .int .i64 0, .int .i64 0]) H (by kernel_rfl) rfl (by kernel_rfl) hX ?_
  clear H
  intro v4 H
  refine x_val (.tuple #[.int .i64 193, .int .i64 3, .int .i64 0, .int .i64 0]) (by kernel_rfl) rfl (by kernel_rfl) ?_
  refine x_val (.int .i64 193) (by kernel_rfl) rfl (by kernel_rfl) ?_
  refine x_val (.int .i64 3) (by kernel_rfl) rfl (by kernel_rfl) ?_
  refine x_val (.int .i64 0) (by kernel_rfl) rfl (by kernel_rfl) ?_
  refine x_val (.int .i64 0) (by kernel_rfl) rfl (by kernel_rfl) ?_
  refine x_val (.int .i64 193) (by kernel_rfl) rfl (by kernel_rfl) ?_
  refine x_val (.int .i64 3) (by kernel_rfl) rfl (by kernel_rfl) ?_
  refine x_val (.int .i64 0) (by kernel_rfl) rfl (by kernel_rfl) ?_
  refine x_val (.int .i64 0) (by kernel_rfl) rfl (by kernel_rfl) ?_
  refine x_nil ?_
  refine x_frame' { tmps := #[.bool false, .pointer (some ⟨p, 0, none⟩), .int .i64 0, .int .i64 (((3 : Nat) : Int) + ((0 : Nat) : Int)), .int .i64 0, .int .i64 0, .int .i64 193, .int .i64 3, .int .i64 0, .int .i64 0, .tuple #[.pointer (some ⟨p, 0, none⟩), .int .i64 0], .agg #[.int .i64 1, .int .i64 0, .int .i64 1, .int .i64 4, .int .i64 2], .agg #[.int .i64 1, .int .i64 0, .int .i64 1, .int .i64 4, .int .i64 2, .int .i64 0, .int .i64 1], .tuple #[.pointer (some ⟨p, 0, none⟩), .int .i64 0], .pointer (some ⟨p, 0, none⟩), .int .i64 0, .int .i64 0, .bool false, .bool false, .pointer (some ⟨p, 0, none⟩), .bool false, .bool false, .tuple #[.int .i64 (((3 : Nat) : Int) + ((0 : Nat) : Int)), .int .i64 0], .pointer (some ⟨p, 0, none⟩), .tuple #[.int .i64 (((3 : Nat) : Int) + ((0 : Nat) : Int)), .int .i64 0], .int .i64 (((3 : Nat) : Int) + ((0 : Nat) : Int)), .int .i64 0, .pointer (some ⟨p, 0, none⟩), .int .i64 (((3 : Nat) : Int) + ((0 : Nat) : Int)), .int .i64 0, .tuple #[.int .i64 193, .int .i64 3, .int .i64 0, .int .i64 0], .pointer (some ⟨p, 0, none⟩), .tuple #[.int .i64 193, .int .i64 3, .int .i64 0, .int .i64 0], .int .i64 193, .int .i64 3, .int .i64 0, .int .i64 0, undef, undef, undef, undef, undef, undef, undef, undef, undef, undef, undef, undef, undef, undef, undef, undef, undef, undef, undef, undef, undef, undef], defers := [] } (by kernel_rfl) ?_
  refine x_then ?_
  refine x_seq ?_
  refine x_region ?_
  refine x_val (.int .i64 0) (by kernel_rfl) rfl (by kernel_rfl) ?_
  refine x_val (.bool true) (by kernel_rfl) rfl (by kernel_rfl) ?_
  refine x_val (.bool true) (by kernel_rfl) rfl (by kernel_rfl) ?_
  refine x_val (.int .i64 0) (by kernel_rfl) rfl (by kernel_rfl) ?_
  refine x_val (.bool true) (by kernel_rfl) rfl (by kernel_rfl) ?_
  refine x_val (.bool true) (by kernel_rfl) rfl (by kernel_rfl) ?_
  refine x_val (.bool true) (by kernel_rfl) rfl (by kernel_rfl) ?_
  refine x_val (.int .i64 0) (by kernel_rfl) rfl (by kernel_rfl) ?_
  refine x_val (.bool true) (by kernel_rfl) rfl (by kernel_rfl) ?_
  refine x_val (.bool true) (by kernel_rfl) rfl (by kernel_rfl) ?_
  refine x_val (.bool true) (by kernel_rfl) rfl (by kernel_rfl) ?_
  refine x_val (.int .i64 193) (by kernel_rfl) rfl (by kernel_rfl) ?_
  refine x_val (.bool true) (by kernel_rfl) rfl (by kernel_rfl) ?_
  refine x_val (.bool true) (by kernel_rfl) rfl (by kernel_rfl) ?_
  refine x_val (.bool true) (by kernel_rfl) rfl (by kernel_rfl) ?_
  refine x_val (.int .i64 3) (by kernel_rfl) rfl (by kernel_rfl) ?_
  refine x_val (.bool true) (by kernel_rfl) rfl (by kernel_rfl) ?_
  refine x_val (.bool true) (by kernel_rfl) rfl (by kernel_rfl) ?_
  refine x_val (.bool true) (by kernel_rfl) rfl (by kernel_rfl) ?_
  refine x_val (.int .i64 0) (by kernel_rfl) rfl (by kernel_rfl) ?_
  refine x_val (.bool true) (by kernel_rfl) rfl (by kernel_rfl) ?_
  refine x_val (.bool true) (by kernel_rfl) rfl (by kernel_rfl) ?_
  refine x_val (.bool true) (by kernel_rfl) rfl (by kernel_rfl) ?_
  refine x_nil ?_
  refine x_frame' { tmps := #[.bool true, .pointer (some ⟨p, 0, none⟩), .int .i64 0, .int .i64 (((3 : Nat) : Int) + ((0 : Nat) : Int)), .int .i64 0, .int .i64 0, .int .i64 193, .int .i64 3, .int .i64 0, .int .i64 0, .tuple #[.pointer (some ⟨p, 0, none⟩), .int .i64 0], .agg #[.int .i64 1, .int .i64 0, .int .i64 1, .int .i64 4, .int .i64 2], .agg #[.int .i64 1, .int .i64 0, .int .i64 1, .int .i64 4, .int .i64 2, .int .i64 0, .int .i64 1], .tuple #[.pointer (some ⟨p, 0, none⟩), .int .i64 0], .pointer (some ⟨p, 0, none⟩), .int .i64 0, .int .i64 0, .bool false, .bool false, .pointer (some ⟨p, 0, none⟩), .bool false, .bool false, .tuple #[.int .i64 (((3 : Nat) : Int) + ((0 : Nat) : Int)), .int .i64 0], .pointer (some ⟨p, 0, none⟩), .tuple #[.int .i64 (((3 : Nat) : Int) + ((0 : Nat) : Int)), .int .i64 0], .int .i64 (((3 : Nat) : Int) + ((0 : Nat) : Int)), .int .i64 0, .pointer (some ⟨p, 0, none⟩), .int .i64 (((3 : Nat) : Int) + ((0 : Nat) : Int)), .int .i64 0, .tuple #[.int .i64 193, .int .i64 3, .int .i64 0, .int .i64 0], .pointer (some ⟨p, 0, none⟩), .tuple #[.int .i64 193, .int .i64 3, .int .i64 0, .int .i64 0], .int .i64 193, .int .i64 3, .int .i64 0, .int .i64 0, .int .i64 0, .bool true, .bool true, .int .i64 0, .bool true, .bool true, .bool true, .int .i64 0, .bool true, .bool true, .bool true, .int .i64 193, .bool true, .bool true, .bool true, .int .i64 3, .bool true, .bool true, .bool true, .int .i64 0, .bool true, .bool true], defers := [] } (by kernel_rfl) ?_
  refine x_then ?_
  refine x_retc ?_
  refine x_ret (.bool true) (by kernel_rfl) (by kernel_rfl) ?_
  exact ⟨rfl, H.below⟩

set_option maxRecDepth 100000 in
set_option maxHeartbeats 1000000 in
theorem spent_no (r s b o c y z x : Int) (hbd : r ≤ 9223372036854775807 ∧ b ≤ 9223372036854775807 ∧ o ≤ 9223372036854775807 ∧ c ≤ 9223372036854775807) (hok : layoutOk r s b o c y z = false) (w0 : World) :
    Calls Try.prog 5 #[.agg #[.int .i64 r, .int .i64 s, .int .i64 b, .int .i64 o, .int .i64 c, .int .i64 y, .int .i64 z], .int .i64 x] w0 fun e w' => e = .returned (.bool true) ∧ Below w0.heap.size w0 w' := by
  refine x_enter Try.func5 rfl #[.agg #[.int .i64 r, .int .i64 s, .int .i64 b, .int .i64 o, .int .i64 c, .int .i64 y, .int .i64 z], .int .i64 x, undef, undef, undef, undef, undef, undef, undef, undef, undef, undef, undef, undef, undef, undef, undef, undef, undef, undef, undef, undef, undef, undef, undef, undef, undef, undef, undef, undef, undef, undef, undef, undef, undef, undef, undef, undef, undef, undef, undef, undef, undef, undef, undef, undef, undef, undef, undef, undef, undef, undef, undef, undef, undef, undef, undef, undef, undef, undef, undef, undef, undef, undef, undef, undef, undef, undef, undef, undef, undef, undef, undef, undef, undef, undef, undef, undef, undef, undef, undef, undef, undef, undef, undef, undef, undef, undef, undef, undef, undef, undef, undef, undef, undef, undef, undef, undef, undef, undef, undef, undef, undef, undef, undef, undef, undef, undef, undef, undef, undef, undef, undef, undef, undef, undef, undef, undef, undef, undef, undef, undef, undef, undef, undef, undef, undef, undef, undef, undef, undef, undef, undef, undef, undef, undef, undef, undef, undef, undef] (by kernel_rfl) ?_
  have H := Hs.nil w0
  refine x_seq ?_
  refine x_region ?_
  refine x_box H #[.int .i64 r, .int .i64 s, .int .i64 b, .int .i64 o, .int .i64 c, .int .i64 y, .int .i64 z] 69 (by kernel_rfl) rfl (by kernel_rfl) ?_
  clear H
  intro v1 g1 H
  refine x_val (.bool false) (by kernel_rfl) rfl (by kernel_rfl) ?_
  refine x_nil ?_
  refine x_then ?_
  refine x_seq ?_
  refine x_seq ?_
  refine x_region ?_
  refine x_callB (.bool true) H (by kernel_rfl) rfl (by kernel_rfl) (anchor19 _) ?_
  clear H
  intro v2 H
  refine x_val (.bool false) (by kernel_rfl) rfl (by kernel_rfl) ?_
  refine x_nil ?_
  refine x_then ?_
  refine x_f (by kernel_rfl) ?_
  refine x_skipc ?_
  refine x_then ?_
  refine x_seq ?_
  refine x_region ?_
  refine x_loadn (t := 69) H 0 g1 0 #[.int .i64 r, .int .i64 s, .int .i64 b, .int .i64 o, .int .i64 c, .int .i64 y, .int .i64 z] 69 [.int .i64 r, .int .i64 s, .int .i64 b, .int .i64 o, .int .i64 c, .int .i64 y, .int .i64 z] (by kernel_rfl) (by kernel_rfl) (by kernel_rfl) rfl (by kernel_rfl) (by kernel_rfl) ?_
  refine x_callB (.tuple #[.pointer none, .int .i64 22]) H (by kernel_rfl) rfl (by kernel_rfl) (New_no r s b o c y z hbd hok _) ?_
  clear H
  intro v3 H
  refine x_val (.tuple #[.pointer none, .int .i64 22]) (by kernel_rfl) rfl (by kernel_rfl) ?_
  refine x_val (.pointer none) (by kernel_rfl) rfl (by kernel_rfl) ?_
  refine x_val (.int .i64 22) (by kernel_rfl) rfl (by kernel_rfl) ?_
  refine x_val (.pointer none) (by kernel_rfl) rfl (by kernel_rfl) ?_
  refine x_val (.int .i64 22) (by kernel_rfl) rfl (by kernel_rfl) ?_
  refine x_nil ?_
  refine x_then ?_
  refine x_seq ?_
  refine x_seq ?_
  refine x_region ?_
  refine x_val (.int .i64 22) (by kernel_rfl) rfl (by kernel_rfl) ?_
  refine x_val (.bool true) (by kernel_rfl) rfl (by kernel_rfl) ?_
  refine x_val (.bool true) (by kernel_rfl) rfl (by kernel_rfl) ?_
  refine x_skip (by kernel_rfl) ?_
  refine x_skip (by kernel_rfl) ?_
  refine x_val (.bool true) (by kernel_rfl) rfl (by kernel_rfl) ?_
  refine x_val (.bool true) (by kernel_rfl) rfl (by kernel_rfl) ?_
  refine x_skip (by kernel_rfl) ?_
  refine x_skip (by kernel_rfl) ?_
  refine x_val (.bool true) (by kernel_rfl) rfl (by kernel_rfl) ?_
  refine x_val (.bool true) (by kernel_rfl) rfl (by kernel_rfl) ?_
  refine x_skip (by kernel_rfl) ?_
  refine x_skip (by kernel_rfl) ?_
  refine x_val (.bool true) (by kernel_rfl) rfl (by kernel_rfl) ?_
  refine x_nil ?_
  refine x_frame' { tmps := #[.agg #[.int .i64 r, .int .i64 s, .int .i64 b, .int .i64 o, .int .i64 c, .int .i64 y, .int .i64 z], .int .i64 x, .pointer (some ⟨g1, 0, none⟩), undef, .bool false, .pointer none, .int .i64 22, undef, undef, undef, undef, undef, undef, .bool true, .bool false, .tuple #[.pointer none, .int .i64 22], .agg #[.int .i64 r, .int .i64 s, .int .i64 b, .int .i64 o, .int .i64 c, .int .i64 y, .int .i64 z], .tuple #[.pointer none, .int .i64 22], .pointer none, .int .i64 22, .int .i64 22, .bool true, .bool true, undef, undef, .bool true, .bool true, undef, undef, .bool true, .bool true, undef, undef, .bool true, undef, undef, undef, undef, undef, undef, undef, undef, undef, undef, undef, undef, undef, undef, undef, undef, undef, undef, undef, undef, undef, undef, undef, undef, undef, undef, undef, undef, undef, undef, undef, undef, undef, undef, undef, undef, undef, undef, undef, undef, undef, undef, undef, undef, undef, undef, undef, undef, undef, undef, undef, undef, undef, undef, undef, undef, undef, undef, undef, undef, undef, undef, undef, undef, undef, undef, undef, undef, undef, undef, undef, undef, undef, undef, undef, undef, undef, undef, undef, undef, undef, undef, undef, undef, undef, undef, undef, undef, undef, undef, undef, undef, undef, undef, undef, undef, undef, undef, undef, undef, undef, undef, undef, undef, undef, undef], defers := [] } (by kernel_rfl) ?_
  refine x_then ?_
  refine x_t (by kernel_rfl) ?_
  refine x_seq ?_
  refine x_region ?_
  refine x_val (.pointer none) (by kernel_rfl) rfl (by kernel_rfl) ?_
  refine x_val (.bool true) (by kernel_rfl) rfl (by kernel_rfl) ?_
  refine x_val (.bool true) (by kernel_rfl) rfl (by kernel_rfl) ?_
  refine x_skip (by kernel_rfl) ?_
  refine x_skip (by kernel_rfl) ?_
  refine x_val (.bool true) (by kernel_rfl) rfl (by kernel_rfl) ?_
  refine x_val (.bool true) (by kernel_rfl) rfl (by kernel_rfl) ?_
  refine x_skip (by kernel_rfl) ?_
  refine x_skip (by kernel_rfl) ?_
  refine x_val (.bool true) (by kernel_rfl) rfl (by kernel_rfl) ?_
  refine x_val (.bool true) (by kernel_rfl) rfl (by kernel_rfl) ?_
  refine x_nil ?_
  refine x_then ?_
  refine x_retc ?_
  refine x_then_ret ?_
  refine x_ret (.bool true) (by kernel_rfl) (by kernel_rfl) ?_
  exact ⟨rfl, H.below⟩

set_option maxRecDepth 100000 in
set_option maxHeartbeats 1000000 in
theorem spent_yes {r s b o c y z : Int} {pg sn ns : Nat} (hL : Lay r s b o c y z pg sn ns) (x : Int) (w0 : World) :
    Calls Try.prog 5 #[.agg #[.int .i64 r, .int .i64 s, .int .i64 b, .int .i64 o, .int .i64 c, .int .i64 y, .int .i64 z], .int .i64 x] w0 fun e w' => e = .returned (.bool true) ∧ Below w0.heap.size w0 w' := by
  refine x_enter Try.func5 rfl #[.agg #[.int .i64 r, .int .i64 s, .int .i64 b, .int .i64 o, .int .i64 c, .int .i64 y, .int .i64 z], .int .i64 x, undef, undef, undef, undef, undef, undef, undef, undef, undef, undef, undef, undef, undef, undef, undef, undef, undef, undef, undef, undef, undef, undef, undef, undef, undef, undef, undef, undef, undef, undef, undef, undef, undef, undef, undef, undef, undef, undef, undef, undef, undef, undef, undef, undef, undef, undef, undef, undef, undef, undef, undef, undef, undef, undef, undef, undef, undef, undef, undef, undef, undef, undef, undef, undef, undef, undef, undef, undef, undef, undef, undef, undef, undef, undef, undef, undef, undef, undef, undef, undef, undef, undef, undef, undef, undef, undef, undef, undef, undef, undef, undef, undef, undef, undef, undef, undef, undef, undef, undef, undef, undef, undef, undef, undef, undef, undef, undef, undef, undef, undef, undef, undef, undef, undef, undef, undef, undef, undef, undef, undef, undef, undef, undef, undef, undef, undef, undef, undef, undef, undef, undef, undef, undef, undef, undef, undef, undef, undef] (by kernel_rfl) ?_
  have H := Hs.nil w0
  have hok := hL.ok
  obtain ⟨-, r1, r8, s0, s8, b1, b2, o1, o2, c1, c2, y0, y4, z0, z2, hpg, hsn, hns, sn1, pg2, ln0, ln2⟩ := id hL
  refine x_seq ?_
  refine x_region ?_
  refine x_box H #[.int .i64 r, .int .i64 s, .int .i64 b, .int .i64 o, .int .i64 c, .int .i64 y, .int .i64 z] 69 (by kernel_rfl) rfl (by kernel_rfl) ?_
  clear H
  intro v1 g1 H
  refine x_val (.bool false) (by kernel_rfl) rfl (by kernel_rfl) ?_
  refine x_nil ?_
  refine x_then ?_
  refine x_seq ?_
  refine x_seq ?_
  refine x_region ?_
  refine x_callB (.bool true) H (by kernel_rfl) rfl (by kernel_rfl) (anchor19 _) ?_
  clear H
  intro v2 H
  refine x_val (.bool false) (by kernel_rfl) rfl (by kernel_rfl) ?_
  refine x_nil ?_
  refine x_then ?_
  refine x_f (by kernel_rfl) ?_
  refine x_skipc ?_
  refine x_then ?_
  refine x_seq ?_
  refine x_region ?_
  refine x_loadn (t := 69) H 0 g1 0 #[.int .i64 r, .int .i64 s, .int .i64 b, .int .i64 o, .int .i64 c, .int .i64 y, .int .i64 z] 69 [.int .i64 r, .int .i64 s, .int .i64 b, .int .i64 o, .int .i64 c, .int .i64 y, .int .i64 z] (by kernel_rfl) (by kernel_rfl) (by kernel_rfl) rfl (by kernel_rfl) (by kernel_rfl) ?_
  refine x_call (by kernel_rfl) rfl (by kernel_rfl) (New_yes hL _) ?_
  rintro _ v3 ⟨p, gl, cl, gd, cd, gs, cs, rfl, hN⟩
  refine ⟨_, rfl, ?_⟩
  replace H := H.more hN
  clear hN
  replace H : Hs [] w0 _ [.blk p #[.int .i64 r, .int .i64 s, .int .i64 b, .int .i64 o, .int .i64 c, .int .i64 y, .int .i64 z, .slice (some ⟨gl, 0, none⟩) sn cl, .slice (some ⟨gd, 0, none⟩) pg cd, .slice (some ⟨gs, 0, none⟩) ns cs, .int .i64 ((0 : Nat) : Int), .int .i64 ((0 : Nat) : Int)] 181, .row (.slice (some ⟨gl, 0, none⟩) sn cl) 3 1 sn (List.map (Value.int .i64) (iota sn)), .row (.slice (some ⟨gd, 0, none⟩) pg cd) 4 1 pg (List.map Value.bool (List.replicate pg false)), .row (.slice (some ⟨gs, 0, none⟩) ns cs) 3 1 ns (List.map (Value.int .i64) (List.replicate ns (-1))), .blk g1 #[.int .i64 r, .int .i64 s, .int .i64 b, .int .i64 o, .int .i64 c, .int .i64 y, .int .i64 z] 69] := H
  refine x_val (.tuple #[.pointer (some ⟨p, 0, none⟩), .int .i64 0]) (by kernel_rfl) rfl (by kernel_rfl) ?_
  refine x_val (.pointer (some ⟨p, 0, none⟩)) (by kernel_rfl) rfl (by kernel_rfl) ?_
  refine x_val (.int .i64 0) (by kernel_rfl) rfl (by kernel_rfl) ?_
  refine x_val (.pointer (some ⟨p, 0, none⟩)) (by kernel_rfl) rfl (by kernel_rfl) ?_
  refine x_val (.int .i64 0) (by kernel_rfl) rfl (by kernel_rfl) ?_
  refine x_nil ?_
  refine x_then ?_
  refine x_seq ?_
  refine x_seq ?_
  refine x_region ?_
  refine x_val (.int .i64 0) (by kernel_rfl) rfl (by kernel_rfl) ?_
  refine x_val (.bool false) (by kernel_rfl) rfl (by kernel_rfl) ?_
  refine x_val (.bool false) (by kernel_rfl) rfl (by kernel_rfl) ?_
  refine x_val (.pointer (some ⟨p, 0, none⟩)) (by kernel_rfl) rfl (by kernel_rfl) ?_
  refine x_val (.bool false) (by kernel_rfl) rfl (by kernel_rfl) ?_
  refine x_val (.bool false) (by kernel_rfl) rfl (by kernel_rfl) ?_
  refine x_val (.bool false) (by kernel_rfl) rfl (by kernel_rfl) ?_
  refine x_val (.int .i64 x) (by kernel_rfl) rfl (by kernel_rfl) ?_
  refine x_val (.bool (decide (x < 0))) (by kernel_rfl) rfl (by kernel_rfl) ?_
  refine x_val (.bool (decide (x < 0))) (by kernel_rfl) rfl (by kernel_rfl) ?_
  refine x_val (.bool (decide (x < 0))) (by kernel_rfl) rfl (by kernel_rfl) ?_
  cases h1 : decide (x < 0)
  · skip
    have h1p := of_decide_eq_false h1
    refine x_val (.int .i64 x) (by kernel_rfl) rfl (by kernel_rfl) ?_
    refine x_val (.bool (decide (100 < x))) (by kernel_rfl) rfl (by kernel_rfl) ?_
    refine x_val (.bool (decide (100 < x))) (by kernel_rfl) rfl (by kernel_rfl) ?_
    refine x_nil ?_
    refine x_frame' { tmps := #[.agg #[.int .i64 r, .int .i64 s, .int .i64 b, .int .i64 o, .int .i64 c, .int .i64 y, .int .i64 z], .int .i64 x, .pointer (some ⟨g1, 0, none⟩), undef, .bool false, .pointer (some ⟨p, 0, none⟩), .int .i64 0, undef, undef, undef, undef, undef, undef, .bool true, .bool false, .tuple #[.pointer (some ⟨p, 0, none⟩), .int .i64 0], .agg #[.int .i64 r, .int .i64 s, .int .i64 b, .int .i64 o, .int .i64 c, .int .i64 y, .int .i64 z], .tuple #[.pointer (some ⟨p, 0, none⟩), .int .i64 0], .pointer (some ⟨p, 0, none⟩), .int .i64 0, .int .i64 0, .bool false, .bool false, .pointer (some ⟨p, 0, none⟩), .bool false, .bool false, .bool false, .int .i64 x, .bool false, .bool false, .bool false, .int .i64 x, .bool (decide (100 < x)), .bool (decide (100 < x)), undef, undef, undef, undef, undef, undef, undef, undef, undef, undef, undef, undef, undef, undef, undef, undef, undef, undef, undef, undef, undef, undef, undef, undef, undef, undef, undef, undef, undef, undef, undef, undef, undef, undef, undef, undef, undef, undef, undef, undef, undef, undef, undef, undef, undef, undef, undef, undef, undef, undef, undef, undef, undef, undef, undef, undef, undef, undef, undef, undef, undef, undef, undef, undef, undef, undef, undef, undef, undef, undef, undef, undef, undef, undef, undef, undef, undef, undef, undef, undef, undef, undef, undef, undef, undef, undef, undef, undef, undef, undef, undef, undef, undef, undef, undef, undef, undef, undef, undef, undef, undef, undef, undef, undef, undef, undef], defers := [] } (by kernel_rfl) ?_
    refine x_then ?_
    cases h2 : decide (100 < x)
    · skip
      have h2p := of_decide_eq_false h2
      refine x_f (by kernel_rfl) ?_
      refine x_skipc ?_
      refine x_then ?_
      refine x_seq ?_
      refine x_seq ?_
      refine x_region ?_
      refine x_val (.pointer (some ⟨g1, 6, none⟩)) (by kernel_rfl) rfl (by kernel_rfl) ?_
      refine x_load1 H 4 g1 6 #[.int .i64 r, .int .i64 s, .int .i64 b, .int .i64 o, .int .i64 c, .int .i64 y, .int .i64 z] 69 (.int .i64 z) (by kernel_rfl) (by kernel_rfl) (by kernel_rfl) rfl (by kernel_rfl) ?_
      refine x_val (.int .i64 x) (by kernel_rfl) rfl (by kernel_rfl) ?_
      refine x_ar (z + x) ⟨by omega, by omega⟩ (by kernel_rfl) rfl (by kernel_rfl) ?_
      refine x_val (.int .i64 0) (by kernel_rfl) rfl (by kernel_rfl) ?_
      refine x_nil ?_
      refine x_then ?_
      refine x_block ?_
      refine x_loop (G := Nat × Nat) (fun gh a w' => match gh with | (k, pu) => ∃ u4 : Value, ∃ u7 : Value, ∃ u8 : Value, ∃ u9 : Value, ∃ u49 : Value, ∃ u50 : Value, ∃ u51 : Value, ∃ u52 : Value, ∃ u53 : Value, ∃ u54 : Value, ∃ u55 : Value, ∃ u56 : Value, ∃ u57 : Value, ∃ u58 : Value, ∃ u59 : Value, ∃ u60 : Value, ∃ u61 : Value, ∃ u62 : Value, ∃ u63 : Value, ∃ u64 : Value, ∃ u65 : Value, ∃ u66 : Value, ∃ u67 : Value, ∃ u68 : Value, ∃ u69 : Value, ∃ u70 : Value, ∃ u71 : Value, ∃ u72 : Value, ∃ u73 : Value, ∃ u74 : Value, ∃ u75 : Value, ∃ u76 : Value, ∃ u77 : Value, ∃ u78 : Value, ∃ u79 : Value, ∃ u80 : Value, ∃ u81 : Value, ∃ u82 : Value, ∃ u83 : Value, ∃ u84 : Value, ∃ u85 : Value, ∃ u86 : Value, ∃ u87 : Value, ∃ u88 : Value, ∃ u89 : Value, ∃ u90 : Value, ∃ u91 : Value, ∃ u92 : Value, a = { tmps := #[.agg #[.int .i64 r, .int .i64 s, .int .i64 b, .int .i64 o, .int .i64 c, .int .i64 y, .int .i64 z], .int .i64 x, .pointer (some ⟨g1, 0, none⟩), undef, u4, .pointer (some ⟨p, 0, none⟩), .int .i64 0, u7, u8, u9, undef, undef, undef, .bool true, .bool false, .tuple #[.pointer (some ⟨p, 0, none⟩), .int .i64 0], .agg #[.int .i64 r, .int .i64 s, .int .i64 b, .int .i64 o, .int .i64 c, .int .i64 y, .int .i64 z], .tuple #[.pointer (some ⟨p, 0, none⟩), .int .i64 0], .pointer (some ⟨p, 0, none⟩), .int .i64 0, .int .i64 0, .bool false, .bool false, .pointer (some ⟨p, 0, none⟩), .bool false, .bool false, .bool false, .int .i64 x, .bool false, .bool false, .bool false, .int .i64 x, .bool false, .bool false, undef, undef, undef, undef, undef, undef, undef, undef, undef, undef, .pointer (some ⟨g1, 6, none⟩), .int .i64 z, .int .i64 x, .int .i64 (z + x), .int .i64 ((k : Nat) : Int), u49, u50, u51, u52, u53, u54, u55, u56, u57, u58, u59, u60, u61, u62, u63, u64, u65, u66, u67, u68, u69, u70, u71, u72, u73, u74, u75, u76, u77, u78, u79, u80, u81, u82, u83, u84, u85, u86, u87, u88, u89, u90, u91, u92, undef, undef, undef, undef, undef, undef, undef, undef, undef, undef, undef, undef, undef, undef, undef, undef, undef, undef, undef, undef, undef, undef, undef, undef, undef, undef, undef, undef, undef, undef, undef, undef, undef, undef, undef, undef, undef, undef, undef, undef, undef, undef, undef, undef, undef, undef, undef], defers := [] } ∧ Hs [] w0 w' [.blk p #[.int .i64 r, .int .i64 s, .int .i64 b, .int .i64 o, .int .i64 c, .int .i64 y, .int .i64 z, .slice (some ⟨gl, 0, none⟩) sn cl, .slice (some ⟨gd, 0, none⟩) pg cd, .slice (some ⟨gs, 0, none⟩) ns cs, .int .i64 ((pu : Nat) : Int), .int .i64 ((0 : Nat) : Int)] 181, .row (.slice (some ⟨gl, 0, none⟩) sn cl) 3 1 sn (List.map (Value.int .i64) (iota sn)), .row (.slice (some ⟨gd, 0, none⟩) pg cd) 4 1 pg (List.map Value.bool (List.replicate pg false)), .row (.slice (some ⟨gs, 0, none⟩) ns cs) 3 1 ns (List.map (Value.int .i64) (List.replicate ns (-1))), .blk g1 #[.int .i64 r, .int .i64 s, .int .i64 b, .int .i64 o, .int .i64 c, .int .i64 y, .int .i64 z] 69] ∧ (((pu : Nat) : Int) = min ((k : Nat) : Int) z) ∧ (((k : Nat) : Int) ≤ z + x)) (fun gh => match gh with | (k, pu) => (z + x).toNat - k) (0, 0) ⟨.bool false, undef, undef, undef, undef, undef, undef, undef, undef, undef, undef, undef, undef, undef, undef, undef, undef, undef, undef, undef, undef, undef, undef, undef, undef, undef, undef, undef, undef, undef, undef, undef, undef, undef, undef, undef, undef, undef, undef, undef, undef, undef, undef, undef, undef, undef, undef, undef, (by kernel_rfl), H, (by omega), (by omega)⟩ ?_
      clear H
      rintro ⟨k, pu⟩ _ v4 ⟨u4, u7, u8, u9, u49, u50, u51, u52, u53, u54, u55, u56, u57, u58, u59, u60, u61, u62, u63, u64, u65, u66, u67, u68, u69, u70, u71, u72, u73, u74, u75, u76, u77, u78, u79, u80, u81, u82, u83, u84, u85, u86, u87, u88, u89, u90, u91, u92, rfl, H, r1, r2⟩
      refine x_seq ?_
      refine x_region ?_
      refine x_val (.bool (decide (((k : Nat) : Int) < (z + x)))) (by kernel_rfl) rfl (by kernel_rfl) ?_
      refine x_nil ?_
      refine x_then ?_
      refine x_seq ?_
      cases h3 : decide (((k : Nat) : Int) < (z + x))
      · skip
        have h3p := of_decide_eq_false h3
        refine x_f (by kernel_rfl) ?_
        refine x_exit ?_
        refine x_then_exit ?_
        refine x_then_exit ?_
        refine x_blk_exit ?_
        refine x_then ?_
        refine x_seq ?_
        refine x_seq ?_
        refine x_region ?_
        refine x_val (.pointer (some ⟨g1, 0, none⟩)) (by kernel_rfl) rfl (by kernel_rfl) ?_
        refine x_val (.pointer (some ⟨g1, 1, none⟩)) (by kernel_rfl) rfl (by kernel_rfl) ?_
        refine x_load1 H 4 g1 1 #[.int .i64 r, .int .i64 s, .int .i64 b, .int .i64 o, .int .i64 c, .int .i64 y, .int .i64 z] 69 (.int .i64 s) (by kernel_rfl) (by kernel_rfl) (by kernel_rfl) rfl (by kernel_rfl) ?_
        refine x_val (.int .i64 x) (by kernel_rfl) rfl (by kernel_rfl) ?_
        refine x_ar (s + x) ⟨by omega, by omega⟩ (by kernel_rfl) rfl (by kernel_rfl) ?_
        refine x_val (.int .i64 0) (by kernel_rfl) rfl (by kernel_rfl) ?_
        refine x_nil ?_
        refine x_then ?_
        refine x_block ?_
        refine x_loop (G := Nat × Nat) (fun gh a w' => match gh with | (j, ru) => ∃ u4 : Value, ∃ u10 : Value, ∃ u11 : Value, ∃ u12 : Value, ∃ u99 : Value, ∃ u100 : Value, ∃ u101 : Value, ∃ u102 : Value, ∃ u103 : Value, ∃ u104 : Value, ∃ u105 : Value, ∃ u106 : Value, ∃ u107 : Value, ∃ u108 : Value, ∃ u109 : Value, ∃ u110 : Value, ∃ u111 : Value, ∃ u112 : Value, ∃ u113 : Value, ∃ u114 : Value, ∃ u115 : Value, ∃ u116 : Value, ∃ u117 : Value, ∃ u118 : Value, ∃ u119 : Value, ∃ u120 : Value, ∃ u121 : Value, ∃ u122 : Value, ∃ u123 : Value, ∃ u124 : Value, ∃ u125 : Value, ∃ u126 : Value, ∃ u127 : Value, ∃ u128 : Value, ∃ u129 : Value, ∃ u130 : Value, ∃ u131 : Value, ∃ u132 : Value, ∃ u133 : Value, ∃ u134 : Value, ∃ u135 : Value, ∃ u136 : Value, ∃ u137 : Value, ∃ u138 : Value, ∃ u139 : Value, a = { tmps := #[.agg #[.int .i64 r, .int .i64 s, .int .i64 b, .int .i64 o, .int .i64 c, .int .i64 y, .int .i64 z], .int .i64 x, .pointer (some ⟨g1, 0, none⟩), undef, u4, .pointer (some ⟨p, 0, none⟩), .int .i64 0, u7, u8, u9, u10, u11, u12, .bool true, .bool false, .tuple #[.pointer (some ⟨p, 0, none⟩), .int .i64 0], .agg #[.int .i64 r, .int .i64 s, .int .i64 b, .int .i64 o, .int .i64 c, .int .i64 y, .int .i64 z], .tuple #[.pointer (some ⟨p, 0, none⟩), .int .i64 0], .pointer (some ⟨p, 0, none⟩), .int .i64 0, .int .i64 0, .bool false, .bool false, .pointer (some ⟨p, 0, none⟩), .bool false, .bool false, .bool false, .int .i64 x, .bool false, .bool false, .bool false, .int .i64 x, .bool false, .bool false, undef, undef, undef, undef, undef, undef, undef, undef, undef, undef, .pointer (some ⟨g1, 6, none⟩), .int .i64 z, .int .i64 x, .int .i64 (z + x), .int .i64 ((k : Nat) : Int), .bool false, u50, u51, u52, u53, u54, u55, u56, u57, u58, u59, u60, u61, u62, u63, u64, u65, u66, u67, u68, u69, u70, u71, u72, u73, u74, u75, u76, u77, u78, u79, u80, u81, u82, u83, u84, u85, u86, u87, u88, u89, u90, u91, u92, .pointer (some ⟨g1, 0, none⟩), .pointer (some ⟨g1, 1, none⟩), .int .i64 s, .int .i64 x, .int .i64 (s + x), .int .i64 ((j : Nat) : Int), u99, u100, u101, u102, u103, u104, u105, u106, u107, u108, u109, u110, u111, u112, u113, u114, u115, u116, u117, u118, u119, u120, u121, u122, u123, u124, u125, u126, u127, u128, u129, u130, u131, u132, u133, u134, u135, u136, u137, u138, u139], defers := [] } ∧ Hs [] w0 w' [.blk p #[.int .i64 r, .int .i64 s, .int .i64 b, .int .i64 o, .int .i64 c, .int .i64 y, .int .i64 z, .slice (some ⟨gl, 0, none⟩) sn cl, .slice (some ⟨gd, 0, none⟩) pg cd, .slice (some ⟨gs, 0, none⟩) ns cs, .int .i64 ((pu : Nat) : Int), .int .i64 ((ru : Nat) : Int)] 181, .row (.slice (some ⟨gl, 0, none⟩) sn cl) 3 1 sn (List.map (Value.int .i64) (iota sn)), .row (.slice (some ⟨gd, 0, none⟩) pg cd) 4 1 pg (List.map Value.bool (List.replicate pg false)), .row (.slice (some ⟨gs, 0, none⟩) ns cs) 3 1 ns (List.map (Value.int .i64) (List.replicate ns (-1))), .blk g1 #[.int .i64 r, .int .i64 s, .int .i64 b, .int .i64 o, .int .i64 c, .int .i64 y, .int .i64 z] 69] ∧ (((ru : Nat) : Int) = min ((j : Nat) : Int) s) ∧ (((j : Nat) : Int) ≤ s + x)) (fun gh => match gh with | (j, ru) => (s + x).toNat - j) (0, 0) ⟨u4, undef, undef, undef, undef, undef, undef, undef, undef, undef, undef, undef, undef, undef, undef, undef, undef, undef, undef, undef, undef, undef, undef, undef, undef, undef, undef, undef, undef, undef, undef, undef, undef, undef, undef, undef, undef, undef, undef, undef, undef, undef, undef, undef, undef, (by kernel_rfl), H, (by omega), (by omega)⟩ ?_
        clear H
        rintro ⟨j, ru⟩ _ v5 ⟨u4, u10, u11, u12, u99, u100, u101, u102, u103, u104, u105, u106, u107, u108, u109, u110, u111, u112, u113, u114, u115, u116, u117, u118, u119, u120, u121, u122, u123, u124, u125, u126, u127, u128, u129, u130, u131, u132, u133, u134, u135, u136, u137, u138, u139, rfl, H, r1, r2⟩
        refine x_seq ?_
        refine x_region ?_
        refine x_val (.bool (decide (((j : Nat) : Int) < (s + x)))) (by kernel_rfl) rfl (by kernel_rfl) ?_
        refine x_nil ?_
        refine x_then ?_
        refine x_seq ?_
        cases h4 : decide (((j : Nat) : Int) < (s + x))
        · skip
          have h4p := of_decide_eq_false h4
          refine x_f (by kernel_rfl) ?_
          refine x_exit ?_
          refine x_then_exit ?_
          refine x_then_exit ?_
          refine x_blk_exit ?_
          refine x_then ?_
          refine x_seq ?_
          refine x_region ?_
          refine x_val (.bool true) (by kernel_rfl) rfl (by kernel_rfl) ?_
          refine x_nil ?_
          refine x_then ?_
          refine x_retc ?_
          refine x_ret (.bool true) (by kernel_rfl) (by kernel_rfl) ?_
          exact ⟨rfl, H.below⟩
        · skip
          have h4p := of_decide_eq_true h4
          refine x_t (by kernel_rfl) ?_
          refine x_skipc ?_
          refine x_then ?_
          refine x_seq ?_
          refine x_block ?_
          refine x_seq ?_
          refine x_region ?_
          refine x_val (.int .i64 ((j : Nat) : Int)) (by kernel_rfl) rfl (by kernel_rfl) ?_
          refine x_val (.int .i64 ((j : Nat) : Int)) (by kernel_rfl) rfl (by kernel_rfl) ?_
          refine x_nil ?_
          refine x_then ?_
          refine x_seq ?_
          refine x_region ?_
          refine x_val (.pointer (some ⟨p, 0, none⟩)) (by kernel_rfl) rfl (by kernel_rfl) ?_
          cases h5 : decide (((ru : Nat) : Int) = s)
          · skip
            have h5p := of_decide_eq_false h5
            have h6 : (decide (((j : Nat) : Int) < s)) = true := by simp; omega
            have h7 : (decide (s ≤ ((j : Nat) : Int))) = false := by simp; omega
            have h8 : (decide ((r + ((ru : Nat) : Int)) = (r + ((j : Nat) : Int)))) = true := by simp; omega
            refine x_callH (.tuple #[.int .i64 (r + ((ru : Nat) : Int)), .int .i64 0]) [.blk p #[.int .i64 r, .int .i64 s, .int .i64 b, .int .i64 o, .int .i64 c, .int .i64 y, .int .i64 z, .slice (some ⟨gl, 0, none⟩) sn cl, .slice (some ⟨gd, 0, none⟩) pg cd, .slice (some ⟨gs, 0, none⟩) ns cs, .int .i64 ((pu : Nat) : Int), .int .i64 (((ru + 1) : Nat) : Int)] 181, .row (.slice (some ⟨gl, 0, none⟩) sn cl) 3 1 sn (List.map (Value.int .i64) (iota sn)), .row (.slice (some ⟨gd, 0, none⟩) pg cd) 4 1 pg (List.map Value.bool (List.replicate pg false)), .row (.slice (some ⟨gs, 0, none⟩) ns cs) 3 1 ns (List.map (Value.int .i64) (List.replicate ns (-1))), .blk g1 #[.int .i64 r, .int .i64 s, .int .i64 b, .int .i64 o, .int .i64 c, .int .i64 y, .int .i64 z] 69] (by kernel_rfl) rfl (by kernel_rfl) (Hs.use (A := [.blk p #[.int .i64 r, .int .i64 s, .int .i64 b, .int .i64 o, .int .i64 c, .int .i64 y, .int .i64 z, .slice (some ⟨gl, 0, none⟩) sn cl, .slice (some ⟨gd, 0, none⟩) pg cd, .slice (some ⟨gs, 0, none⟩) ns cs, .int .i64 ((pu : Nat) : Int), .int .i64 ((ru : Nat) : Int)] 181, .row (.slice (some ⟨gl, 0, none⟩) sn cl) 3 1 sn (List.map (Value.int .i64) (iota sn)), .row (.slice (some ⟨gd, 0, none⟩) pg cd) 4 1 pg (List.map Value.bool (List.replicate pg false)), .row (.slice (some ⟨gs, 0, none⟩) ns cs) 3 1 ns (List.map (Value.int .i64) (List.replicate ns (-1)))]) (R := [.blk g1 #[.int .i64 r, .int .i64 s, .int .i64 b, .int .i64 o, .int .i64 c, .int .i64 y, .int .i64 z] 69]) (H.pick [0, 1, 2, 3, 4] _ (by decide) (by kernel_rfl)) (fun h => TakeSpare_yes hL (mok0 (by omega) (by omega)) (by omega) _ h)) ?_
            clear H
            intro v6 H
            refine x_val (.tuple #[.int .i64 (r + ((ru : Nat) : Int)), .int .i64 0]) (by kernel_rfl) rfl (by kernel_rfl) ?_
            refine x_val (.int .i64 (r + ((ru : Nat) : Int))) (by kernel_rfl) rfl (by kernel_rfl) ?_
            refine x_val (.int .i64 0) (by kernel_rfl) rfl (by kernel_rfl) ?_
            refine x_val (.int .i64 (r + ((ru : Nat) : Int))) (by kernel_rfl) rfl (by kernel_rfl) ?_
            refine x_val (.int .i64 0) (by kernel_rfl) rfl (by kernel_rfl) ?_
            refine x_nil ?_
            refine x_then ?_
            refine x_seq ?_
            refine x_region ?_
            refine x_val (.int .i64 ((j : Nat) : Int)) (by kernel_rfl) rfl (by kernel_rfl) ?_
            refine x_val (.pointer (some ⟨g1, 0, none⟩)) (by kernel_rfl) rfl (by kernel_rfl) ?_
            refine x_val (.pointer (some ⟨g1, 1, none⟩)) (by kernel_rfl) rfl (by kernel_rfl) ?_
            refine x_load1 H 4 g1 1 #[.int .i64 r, .int .i64 s, .int .i64 b, .int .i64 o, .int .i64 c, .int .i64 y, .int .i64 z] 69 (.int .i64 s) (by kernel_rfl) (by kernel_rfl) (by kernel_rfl) rfl (by kernel_rfl) ?_
            refine x_val (.bool (decide (((j : Nat) : Int) < s))) (by kernel_rfl) rfl (by kernel_rfl) ?_
            refine x_val (.bool (decide (((j : Nat) : Int) < s))) (by kernel_rfl) rfl (by kernel_rfl) ?_
            rw [h6]
            refine x_val (.int .i64 (r + ((ru : Nat) : Int))) (by kernel_rfl) rfl (by kernel_rfl) ?_
            refine x_val (.pointer (some ⟨g1, 0, none⟩)) (by kernel_rfl) rfl (by kernel_rfl) ?_
            refine x_val (.pointer (some ⟨g1, 0, none⟩)) (by kernel_rfl) rfl (by kernel_rfl) ?_
            refine x_load1 H 4 g1 0 #[.int .i64 r, .int .i64 s, .int .i64 b, .int .i64 o, .int .i64 c, .int .i64 y, .int .i64 z] 69 (.int .i64 r) (by kernel_rfl) (by kernel_rfl) (by kernel_rfl) rfl (by kernel_rfl) ?_
            refine x_val (.int .i64 ((j : Nat) : Int)) (by kernel_rfl) rfl (by kernel_rfl) ?_
            refine x_ar (r + ((j : Nat) : Int)) ⟨by omega, by omega⟩ (by kernel_rfl) rfl (by kernel_rfl) ?_
            refine x_val (.bool (!(decide ((r + ((ru : Nat) : Int)) = (r + ((j : Nat) : Int)))))) (by kernel_rfl) rfl (by kernel_rfl) ?_
            refine x_val (.bool (!(decide ((r + ((ru : Nat) : Int)) = (r + ((j : Nat) : Int)))))) (by kernel_rfl) rfl (by kernel_rfl) ?_
            rw [h8]
            refine x_val (.int .i64 0) (by kernel_rfl) rfl (by kernel_rfl) ?_
            refine x_val (.bool false) (by kernel_rfl) rfl (by kernel_rfl) ?_
            refine x_val (.bool false) (by kernel_rfl) rfl (by kernel_rfl) ?_
            refine x_val (.bool false) (by kernel_rfl) rfl (by kernel_rfl) ?_
            refine x_val (.bool false) (by kernel_rfl) rfl (by kernel_rfl) ?_
            refine x_val (.int .i64 ((j : Nat) : Int)) (by kernel_rfl) rfl (by kernel_rfl) ?_
            refine x_val (.pointer (some ⟨g1, 0, none⟩)) (by kernel_rfl) rfl (by kernel_rfl) ?_
            refine x_val (.pointer (some ⟨g1, 1, none⟩)) (by kernel_rfl) rfl (by kernel_rfl) ?_
            refine x_load1 H 4 g1 1 #[.int .i64 r, .int .i64 s, .int .i64 b, .int .i64 o, .int .i64 c, .int .i64 y, .int .i64 z] 69 (.int .i64 s) (by kernel_rfl) (by kernel_rfl) (by kernel_rfl) rfl (by kernel_rfl) ?_
            refine x_val (.bool (decide (s ≤ ((j : Nat) : Int)))) (by kernel_rfl) rfl (by kernel_rfl) ?_
            refine x_val (.bool (decide (s ≤ ((j : Nat) : Int)))) (by kernel_rfl) rfl (by kernel_rfl) ?_
            rw [h7]
            refine x_skip (by kernel_rfl) ?_
            refine x_skip (by kernel_rfl) ?_
            refine x_skip (by kernel_rfl) ?_
            refine x_skip (by kernel_rfl) ?_
            refine x_skip (by kernel_rfl) ?_
            refine x_skip (by kernel_rfl) ?_
            refine x_val (.bool false) (by kernel_rfl) rfl (by kernel_rfl) ?_
            refine x_val (.bool false) (by kernel_rfl) rfl (by kernel_rfl) ?_
            refine x_nil ?_
            refine x_frame' { tmps := #[.agg #[.int .i64 r, .int .i64 s, .int .i64 b, .int .i64 o, .int .i64 c, .int .i64 y, .int .i64 z], .int .i64 x, .pointer (some ⟨g1, 0, none⟩), undef, u4, .pointer (some ⟨p, 0, none⟩), .int .i64 0, u7, u8, u9, .int .i64 ((j : Nat) : Int), .int .i64 (r + ((ru : Nat) : Int)), .int .i64 0, .bool true, .bool false, .tuple #[.pointer (some ⟨p, 0, none⟩), .int .i64 0], .agg #[.int .i64 r, .int .i64 s, .int .i64 b, .int .i64 o, .int .i64 c, .int .i64 y, .int .i64 z], .tuple #[.pointer (some ⟨p, 0, none⟩), .int .i64 0], .pointer (some ⟨p, 0, none⟩), .int .i64 0, .int .i64 0, .bool false, .bool false, .pointer (some ⟨p, 0, none⟩), .bool false, .bool false, .bool false, .int .i64 x, .bool false, .bool false, .bool false, .int .i64 x, .bool false, .bool false, undef, undef, undef, undef, undef, undef, undef, undef, undef, undef, .pointer (some ⟨g1, 6, none⟩), .int .i64 z, .int .i64 x, .int .i64 (z + x), .int .i64 ((k : Nat) : Int), .bool false, u50, u51, u52, u53, u54, u55, u56, u57, u58, u59, u60, u61, u62, u63, u64, u65, u66, u67, u68, u69, u70, u71, u72, u73, u74, u75, u76, u77, u78, u79, u80, u81, u82, u83, u84, u85, u86, u87, u88, u89, u90, u91, u92, .pointer (some ⟨g1, 0, none⟩), .pointer (some ⟨g1, 1, none⟩), .int .i64 s, .int .i64 x, .int .i64 (s + x), .int .i64 ((j : Nat) : Int), .bool true, .int .i64 ((j : Nat) : Int), .tuple #[.int .i64 (r + ((ru : Nat) : Int)), .int .i64 0], .pointer (some ⟨p, 0, none⟩), .tuple #[.int .i64 (r + ((ru : Nat) : Int)), .int .i64 0], .int .i64 (r + ((ru : Nat) : Int)), .int .i64 0, .int .i64 ((j : Nat) : Int), .pointer (some ⟨g1, 0, none⟩), .pointer (some ⟨g1, 1, none⟩), .int .i64 s, .bool true, .bool true, .int .i64 (r + ((ru : Nat) : Int)), .pointer (some ⟨g1, 0, none⟩), .pointer (some ⟨g1, 0, none⟩), .int .i64 r, .int .i64 ((j : Nat) : Int), .int .i64 (r + ((j : Nat) : Int)), .bool false, .bool false, .int .i64 0, .bool false, .bool false, .bool false, .bool false, .int .i64 ((j : Nat) : Int), .pointer (some ⟨g1, 0, none⟩), .pointer (some ⟨g1, 1, none⟩), .int .i64 s, .bool false, .bool false, undef, undef, undef, undef, undef, undef, .bool false, .bool false, u139], defers := [] } (by kernel_rfl) ?_
            refine x_then ?_
            refine x_f (by kernel_rfl) ?_
            refine x_skipc ?_
            refine x_blk ?_
            refine x_then ?_
            refine x_region ?_
            refine x_ar (((j : Nat) : Int) + 1) ⟨by omega, by omega⟩ (by kernel_rfl) rfl (by kernel_rfl) ?_
            refine x_val (.int .i64 (((j : Nat) : Int) + 1)) (by kernel_rfl) rfl (by kernel_rfl) ?_
            refine x_nil ?_
            refine x_then ?_
            exact ⟨(j + 1, (ru + 1)), (by dsimp only; omega), u4, (.int .i64 ((j : Nat) : Int)), (.int .i64 (r + ((ru : Nat) : Int))), (.int .i64 0), (.bool true), (.int .i64 ((j : Nat) : Int)), (.tuple #[.int .i64 (r + ((ru : Nat) : Int)), .int .i64 0]), (.pointer (some ⟨p, 0, none⟩)), (.tuple #[.int .i64 (r + ((ru : Nat) : Int)), .int .i64 0]), (.int .i64 (r + ((ru : Nat) : Int))), (.int .i64 0), (.int .i64 ((j : Nat) : Int)), (.pointer (some ⟨g1, 0, none⟩)), (.pointer (some ⟨g1, 1, none⟩)), (.int .i64 s), (.bool true), (.bool true), (.int .i64 (r + ((ru : Nat) : Int))), (.pointer (some ⟨g1, 0, none⟩)), (.pointer (some ⟨g1, 0, none⟩)), (.int .i64 r), (.int .i64 ((j : Nat) : Int)), (.int .i64 (r + ((j : Nat) : Int))), (.bool false), (.bool false), (.int .i64 0), (.bool false), (.bool false), (.bool false), (.bool false), (.int .i64 ((j : Nat) : Int)), (.pointer (some ⟨g1, 0, none⟩)), (.pointer (some ⟨g1, 1, none⟩)), (.int .i64 s), (.bool false), (.bool false), undef, undef, undef, undef, undef, undef, (.bool false), (.bool false), (.int .i64 (((j : Nat) : Int) + 1)), (by kernel_rfl), H, (by omega), (by omega)⟩
          · skip
            have h5p := of_decide_eq_true h5
            have h9 : (decide (((j : Nat) : Int) < s)) = false := by simp; omega
            have h10 : (decide (s ≤ ((j : Nat) : Int))) = true := by simp; omega
            refine x_callH (.tuple #[.int .i64 0, .int .i64 52]) [.blk p #[.int .i64 r, .int .i64 s, .int .i64 b, .int .i64 o, .int .i64 c, .int .i64 y, .int .i64 z, .slice (some ⟨gl, 0, none⟩) sn cl, .slice (some ⟨gd, 0, none⟩) pg cd, .slice (some ⟨gs, 0, none⟩) ns cs, .int .i64 ((pu : Nat) : Int), .int .i64 ((ru : Nat) : Int)] 181, .row (.slice (some ⟨gl, 0, none⟩) sn cl) 3 1 sn (List.map (Value.int .i64) (iota sn)), .row (.slice (some ⟨gd, 0, none⟩) pg cd) 4 1 pg (List.map Value.bool (List.replicate pg false)), .row (.slice (some ⟨gs, 0, none⟩) ns cs) 3 1 ns (List.map (Value.int .i64) (List.replicate ns (-1))), .blk g1 #[.int .i64 r, .int .i64 s, .int .i64 b, .int .i64 o, .int .i64 c, .int .i64 y, .int .i64 z] 69] (by kernel_rfl) rfl (by kernel_rfl) (Hs.use (A := [.blk p #[.int .i64 r, .int .i64 s, .int .i64 b, .int .i64 o, .int .i64 c, .int .i64 y, .int .i64 z, .slice (some ⟨gl, 0, none⟩) sn cl, .slice (some ⟨gd, 0, none⟩) pg cd, .slice (some ⟨gs, 0, none⟩) ns cs, .int .i64 ((pu : Nat) : Int), .int .i64 ((ru : Nat) : Int)] 181, .row (.slice (some ⟨gl, 0, none⟩) sn cl) 3 1 sn (List.map (Value.int .i64) (iota sn)), .row (.slice (some ⟨gd, 0, none⟩) pg cd) 4 1 pg (List.map Value.bool (List.replicate pg false)), .row (.slice (some ⟨gs, 0, none⟩) ns cs) 3 1 ns (List.map (Value.int .i64) (List.replicate ns (-1)))]) (R := [.blk g1 #[.int .i64 r, .int .i64 s, .int .i64 b, .int .i64 o, .int .i64 c, .int .i64 y, .int .i64 z] 69]) (H.pick [0, 1, 2, 3, 4] _ (by decide) (by kernel_rfl)) (fun h => TakeSpare_no hL (mok0 (by omega) (by omega)) (by omega) _ h)) ?_
            clear H
            intro v7 H
            refine x_val (.tuple #[.int .i64 0, .int .i64 52]) (by kernel_rfl) rfl (by kernel_rfl) ?_
            refine x_val (.int .i64 0) (by kernel_rfl) rfl (by kernel_rfl) ?_
            refine x_val (.int .i64 52) (by kernel_rfl) rfl (by kernel_rfl) ?_
            refine x_val (.int .i64 0) (by kernel_rfl) rfl (by kernel_rfl) ?_
            refine x_val (.int .i64 52) (by kernel_rfl) rfl (by kernel_rfl) ?_
            refine x_nil ?_
            refine x_then ?_
            refine x_seq ?_
            refine x_region ?_
            refine x_val (.int .i64 ((j : Nat) : Int)) (by kernel_rfl) rfl (by kernel_rfl) ?_
            refine x_val (.pointer (some ⟨g1, 0, none⟩)) (by kernel_rfl) rfl (by kernel_rfl) ?_
            refine x_val (.pointer (some ⟨g1, 1, none⟩)) (by kernel_rfl) rfl (by kernel_rfl) ?_
            refine x_load1 H 4 g1 1 #[.int .i64 r, .int .i64 s, .int .i64 b, .int .i64 o, .int .i64 c, .int .i64 y, .int .i64 z] 69 (.int .i64 s) (by kernel_rfl) (by kernel_rfl) (by kernel_rfl) rfl (by kernel_rfl) ?_
            refine x_val (.bool (decide (((j : Nat) : Int) < s))) (by kernel_rfl) rfl (by kernel_rfl) ?_
            refine x_val (.bool (decide (((j : Nat) : Int) < s))) (by kernel_rfl) rfl (by kernel_rfl) ?_
            rw [h9]
            refine x_skip (by kernel_rfl) ?_
            refine x_skip (by kernel_rfl) ?_
            refine x_skip (by kernel_rfl) ?_
            refine x_skip (by kernel_rfl) ?_
            refine x_skip (by kernel_rfl) ?_
            refine x_skip (by kernel_rfl) ?_
            refine x_skip (by kernel_rfl) ?_
            refine x_skip (by kernel_rfl) ?_
            refine x_skip (by kernel_rfl) ?_
            refine x_skip (by kernel_rfl) ?_
            refine x_skip (by kernel_rfl) ?_
            refine x_val (.bool false) (by kernel_rfl) rfl (by kernel_rfl) ?_
            refine x_val (.bool false) (by kernel_rfl) rfl (by kernel_rfl) ?_
            refine x_val (.int .i64 ((j : Nat) : Int)) (by kernel_rfl) rfl (by kernel_rfl) ?_
            refine x_val (.pointer (some ⟨g1, 0, none⟩)) (by kernel_rfl) rfl (by kernel_rfl) ?_
            refine x_val (.pointer (some ⟨g1, 1, none⟩)) (by kernel_rfl) rfl (by kernel_rfl) ?_
            refine x_load1 H 4 g1 1 #[.int .i64 r, .int .i64 s, .int .i64 b, .int .i64 o, .int .i64 c, .int .i64 y, .int .i64 z] 69 (.int .i64 s) (by kernel_rfl) (by kernel_rfl) (by kernel_rfl) rfl (by kernel_rfl) ?_
            refine x_val (.bool (decide (s ≤ ((j : Nat) : Int)))) (by kernel_rfl) rfl (by kernel_rfl) ?_
            refine x_val (.bool (decide (s ≤ ((j : Nat) : Int)))) (by kernel_rfl) rfl (by kernel_rfl) ?_
            rw [h10]
            refine x_val (.int .i64 0) (by kernel_rfl) rfl (by kernel_rfl) ?_
            refine x_val (.bool false) (by kernel_rfl) rfl (by kernel_rfl) ?_
            refine x_val (.bool false) (by kernel_rfl) rfl (by kernel_rfl) ?_
            refine x_val (.int .i64 52) (by kernel_rfl) rfl (by kernel_rfl) ?_
            refine x_val (.bool false) (by kernel_rfl) rfl (by kernel_rfl) ?_
            refine x_val (.bool false) (by kernel_rfl) rfl (by kernel_rfl) ?_
            refine x_val (.bool false) (by kernel_rfl) rfl (by kernel_rfl) ?_
            refine x_val (.bool false) (by kernel_rfl) rfl (by kernel_rfl) ?_
            refine x_nil ?_
            refine x_frame' { tmps := #[.agg #[.int .i64 r, .int .i64 s, .int .i64 b, .int .i64 o, .int .i64 c, .int .i64 y, .int .i64 z], .int .i64 x, .pointer (some ⟨g1, 0, none⟩), undef, u4, .pointer (some ⟨p, 0, none⟩), .int .i64 0, u7, u8, u9, .int .i64 ((j : Nat) : Int), .int .i64 0, .int .i64 52, .bool true, .bool false, .tuple #[.pointer (some ⟨p, 0, none⟩), .int .i64 0], .agg #[.int .i64 r, .int .i64 s, .int .i64 b, .int .i64 o, .int .i64 c, .int .i64 y, .int .i64 z], .tuple #[.pointer (some ⟨p, 0, none⟩), .int .i64 0], .pointer (some ⟨p, 0, none⟩), .int .i64 0, .int .i64 0, .bool false, .bool false, .pointer (some ⟨p, 0, none⟩), .bool false, .bool false, .bool false, .int .i64 x, .bool false, .bool false, .bool false, .int .i64 x, .bool false, .bool false, undef, undef, undef, undef, undef, undef, undef, undef, undef, undef, .pointer (some ⟨g1, 6, none⟩), .int .i64 z, .int .i64 x, .int .i64 (z + x), .int .i64 ((k : Nat) : Int), .bool false, u50, u51, u52, u53, u54, u55, u56, u57, u58, u59, u60, u61, u62, u63, u64, u65, u66, u67, u68, u69, u70, u71, u72, u73, u74, u75, u76, u77, u78, u79, u80, u81, u82, u83, u84, u85, u86, u87, u88, u89, u90, u91, u92, .pointer (some ⟨g1, 0, none⟩), .pointer (some ⟨g1, 1, none⟩), .int .i64 s, .int .i64 x, .int .i64 (s + x), .int .i64 ((j : Nat) : Int), .bool true, .int .i64 ((j : Nat) : Int), .tuple #[.int .i64 0, .int .i64 52], .pointer (some ⟨p, 0, none⟩), .tuple #[.int .i64 0, .int .i64 52], .int .i64 0, .int .i64 52, .int .i64 ((j : Nat) : Int), .pointer (some ⟨g1, 0, none⟩), .pointer (some ⟨g1, 1, none⟩), .int .i64 s, .bool false, .bool false, undef, undef, undef, undef, undef, undef, undef, undef, undef, undef, undef, .bool false, .bool false, .int .i64 ((j : Nat) : Int), .pointer (some ⟨g1, 0, none⟩), .pointer (some ⟨g1, 1, none⟩), .int .i64 s, .bool true, .bool true, .int .i64 0, .bool false, .bool false, .int .i64 52, .bool false, .bool false, .bool false, .bool false, u139], defers := [] } (by kernel_rfl) ?_
            refine x_then ?_
            refine x_f (by kernel_rfl) ?_
            refine x_skipc ?_
            refine x_blk ?_
            refine x_then ?_
            refine x_region ?_
            refine x_ar (((j : Nat) : Int) + 1) ⟨by omega, by omega⟩ (by kernel_rfl) rfl (by kernel_rfl) ?_
            refine x_val (.int .i64 (((j : Nat) : Int) + 1)) (by kernel_rfl) rfl (by kernel_rfl) ?_
            refine x_nil ?_
            refine x_then ?_
            exact ⟨(j + 1, ru), (by dsimp only; omega), u4, (.int .i64 ((j : Nat) : Int)), (.int .i64 0), (.int .i64 52), (.bool true), (.int .i64 ((j : Nat) : Int)), (.tuple #[.int .i64 0, .int .i64 52]), (.pointer (some ⟨p, 0, none⟩)), (.tuple #[.int .i64 0, .int .i64 52]), (.int .i64 0), (.int .i64 52), (.int .i64 ((j : Nat) : Int)), (.pointer (some ⟨g1, 0, none⟩)), (.pointer (some ⟨g1, 1, none⟩)), (.int .i64 s), (.bool false), (.bool false), undef, undef, undef, undef, undef, undef, undef, undef, undef, undef, undef, (.bool false), (.bool false), (.int .i64 ((j : Nat) : Int)), (.pointer (some ⟨g1, 0, none⟩)), (.pointer (some ⟨g1, 1, none⟩)), (.int .i64 s), (.bool true), (.bool true), (.int .i64 0), (.bool false), (.bool false), (.int .i64 52), (.bool false), (.bool false), (.bool false), (.bool false), (.int .i64 (((j : Nat) : Int) + 1)), (by kernel_rfl), H, (by omega), (by omega)⟩
      · skip
        have h3p := of_decide_eq_true h3
        refine x_t (by kernel_rfl) ?_
        refine x_skipc ?_
        refine x_then ?_
        refine x_seq ?_
        refine x_block ?_
        refine x_seq ?_
        refine x_region ?_
        refine x_val (.int .i64 ((k : Nat) : Int)) (by kernel_rfl) rfl (by kernel_rfl) ?_
        refine x_val (.int .i64 ((k : Nat) : Int)) (by kernel_rfl) rfl (by kernel_rfl) ?_
        refine x_nil ?_
        refine x_then ?_
        refine x_seq ?_
        refine x_region ?_
        refine x_val (.pointer (some ⟨p, 0, none⟩)) (by kernel_rfl) rfl (by kernel_rfl) ?_
        cases h11 : decide (((pu : Nat) : Int) = z)
        · skip
          have h11p := of_decide_eq_false h11
          have h12 : (decide (((k : Nat) : Int) < z)) = true := by simp; omega
          have h13 : (decide (z ≤ ((k : Nat) : Int))) = false := by simp; omega
          have h14 : (decide ((((sn : Nat) : Int) + ((pu : Nat) : Int)) = (((sn : Nat) : Int) + ((k : Nat) : Int)))) = true := by simp; omega
          refine x_callH (.tuple #[.int .i64 (((sn : Nat) : Int) + ((pu : Nat) : Int)), .int .i64 0]) [.blk p #[.int .i64 r, .int .i64 s, .int .i64 b, .int .i64 o, .int .i64 c, .int .i64 y, .int .i64 z, .slice (some ⟨gl, 0, none⟩) sn cl, .slice (some ⟨gd, 0, none⟩) pg cd, .slice (some ⟨gs, 0, none⟩) ns cs, .int .i64 (((pu + 1) : Nat) : Int), .int .i64 ((0 : Nat) : Int)] 181, .row (.slice (some ⟨gl, 0, none⟩) sn cl) 3 1 sn (List.map (Value.int .i64) (iota sn)), .row (.slice (some ⟨gd, 0, none⟩) pg cd) 4 1 pg (List.map Value.bool (List.replicate pg false)), .row (.slice (some ⟨gs, 0, none⟩) ns cs) 3 1 ns (List.map (Value.int .i64) (List.replicate ns (-1))), .blk g1 #[.int .i64 r, .int .i64 s, .int .i64 b, .int .i64 o, .int .i64 c, .int .i64 y, .int .i64 z] 69] (by kernel_rfl) rfl (by kernel_rfl) (Hs.use (A := [.blk p #[.int .i64 r, .int .i64 s, .int .i64 b, .int .i64 o, .int .i64 c, .int .i64 y, .int .i64 z, .slice (some ⟨gl, 0, none⟩) sn cl, .slice (some ⟨gd, 0, none⟩) pg cd, .slice (some ⟨gs, 0, none⟩) ns cs, .int .i64 ((pu : Nat) : Int), .int .i64 ((0 : Nat) : Int)] 181, .row (.slice (some ⟨gl, 0, none⟩) sn cl) 3 1 sn (List.map (Value.int .i64) (iota sn)), .row (.slice (some ⟨gd, 0, none⟩) pg cd) 4 1 pg (List.map Value.bool (List.replicate pg false)), .row (.slice (some ⟨gs, 0, none⟩) ns cs) 3 1 ns (List.map (Value.int .i64) (List.replicate ns (-1)))]) (R := [.blk g1 #[.int .i64 r, .int .i64 s, .int .i64 b, .int .i64 o, .int .i64 c, .int .i64 y, .int .i64 z] 69]) (H.pick [0, 1, 2, 3, 4] _ (by decide) (by kernel_rfl)) (fun h => TakePage_yes hL (mok0 (by omega) (by omega)) (by omega) _ h)) ?_
          clear H
          intro v8 H
          refine x_val (.tuple #[.int .i64 (((sn : Nat) : Int) + ((pu : Nat) : Int)), .int .i64 0]) (by kernel_rfl) rfl (by kernel_rfl) ?_
          refine x_val (.int .i64 (((sn : Nat) : Int) + ((pu : Nat) : Int))) (by kernel_rfl) rfl (by kernel_rfl) ?_
          refine x_val (.int .i64 0) (by kernel_rfl) rfl (by kernel_rfl) ?_
          refine x_val (.int .i64 (((sn : Nat) : Int) + ((pu : Nat) : Int))) (by kernel_rfl) rfl (by kernel_rfl) ?_
          refine x_val (.int .i64 0) (by kernel_rfl) rfl (by kernel_rfl) ?_
          refine x_nil ?_
          refine x_then ?_
          refine x_seq ?_
          refine x_region ?_
          refine x_val (.int .i64 ((k : Nat) : Int)) (by kernel_rfl) rfl (by kernel_rfl) ?_
          refine x_val (.pointer (some ⟨g1, 6, none⟩)) (by kernel_rfl) rfl (by kernel_rfl) ?_
          refine x_load1 H 4 g1 6 #[.int .i64 r, .int .i64 s, .int .i64 b, .int .i64 o, .int .i64 c, .int .i64 y, .int .i64 z] 69 (.int .i64 z) (by kernel_rfl) (by kernel_rfl) (by kernel_rfl) rfl (by kernel_rfl) ?_
          refine x_val (.bool (decide (((k : Nat) : Int) < z))) (by kernel_rfl) rfl (by kernel_rfl) ?_
          refine x_val (.bool (decide (((k : Nat) : Int) < z))) (by kernel_rfl) rfl (by kernel_rfl) ?_
          rw [h12]
          refine x_val (.int .i64 (((sn : Nat) : Int) + ((pu : Nat) : Int))) (by kernel_rfl) rfl (by kernel_rfl) ?_
          refine x_loadn (t := 69) H 4 g1 0 #[.int .i64 r, .int .i64 s, .int .i64 b, .int .i64 o, .int .i64 c, .int .i64 y, .int .i64 z] 69 [.int .i64 r, .int .i64 s, .int .i64 b, .int .i64 o, .int .i64 c, .int .i64 y, .int .i64 z] (by kernel_rfl) (by kernel_rfl) (by kernel_rfl) rfl (by kernel_rfl) (by kernel_rfl) ?_
          refine x_callB (.int .i64 ((sn : Nat) : Int)) H (by kernel_rfl) rfl (by kernel_rfl) (seen_of hL _) ?_
          clear H
          intro v9 H
          refine x_val (.int .i64 ((k : Nat) : Int)) (by kernel_rfl) rfl (by kernel_rfl) ?_
          refine x_ar (((sn : Nat) : Int) + ((k : Nat) : Int)) ⟨by omega, by omega⟩ (by kernel_rfl) rfl (by kernel_rfl) ?_
          refine x_val (.bool (!(decide ((((sn : Nat) : Int) + ((pu : Nat) : Int)) = (((sn : Nat) : Int) + ((k : Nat) : Int)))))) (by kernel_rfl) rfl (by kernel_rfl) ?_
          refine x_val (.bool (!(decide ((((sn : Nat) : Int) + ((pu : Nat) : Int)) = (((sn : Nat) : Int) + ((k : Nat) : Int)))))) (by kernel_rfl) rfl (by kernel_rfl) ?_
          rw [h14]
          refine x_val (.int .i64 0) (by kernel_rfl) rfl (by kernel_rfl) ?_
          refine x_val (.bool false) (by kernel_rfl) rfl (by kernel_rfl) ?_
          refine x_val (.bool false) (by kernel_rfl) rfl (by kernel_rfl) ?_
          refine x_val (.bool false) (by kernel_rfl) rfl (by kernel_rfl) ?_
          refine x_val (.pointer (some ⟨p, 0, none⟩)) (by kernel_rfl) rfl (by kernel_rfl) ?_
          refine x_val (.int .i64 (((sn : Nat) : Int) + ((pu : Nat) : Int))) (by kernel_rfl) rfl (by kernel_rfl) ?_
          have hU := Used_in hL (mok0 (by omega) (by omega)) (sn + pu) (by omega) _ (H.roOf [0, 1, 2, 3] [.blk p #[.int .i64 r, .int .i64 s, .int .i64 b, .int .i64 o, .int .i64 c, .int .i64 y, .int .i64 z, .slice (some ⟨gl, 0, none⟩) sn cl, .slice (some ⟨gd, 0, none⟩) pg cd, .slice (some ⟨gs, 0, none⟩) ns cs, .int .i64 (((pu + 1) : Nat) : Int), .int .i64 ((0 : Nat) : Int)] 181, .row (.slice (some ⟨gl, 0, none⟩) sn cl) 3 1 sn (List.map (Value.int .i64) (iota sn)), .row (.slice (some ⟨gd, 0, none⟩) pg cd) 4 1 pg (List.map Value.bool (List.replicate pg false)), .row (.slice (some ⟨gs, 0, none⟩) ns cs) 3 1 ns (List.map (Value.int .i64) (List.replicate ns (-1)))] (by kernel_rfl))
          rw [rep_get] at hU
          refine x_callB (.bool true) H (by kernel_rfl) rfl (by kernel_rfl) hU ?_
          clear H
          intro v10 H
          refine x_val (.bool false) (by kernel_rfl) rfl (by kernel_rfl) ?_
          refine x_val (.bool false) (by kernel_rfl) rfl (by kernel_rfl) ?_
          refine x_val (.bool false) (by kernel_rfl) rfl (by kernel_rfl) ?_
          refine x_val (.bool false) (by kernel_rfl) rfl (by kernel_rfl) ?_
          refine x_val (.int .i64 ((k : Nat) : Int)) (by kernel_rfl) rfl (by kernel_rfl) ?_
          refine x_val (.pointer (some ⟨g1, 6, none⟩)) (by kernel_rfl) rfl (by kernel_rfl) ?_
          refine x_load1 H 4 g1 6 #[.int .i64 r, .int .i64 s, .int .i64 b, .int .i64 o, .int .i64 c, .int .i64 y, .int .i64 z] 69 (.int .i64 z) (by kernel_rfl) (by kernel_rfl) (by kernel_rfl) rfl (by kernel_rfl) ?_
          refine x_val (.bool (decide (z ≤ ((k : Nat) : Int)))) (by kernel_rfl) rfl (by kernel_rfl) ?_
          refine x_val (.bool (decide (z ≤ ((k : Nat) : Int)))) (by kernel_rfl) rfl (by kernel_rfl) ?_
          rw [h13]
          refine x_skip (by kernel_rfl) ?_
          refine x_skip (by kernel_rfl) ?_
          refine x_skip (by kernel_rfl) ?_
          refine x_skip (by kernel_rfl) ?_
          refine x_skip (by kernel_rfl) ?_
          refine x_skip (by kernel_rfl) ?_
          refine x_val (.bool false) (by kernel_rfl) rfl (by kernel_rfl) ?_
          refine x_val (.bool false) (by kernel_rfl) rfl (by kernel_rfl) ?_
          refine x_nil ?_
          refine x_frame' { tmps := #[.agg #[.int .i64 r, .int .i64 s, .int .i64 b, .int .i64 o, .int .i64 c, .int .i64 y, .int .i64 z], .int .i64 x, .pointer (some ⟨g1, 0, none⟩), undef, u4, .pointer (some ⟨p, 0, none⟩), .int .i64 0, .int .i64 ((k : Nat) : Int), .int .i64 (((sn : Nat) : Int) + ((pu : Nat) : Int)), .int .i64 0, undef, undef, undef, .bool true, .bool false, .tuple #[.pointer (some ⟨p, 0, none⟩), .int .i64 0], .agg #[.int .i64 r, .int .i64 s, .int .i64 b, .int .i64 o, .int .i64 c, .int .i64 y, .int .i64 z], .tuple #[.pointer (some ⟨p, 0, none⟩), .int .i64 0], .pointer (some ⟨p, 0, none⟩), .int .i64 0, .int .i64 0, .bool false, .bool false, .pointer (some ⟨p, 0, none⟩), .bool false, .bool false, .bool false, .int .i64 x, .bool false, .bool false, .bool false, .int .i64 x, .bool false, .bool false, undef, undef, undef, undef, undef, undef, undef, undef, undef, undef, .pointer (some ⟨g1, 6, none⟩), .int .i64 z, .int .i64 x, .int .i64 (z + x), .int .i64 ((k : Nat) : Int), .bool true, .int .i64 ((k : Nat) : Int), .tuple #[.int .i64 (((sn : Nat) : Int) + ((pu : Nat) : Int)), .int .i64 0], .pointer (some ⟨p, 0, none⟩), .tuple #[.int .i64 (((sn : Nat) : Int) + ((pu : Nat) : Int)), .int .i64 0], .int .i64 (((sn : Nat) : Int) + ((pu : Nat) : Int)), .int .i64 0, .int .i64 ((k : Nat) : Int), .pointer (some ⟨g1, 6, none⟩), .int .i64 z, .bool true, .bool true, .int .i64 (((sn : Nat) : Int) + ((pu : Nat) : Int)), .agg #[.int .i64 r, .int .i64 s, .int .i64 b, .int .i64 o, .int .i64 c, .int .i64 y, .int .i64 z], .int .i64 ((sn : Nat) : Int), .int .i64 ((k : Nat) : Int), .int .i64 (((sn : Nat) : Int) + ((k : Nat) : Int)), .bool false, .bool false, .int .i64 0, .bool false, .bool false, .bool false, .pointer (some ⟨p, 0, none⟩), .int .i64 (((sn : Nat) : Int) + ((pu : Nat) : Int)), .bool true, .bool false, .bool false, .bool false, .bool false, .int .i64 ((k : Nat) : Int), .pointer (some ⟨g1, 6, none⟩), .int .i64 z, .bool false, .bool false, undef, undef, undef, undef, undef, undef, .bool false, .bool false, u92, undef, undef, undef, undef, undef, undef, undef, undef, undef, undef, undef, undef, undef, undef, undef, undef, undef, undef, undef, undef, undef, undef, undef, undef, undef, undef, undef, undef, undef, undef, undef, undef, undef, undef, undef, undef, undef, undef, undef, undef, undef, undef, undef, undef, undef, undef, undef], defers := [] } (by kernel_rfl) ?_
          refine x_then ?_
          refine x_f (by kernel_rfl) ?_
          refine x_skipc ?_
          refine x_blk ?_
          refine x_then ?_
          refine x_region ?_
          refine x_ar (((k : Nat) : Int) + 1) ⟨by omega, by omega⟩ (by kernel_rfl) rfl (by kernel_rfl) ?_
          refine x_val (.int .i64 (((k : Nat) : Int) + 1)) (by kernel_rfl) rfl (by kernel_rfl) ?_
          refine x_nil ?_
          refine x_then ?_
          exact ⟨(k + 1, (pu + 1)), (by dsimp only; omega), u4, (.int .i64 ((k : Nat) : Int)), (.int .i64 (((sn : Nat) : Int) + ((pu : Nat) : Int))), (.int .i64 0), (.bool true), (.int .i64 ((k : Nat) : Int)), (.tuple #[.int .i64 (((sn : Nat) : Int) + ((pu : Nat) : Int)), .int .i64 0]), (.pointer (some ⟨p, 0, none⟩)), (.tuple #[.int .i64 (((sn : Nat) : Int) + ((pu : Nat) : Int)), .int .i64 0]), (.int .i64 (((sn : Nat) : Int) + ((pu : Nat) : Int))), (.int .i64 0), (.int .i64 ((k : Nat) : Int)), (.pointer (some ⟨g1, 6, none⟩)), (.int .i64 z), (.bool true), (.bool true), (.int .i64 (((sn : Nat) : Int) + ((pu : Nat) : Int))), (.agg #[.int .i64 r, .int .i64 s, .int .i64 b, .int .i64 o, .int .i64 c, .int .i64 y, .int .i64 z]), (.int .i64 ((sn : Nat) : Int)), (.int .i64 ((k : Nat) : Int)), (.int .i64 (((sn : Nat) : Int) + ((k : Nat) : Int))), (.bool false), (.bool false), (.int .i64 0), (.bool false), (.bool false), (.bool false), (.pointer (some ⟨p, 0, none⟩)), (.int .i64 (((sn : Nat) : Int) + ((pu : Nat) : Int))), (.bool true), (.bool false), (.bool false), (.bool false), (.bool false), (.int .i64 ((k : Nat) : Int)), (.pointer (some ⟨g1, 6, none⟩)), (.int .i64 z), (.bool false), (.bool false), undef, undef, undef, undef, undef, undef, (.bool false), (.bool false), (.int .i64 (((k : Nat) : Int) + 1)), (by kernel_rfl), H, (by omega), (by omega)⟩
        · skip
          have h11p := of_decide_eq_true h11
          have h15 : (decide (((k : Nat) : Int) < z)) = false := by simp; omega
          have h16 : (decide (z ≤ ((k : Nat) : Int))) = true := by simp; omega
          refine x_callH (.tuple #[.int .i64 0, .int .i64 52]) [.blk p #[.int .i64 r, .int .i64 s, .int .i64 b, .int .i64 o, .int .i64 c, .int .i64 y, .int .i64 z, .slice (some ⟨gl, 0, none⟩) sn cl, .slice (some ⟨gd, 0, none⟩) pg cd, .slice (some ⟨gs, 0, none⟩) ns cs, .int .i64 ((pu : Nat) : Int), .int .i64 ((0 : Nat) : Int)] 181, .row (.slice (some ⟨gl, 0, none⟩) sn cl) 3 1 sn (List.map (Value.int .i64) (iota sn)), .row (.slice (some ⟨gd, 0, none⟩) pg cd) 4 1 pg (List.map Value.bool (List.replicate pg false)), .row (.slice (some ⟨gs, 0, none⟩) ns cs) 3 1 ns (List.map (Value.int .i64) (List.replicate ns (-1))), .blk g1 #[.int .i64 r, .int .i64 s, .int .i64 b, .int .i64 o, .int .i64 c, .int .i64 y, .int .i64 z] 69] (by kernel_rfl) rfl (by kernel_rfl) (Hs.use (A := [.blk p #[.int .i64 r, .int .i64 s, .int .i64 b, .int .i64 o, .int .i64 c, .int .i64 y, .int .i64 z, .slice (some ⟨gl, 0, none⟩) sn cl, .slice (some ⟨gd, 0, none⟩) pg cd, .slice (some ⟨gs, 0, none⟩) ns cs, .int .i64 ((pu : Nat) : Int), .int .i64 ((0 : Nat) : Int)] 181, .row (.slice (some ⟨gl, 0, none⟩) sn cl) 3 1 sn (List.map (Value.int .i64) (iota sn)), .row (.slice (some ⟨gd, 0, none⟩) pg cd) 4 1 pg (List.map Value.bool (List.replicate pg false)), .row (.slice (some ⟨gs, 0, none⟩) ns cs) 3 1 ns (List.map (Value.int .i64) (List.replicate ns (-1)))]) (R := [.blk g1 #[.int .i64 r, .int .i64 s, .int .i64 b, .int .i64 o, .int .i64 c, .int .i64 y, .int .i64 z] 69]) (H.pick [0, 1, 2, 3, 4] _ (by decide) (by kernel_rfl)) (fun h => TakePage_no hL (mok0 (by omega) (by omega)) (by omega) _ h)) ?_
          clear H
          intro v11 H
          refine x_val (.tuple #[.int .i64 0, .int .i64 52]) (by kernel_rfl) rfl (by kernel_rfl) ?_
          refine x_val (.int .i64 0) (by kernel_rfl) rfl (by kernel_rfl) ?_
          refine x_val (.int .i64 52) (by kernel_rfl) rfl (by kernel_rfl) ?_
          refine x_val (.int .i64 0) (by kernel_rfl) rfl (by kernel_rfl) ?_
          refine x_val (.int .i64 52) (by kernel_rfl) rfl (by kernel_rfl) ?_
          refine x_nil ?_
          refine x_then ?_
          refine x_seq ?_
          refine x_region ?_
          refine x_val (.int .i64 ((k : Nat) : Int)) (by kernel_rfl) rfl (by kernel_rfl) ?_
          refine x_val (.pointer (some ⟨g1, 6, none⟩)) (by kernel_rfl) rfl (by kernel_rfl) ?_
          refine x_load1 H 4 g1 6 #[.int .i64 r, .int .i64 s, .int .i64 b, .int .i64 o, .int .i64 c, .int .i64 y, .int .i64 z] 69 (.int .i64 z) (by kernel_rfl) (by kernel_rfl) (by kernel_rfl) rfl (by kernel_rfl) ?_
          refine x_val (.bool (decide (((k : Nat) : Int) < z))) (by kernel_rfl) rfl (by kernel_rfl) ?_
          refine x_val (.bool (decide (((k : Nat) : Int) < z))) (by kernel_rfl) rfl (by kernel_rfl) ?_
          rw [h15]
          refine x_skip (by kernel_rfl) ?_
          refine x_skip (by kernel_rfl) ?_
          refine x_skip (by kernel_rfl) ?_
          refine x_skip (by kernel_rfl) ?_
          refine x_skip (by kernel_rfl) ?_
          refine x_skip (by kernel_rfl) ?_
          refine x_skip (by kernel_rfl) ?_
          refine x_skip (by kernel_rfl) ?_
          refine x_skip (by kernel_rfl) ?_
          refine x_skip (by kernel_rfl) ?_
          refine x_skip (by kernel_rfl) ?_
          refine x_skip (by kernel_rfl) ?_
          refine x_skip (by kernel_rfl) ?_
          refine x_skip (by kernel_rfl) ?_
          refine x_skip (by kernel_rfl) ?_
          refine x_skip (by kernel_rfl) ?_
          refine x_val (.bool false) (by kernel_rfl) rfl (by kernel_rfl) ?_
          refine x_val (.bool false) (by kernel_rfl) rfl (by kernel_rfl) ?_
          refine x_val (.int .i64 ((k : Nat) : Int)) (by kernel_rfl) rfl (by kernel_rfl) ?_
          refine x_val (.pointer (some ⟨g1, 6, none⟩)) (by kernel_rfl) rfl (by kernel_rfl) ?_
          refine x_load1 H 4 g1 6 #[.int .i64 r, .int .i64 s, .int .i64 b, .int .i64 o, .int .i64 c, .int .i64 y, .int .i64 z] 69 (.int .i64 z) (by kernel_rfl) (by kernel_rfl) (by kernel_rfl) rfl (by kernel_rfl) ?_
          refine x_val (.bool (decide (z ≤ ((k : Nat) : Int)))) (by kernel_rfl) rfl (by kernel_rfl) ?_
          refine x_val (.bool (decide (z ≤ ((k : Nat) : Int)))) (by kernel_rfl) rfl (by kernel_rfl) ?_
          rw [h16]
          refine x_val (.int .i64 0) (by kernel_rfl) rfl (by kernel_rfl) ?_
          refine x_val (.bool false) (by kernel_rfl) rfl (by kernel_rfl) ?_
          refine x_val (.bool false) (by kernel_rfl) rfl (by kernel_rfl) ?_
          refine x_val (.int .i64 52) (by kernel_rfl) rfl (by kernel_rfl) ?_
          refine x_val (.bool false) (by kernel_rfl) rfl (by kernel_rfl) ?_
          refine x_val (.bool false) (by kernel_rfl) rfl (by kernel_rfl) ?_
          refine x_val (.bool false) (by kernel_rfl) rfl (by kernel_rfl) ?_
          refine x_val (.bool false) (by kernel_rfl) rfl (by kernel_rfl) ?_
          refine x_nil ?_
          refine x_frame' { tmps := #[.agg #[.int .i64 r, .int .i64 s, .int .i64 b, .int .i64 o, .int .i64 c, .int .i64 y, .int .i64 z], .int .i64 x, .pointer (some ⟨g1, 0, none⟩), undef, u4, .pointer (some ⟨p, 0, none⟩), .int .i64 0, .int .i64 ((k : Nat) : Int), .int .i64 0, .int .i64 52, undef, undef, undef, .bool true, .bool false, .tuple #[.pointer (some ⟨p, 0, none⟩), .int .i64 0], .agg #[.int .i64 r, .int .i64 s, .int .i64 b, .int .i64 o, .int .i64 c, .int .i64 y, .int .i64 z], .tuple #[.pointer (some ⟨p, 0, none⟩), .int .i64 0], .pointer (some ⟨p, 0, none⟩), .int .i64 0, .int .i64 0, .bool false, .bool false, .pointer (some ⟨p, 0, none⟩), .bool false, .bool false, .bool false, .int .i64 x, .bool false, .bool false, .bool false, .int .i64 x, .bool false, .bool false, undef, undef, undef, undef, undef, undef, undef, undef, undef, undef, .pointer (some ⟨g1, 6, none⟩), .int .i64 z, .int .i64 x, .int .i64 (z + x), .int .i64 ((k : Nat) : Int), .bool true, .int .i64 ((k : Nat) : Int), .tuple #[.int .i64 0, .int .i64 52], .pointer (some ⟨p, 0, none⟩), .tuple #[.int .i64 0, .int .i64 52], .int .i64 0, .int .i64 52, .int .i64 ((k : Nat) : Int), .pointer (some ⟨g1, 6, none⟩), .int .i64 z, .bool false, .bool false, undef, undef, undef, undef, undef, undef, undef, undef, undef, undef, undef, undef, undef, undef, undef, undef, .bool false, .bool false, .int .i64 ((k : Nat) : Int), .pointer (some ⟨g1, 6, none⟩), .int .i64 z, .bool true, .bool true, .int .i64 0, .bool false, .bool false, .int .i64 52, .bool false, .bool false, .bool false, .bool false, u92, undef, undef, undef, undef, undef, undef, undef, undef, undef, undef, undef, undef, undef, undef, undef, undef, undef, undef, undef, undef, undef, undef, undef, undef, undef, undef, undef, undef, undef, undef, undef, undef, undef, undef, undef, undef, undef, undef, undef, undef, undef, undef, undef, undef, undef, undef, undef], defers := [] } (by kernel_rfl) ?_
          refine x_then ?_
          refine x_f (by kernel_rfl) ?_
          refine x_skipc ?_
          refine x_blk ?_
          refine x_then ?_
          refine x_region ?_
          refine x_ar (((k : Nat) : Int) + 1) ⟨by omega, by omega⟩ (by kernel_rfl) rfl (by kernel_rfl) ?_
          refine x_val (.int .i64 (((k : Nat) : Int) + 1)) (by kernel_rfl) rfl (by kernel_rfl) ?_
          refine x_nil ?_
          refine x_then ?_
          exact ⟨(k + 1, pu), (by dsimp only; omega), u4, (.int .i64 ((k : Nat) : Int)), (.int .i64 0), (.int .i64 52), (.bool true), (.int .i64 ((k : Nat) : Int)), (.tuple #[.int .i64 0, .int .i64 52]), (.pointer (some ⟨p, 0, none⟩)), (.tuple #[.int .i64 0, .int .i64 52]), (.int .i64 0), (.int .i64 52), (.int .i64 ((k : Nat) : Int)), (.pointer (some ⟨g1, 6, none⟩)), (.int .i64 z), (.bool false), (.bool false), undef, undef, undef, undef, undef, undef, undef, undef, undef, undef, undef, undef, undef, undef, undef, undef, (.bool false), (.bool false), (.int .i64 ((k : Nat) : Int)), (.pointer (some ⟨g1, 6, none⟩)), (.int .i64 z), (.bool true), (.bool true), (.int .i64 0), (.bool false), (.bool false), (.int .i64 52), (.bool false), (.bool false), (.bool false), (.bool false), (.int .i64 (((k : Nat) : Int) + 1)), (by kernel_rfl), H, (by omega), (by omega)⟩
    · skip
      have h2p := of_decide_eq_true h2
      refine x_t (by kernel_rfl) ?_
      refine x_seq ?_
      refine x_region ?_
      refine x_val (.pointer (some ⟨p, 0, none⟩)) (by kernel_rfl) rfl (by kernel_rfl) ?_
      refine x_val (.bool false) (by kernel_rfl) rfl (by kernel_rfl) ?_
      refine x_val (.bool false) (by kernel_rfl) rfl (by kernel_rfl) ?_
      refine x_val (.int .i64 x) (by kernel_rfl) rfl (by kernel_rfl) ?_
      refine x_val (.bool (decide (x < 0))) (by kernel_rfl) rfl (by kernel_rfl) ?_
      refine x_val (.bool (decide (x < 0))) (by kernel_rfl) rfl (by kernel_rfl) ?_
      refine x_val (.bool (decide (x < 0))) (by kernel_rfl) rfl (by kernel_rfl) ?_
      rw [h1]
      refine x_val (.int .i64 x) (by kernel_rfl) rfl (by kernel_rfl) ?_
      refine x_val (.bool (decide (100 < x))) (by kernel_rfl) rfl (by kernel_rfl) ?_
      refine x_val (.bool (decide (100 < x))) (by kernel_rfl) rfl (by kernel_rfl) ?_
      refine x_val (.bool (decide (100 < x))) (by kernel_rfl) rfl (by kernel_rfl) ?_
      refine x_nil ?_
      refine x_then ?_
      refine x_retc ?_
      refine x_then_ret ?_
      refine x_ret (.bool (decide (100 < x))) (by kernel_rfl) (by kernel_rfl) ?_
      exact ⟨by rw [h2], H.below⟩
  · skip
    have h1p := of_decide_eq_true h1
    refine x_skip (by kernel_rfl) ?_
    refine x_skip (by kernel_rfl) ?_
    refine x_val (.bool true) (by kernel_rfl) rfl (by kernel_rfl) ?_
    refine x_nil ?_
    refine x_frame' { tmps := #[.agg #[.int .i64 r, .int .i64 s, .int .i64 b, .int .i64 o, .int .i64 c, .int .i64 y, .int .i64 z], .int .i64 x, .pointer (some ⟨g1, 0, none⟩), undef, .bool false, .pointer (some ⟨p, 0, none⟩), .int .i64 0, undef, undef, undef, undef, undef, undef, .bool true, .bool false, .tuple #[.pointer (some ⟨p, 0, none⟩), .int .i64 0], .agg #[.int .i64 r, .int .i64 s, .int .i64 b, .int .i64 o, .int .i64 c, .int .i64 y, .int .i64 z], .tuple #[.pointer (some ⟨p, 0, none⟩), .int .i64 0], .pointer (some ⟨p, 0, none⟩), .int .i64 0, .int .i64 0, .bool false, .bool false, .pointer (some ⟨p, 0, none⟩), .bool false, .bool false, .bool false, .int .i64 x, .bool true, .bool true, .bool true, undef, undef, .bool true, undef, undef, undef, undef, undef, undef, undef, undef, undef, undef, undef, undef, undef, undef, undef, undef, undef, undef, undef, undef, undef, undef, undef, undef, undef, undef, undef, undef, undef, undef, undef, undef, undef, undef, undef, undef, undef, undef, undef, undef, undef, undef, undef, undef, undef, undef, undef, undef, undef, undef, undef, undef, undef, undef, undef, undef, undef, undef, undef, undef, undef, undef, undef, undef, undef, undef, undef, undef, undef, undef, undef, undef, undef, undef, undef, undef, undef, undef, undef, undef, undef, undef, undef, undef, undef, undef, undef, undef, undef, undef, undef, undef, undef, undef, undef, undef, undef, undef, undef, undef, undef, undef, undef, undef, undef, undef], defers := [] } (by kernel_rfl) ?_
    refine x_then ?_
    refine x_t (by kernel_rfl) ?_
    refine x_seq ?_
    refine x_region ?_
    refine x_val (.pointer (some ⟨p, 0, none⟩)) (by kernel_rfl) rfl (by kernel_rfl) ?_
    refine x_val (.bool false) (by kernel_rfl) rfl (by kernel_rfl) ?_
    refine x_val (.bool false) (by kernel_rfl) rfl (by kernel_rfl) ?_
    refine x_val (.int .i64 x) (by kernel_rfl) rfl (by kernel_rfl) ?_
    refine x_val (.bool (decide (x < 0))) (by kernel_rfl) rfl (by kernel_rfl) ?_
    refine x_val (.bool (decide (x < 0))) (by kernel_rfl) rfl (by kernel_rfl) ?_
    refine x_val (.bool (decide (x < 0))) (by kernel_rfl) rfl (by kernel_rfl) ?_
    rw [h1]
    refine x_skip (by kernel_rfl) ?_
    refine x_skip (by kernel_rfl) ?_
    refine x_val (.bool true) (by kernel_rfl) rfl (by kernel_rfl) ?_
    refine x_val (.bool true) (by kernel_rfl) rfl (by kernel_rfl) ?_
    refine x_nil ?_
    refine x_then ?_
    refine x_retc ?_
    refine x_then_ret ?_
    refine x_ret (.bool true) (by kernel_rfl) (by kernel_rfl) ?_
    exact ⟨rfl, H.below⟩

end Go.Proofs.Ytgpalgbdacoagaa
