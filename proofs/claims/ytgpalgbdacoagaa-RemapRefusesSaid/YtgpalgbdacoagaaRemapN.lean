/- The law RemapRefuses, walked (what is looked at). -/
import Derived.Test.YtgpalgbdacoagaaRemapL
import Derived.Test.YtgpalgbdacoagaaRemapD
namespace Go.Proofs.Ytgpalgbdacoagaa
open Go Go.RowKit
set_option linter.unusedVariables false
set_option linter.unusedSimpArgs false

set_option maxRecDepth 100000 in
set_option maxHeartbeats 4000000 in
theorem refuse_in {r s b o c y z : Int} {pg sn ns : Nat} (hL : Lay r s b o c y z pg sn ns) (aL aD aS : Option Addr) (nl cL nd cD nq cS : Nat) {pn rn : Nat} (lL lD lS : List Int) (hxS : ∀ i, i < nq → -9223372036854775808 ≤ lS.getD i 0 ∧ lS.getD i 0 ≤ 9223372036854775807) (hnd : nd ≤ 9223372036854775807) (hf : fitsB nl sn nq r z s ((pn : Nat) : Int) ((rn : Nat) : Int) = true) (w0 : World) (hIL : IntsAt w0 aL nl lL) (hID : IntsAt w0 aD nd lD) (hIS : IntsAt w0 aS nq lS) :
    Calls Try.prog 12 #[.agg #[.int .i64 r, .int .i64 s, .int .i64 b, .int .i64 o, .int .i64 c, .int .i64 y, .int .i64 z], .agg #[.slice aL nl cL, .slice aD nd cD, .slice aS nq cS, .int .i64 ((pn : Nat) : Int), .int .i64 ((rn : Nat) : Int)]] w0 fun e w' => e = .returned (.bool true) ∧ Below w0.heap.size w0 w' := by
  refine x_enter Try.func12 rfl #[.agg #[.int .i64 r, .int .i64 s, .int .i64 b, .int .i64 o, .int .i64 c, .int .i64 y, .int .i64 z], .agg #[.slice aL nl cL, .slice aD nd cD, .slice aS nq cS, .int .i64 ((pn : Nat) : Int), .int .i64 ((rn : Nat) : Int)], undef, undef, undef, undef, undef, undef, undef, undef, undef, undef, undef, undef, undef, undef, undef, undef, undef, undef, undef, undef, undef, undef, undef, undef, undef, undef, undef, undef, undef, undef, undef, undef, undef, undef, undef, undef, undef, undef, undef, undef, undef, undef, undef, undef, undef, undef, undef, undef, undef, undef, undef, undef, undef, undef, undef, undef, undef, undef, undef, undef, undef, undef, undef, undef, undef, undef, undef, undef, undef, undef, undef, undef, undef, undef, undef, undef, undef, undef, undef, undef, undef, undef, undef, undef, undef, undef, undef, undef, undef, undef, undef, undef, undef, undef, undef, undef, undef, undef, undef, undef, undef, undef, undef, undef, undef, undef, undef, undef, undef, undef, undef, undef, undef, undef, undef, undef, undef, undef, undef, undef, undef, undef, undef, undef, undef, undef, undef, undef, undef, undef, undef, undef, undef, undef, undef, undef, undef, undef, undef, undef, undef, undef, undef, undef, undef, undef, undef, undef, undef, undef, undef, undef, undef, undef, undef, undef, undef, undef, undef, undef, undef, undef, undef, undef, undef, undef, undef, undef, undef, undef, undef, undef, undef, undef, undef, undef, undef, undef, undef, undef, undef, undef, undef, undef, undef, undef, undef, undef, undef, undef, undef, undef, undef, undef, undef, undef, undef, undef, undef, undef, undef, undef, undef, undef, undef, undef, undef, undef, undef, undef, undef, undef, undef, undef, undef, undef, undef, undef, undef, undef, undef, undef] (by kernel_rfl) ?_
  have H := Hs.nil w0
  have hok := hL.ok
  obtain ⟨-, r1, r8, s0, s8, b1, b2, o1, o2, c1, c2, y0, y4, z0, z2, hpg, hsn, hns, sn1, pg2, ln0, ln2⟩ := id hL
  have r1' := r1
  obtain ⟨f1, f2, ⟨f3, f4⟩, f5, f6⟩ := fitsB_parts hf
  have fl1 := f1
  have fl2 := f2
  have q1 : decide (((nl : Nat) : Int) = ((sn : Nat) : Int)) = true := by simp; omega
  have q2 : decide (((nq : Nat) : Int) = r) = true := by simp; omega
  have q3 : decide (0 ≤ ((pn : Nat) : Int)) = true := decide_eq_true (Int.natCast_nonneg _)
  have q4 : decide (((pn : Nat) : Int) ≤ z) = true := by simp; omega
  have q5 : decide (0 ≤ ((rn : Nat) : Int)) = true := decide_eq_true (Int.natCast_nonneg _)
  have q6 : decide (((rn : Nat) : Int) ≤ s) = true := by simp; omega
  refine x_seq ?_
  refine x_region ?_
  refine x_box H #[.int .i64 r, .int .i64 s, .int .i64 b, .int .i64 o, .int .i64 c, .int .i64 y, .int .i64 z] 69 (by kernel_rfl) rfl (by kernel_rfl) ?_
  clear H
  intro v1 g1 H
  refine x_box H #[.slice aL nl cL, .slice aD nd cD, .slice aS nq cS, .int .i64 ((pn : Nat) : Int), .int .i64 ((rn : Nat) : Int)] 142 (by kernel_rfl) rfl (by kernel_rfl) ?_
  clear H
  intro v2 g2 H
  refine x_val (.bool false) (by kernel_rfl) rfl (by kernel_rfl) ?_
  refine x_nil ?_
  refine x_then ?_
  refine x_seq ?_
  refine x_seq ?_
  refine x_region ?_
  refine x_callB (.bool true) H (by kernel_rfl) rfl (by kernel_rfl) (anchor19 _) ?_
  clear H
  intro v3 H
  refine x_val (.bool false) (by kernel_rfl) rfl (by kernel_rfl) ?_
  refine x_nil ?_
  refine x_then ?_
  refine x_f (by kernel_rfl) ?_
  refine x_skipc ?_
  refine x_then ?_
  refine x_seq ?_
  refine x_seq ?_
  refine x_region ?_
  refine x_loadn (t := 69) H 1 g1 0 #[.int .i64 r, .int .i64 s, .int .i64 b, .int .i64 o, .int .i64 c, .int .i64 y, .int .i64 z] 69 [.int .i64 r, .int .i64 s, .int .i64 b, .int .i64 o, .int .i64 c, .int .i64 y, .int .i64 z] (by kernel_rfl) (by kernel_rfl) (by kernel_rfl) rfl (by kernel_rfl) (by kernel_rfl) ?_
  refine x_call (by kernel_rfl) rfl (by kernel_rfl) (small_any r s b o c y z (by omega) (by omega) (by omega) (by omega) _) ?_
  rintro _ v4 ⟨tS, rfl, hB⟩
  refine ⟨_, rfl, ?_⟩
  replace H := H.via hB
  clear hB
  refine x_val (.bool (!tS)) (by kernel_rfl) rfl (by kernel_rfl) ?_
  refine x_val (.bool (!tS)) (by kernel_rfl) rfl (by kernel_rfl) ?_
  cases h1 : tS
  · skip
    refine x_skip (by kernel_rfl) ?_
    refine x_skip (by kernel_rfl) ?_
    refine x_skip (by kernel_rfl) ?_
    refine x_skip (by kernel_rfl) ?_
    refine x_val (.bool true) (by kernel_rfl) rfl (by kernel_rfl) ?_
    refine x_val (.bool true) (by kernel_rfl) rfl (by kernel_rfl) ?_
    refine x_skip (by kernel_rfl) ?_
    refine x_skip (by kernel_rfl) ?_
    refine x_skip (by kernel_rfl) ?_
    refine x_skip (by kernel_rfl) ?_
    refine x_val (.bool true) (by kernel_rfl) rfl (by kernel_rfl) ?_
    refine x_val (.bool true) (by kernel_rfl) rfl (by kernel_rfl) ?_
    refine x_skip (by kernel_rfl) ?_
    refine x_skip (by kernel_rfl) ?_
    refine x_skip (by kernel_rfl) ?_
    refine x_skip (by kernel_rfl) ?_
    refine x_val (.bool true) (by kernel_rfl) rfl (by kernel_rfl) ?_
    refine x_nil ?_
    refine x_then ?_
    refine x_t (by kernel_rfl) ?_
    refine x_seq ?_
    refine x_region ?_
    refine x_val (.bool true) (by kernel_rfl) rfl (by kernel_rfl) ?_
    refine x_nil ?_
    refine x_then ?_
    refine x_retc ?_
    refine x_then_ret ?_
    refine x_ret (.bool true) (by kernel_rfl) (by kernel_rfl) ?_
    exact ⟨rfl, H.below⟩
  · skip
    refine x_val (.pointer (some ⟨g2, 0, none⟩)) (by kernel_rfl) rfl (by kernel_rfl) ?_
    refine x_load1 H 0 g2 0 #[.slice aL nl cL, .slice aD nd cD, .slice aS nq cS, .int .i64 ((pn : Nat) : Int), .int .i64 ((rn : Nat) : Int)] 142 (.slice aL nl cL) (by kernel_rfl) (by kernel_rfl) (by kernel_rfl) rfl (by kernel_rfl) ?_
    refine x_val (.int .i64 ((nl : Nat) : Int)) (by kernel_rfl) rfl (by kernel_rfl) ?_
    refine x_val (.bool (decide (300 < ((nl : Nat) : Int)))) (by kernel_rfl) rfl (by kernel_rfl) ?_
    refine x_val (.bool (decide (300 < ((nl : Nat) : Int)))) (by kernel_rfl) rfl (by kernel_rfl) ?_
    refine x_val (.bool (decide (300 < ((nl : Nat) : Int)))) (by kernel_rfl) rfl (by kernel_rfl) ?_
    cases h2 : decide (300 < ((nl : Nat) : Int))
    · skip
      have h2p := of_decide_eq_false h2
      refine x_val (.pointer (some ⟨g2, 1, none⟩)) (by kernel_rfl) rfl (by kernel_rfl) ?_
      refine x_load1 H 0 g2 1 #[.slice aL nl cL, .slice aD nd cD, .slice aS nq cS, .int .i64 ((pn : Nat) : Int), .int .i64 ((rn : Nat) : Int)] 142 (.slice aD nd cD) (by kernel_rfl) (by kernel_rfl) (by kernel_rfl) rfl (by kernel_rfl) ?_
      refine x_val (.int .i64 ((nd : Nat) : Int)) (by kernel_rfl) rfl (by kernel_rfl) ?_
      refine x_val (.bool (decide (300 < ((nd : Nat) : Int)))) (by kernel_rfl) rfl (by kernel_rfl) ?_
      refine x_val (.bool (decide (300 < ((nd : Nat) : Int)))) (by kernel_rfl) rfl (by kernel_rfl) ?_
      refine x_val (.bool (decide (300 < ((nd : Nat) : Int)))) (by kernel_rfl) rfl (by kernel_rfl) ?_
      cases h3 : decide (300 < ((nd : Nat) : Int))
      · skip
        have h3p := of_decide_eq_false h3
        refine x_val (.pointer (some ⟨g2, 2, none⟩)) (by kernel_rfl) rfl (by kernel_rfl) ?_
        refine x_load1 H 0 g2 2 #[.slice aL nl cL, .slice aD nd cD, .slice aS nq cS, .int .i64 ((pn : Nat) : Int), .int .i64 ((rn : Nat) : Int)] 142 (.slice aS nq cS) (by kernel_rfl) (by kernel_rfl) (by kernel_rfl) rfl (by kernel_rfl) ?_
        refine x_val (.int .i64 ((nq : Nat) : Int)) (by kernel_rfl) rfl (by kernel_rfl) ?_
        refine x_val (.bool (decide (300 < ((nq : Nat) : Int)))) (by kernel_rfl) rfl (by kernel_rfl) ?_
        refine x_val (.bool (decide (300 < ((nq : Nat) : Int)))) (by kernel_rfl) rfl (by kernel_rfl) ?_
        refine x_nil ?_
        refine x_then ?_
        cases h4 : decide (300 < ((nq : Nat) : Int))
        · skip
          have h4p := of_decide_eq_false h4
          refine x_f (by kernel_rfl) ?_
          refine x_skipc ?_
          refine x_then ?_
          refine x_seq ?_
          refine x_region ?_
          refine x_loadn (t := 69) H 1 g1 0 #[.int .i64 r, .int .i64 s, .int .i64 b, .int .i64 o, .int .i64 c, .int .i64 y, .int .i64 z] 69 [.int .i64 r, .int .i64 s, .int .i64 b, .int .i64 o, .int .i64 c, .int .i64 y, .int .i64 z] (by kernel_rfl) (by kernel_rfl) (by kernel_rfl) rfl (by kernel_rfl) (by kernel_rfl) ?_
          refine x_loadn (t := 142) H 0 g2 0 #[.slice aL nl cL, .slice aD nd cD, .slice aS nq cS, .int .i64 ((pn : Nat) : Int), .int .i64 ((rn : Nat) : Int)] 142 [.slice aL nl cL, .slice aD nd cD, .slice aS nq cS, .int .i64 ((pn : Nat) : Int), .int .i64 ((rn : Nat) : Int)] (by kernel_rfl) (by kernel_rfl) (by kernel_rfl) rfl (by kernel_rfl) (by kernel_rfl) ?_
          cases h5 : (okD pg lD nd && okS (((sn : Nat) : Int) + ((pn : Nat) : Int)) (marks pg lD nd) lL nl) && okT r ((rn : Nat) : Int) lS nq
          · skip
            refine x_callB (.tuple #[.pointer none, .int .i64 10]) H (by kernel_rfl) rfl (by kernel_rfl) (Restore_bad hL aL aD aS nl cL nd cD nq cS lL lD lS hxS hnd hf h5 _ (hIL.at H.below) (hID.at H.below) (hIS.at H.below)) ?_
            clear H
            intro v5 H
            refine x_val (.tuple #[.pointer none, .int .i64 10]) (by kernel_rfl) rfl (by kernel_rfl) ?_
            refine x_val (.pointer none) (by kernel_rfl) rfl (by kernel_rfl) ?_
            refine x_val (.int .i64 10) (by kernel_rfl) rfl (by kernel_rfl) ?_
            refine x_val (.pointer none) (by kernel_rfl) rfl (by kernel_rfl) ?_
            refine x_val (.int .i64 10) (by kernel_rfl) rfl (by kernel_rfl) ?_
            refine x_nil ?_
            refine x_frame' { tmps := #[.agg #[.int .i64 r, .int .i64 s, .int .i64 b, .int .i64 o, .int .i64 c, .int .i64 y, .int .i64 z], .agg #[.slice aL nl cL, .slice aD nd cD, .slice aS nq cS, .int .i64 ((pn : Nat) : Int), .int .i64 ((rn : Nat) : Int)], .pointer (some ⟨g1, 0, none⟩), .pointer (some ⟨g2, 0, none⟩), .bool false, .pointer none, .int .i64 10, undef, undef, undef, undef, undef, undef, undef, undef, undef, undef, undef, undef, undef, .bool true, .bool false, .agg #[.int .i64 r, .int .i64 s, .int .i64 b, .int .i64 o, .int .i64 c, .int .i64 y, .int .i64 z], .bool true, .bool false, .bool false, .pointer (some ⟨g2, 0, none⟩), .slice aL nl cL, .int .i64 ((nl : Nat) : Int), .bool false, .bool false, .bool false, .pointer (some ⟨g2, 1, none⟩), .slice aD nd cD, .int .i64 ((nd : Nat) : Int), .bool false, .bool false, .bool false, .pointer (some ⟨g2, 2, none⟩), .slice aS nq cS, .int .i64 ((nq : Nat) : Int), .bool false, .bool false, .tuple #[.pointer none, .int .i64 10], .agg #[.int .i64 r, .int .i64 s, .int .i64 b, .int .i64 o, .int .i64 c, .int .i64 y, .int .i64 z], .agg #[.slice aL nl cL, .slice aD nd cD, .slice aS nq cS, .int .i64 ((pn : Nat) : Int), .int .i64 ((rn : Nat) : Int)], .tuple #[.pointer none, .int .i64 10], .pointer none, .int .i64 10, undef, undef, undef, undef, undef, undef, undef, undef, undef, undef, undef, undef, undef, undef, undef, undef, undef, undef, undef, undef, undef, undef, undef, undef, undef, undef, undef, undef, undef, undef, undef, undef, undef, undef, undef, undef, undef, undef, undef, undef, undef, undef, undef, undef, undef, undef, undef, undef, undef, undef, undef, undef, undef, undef, undef, undef, undef, undef, undef, undef, undef, undef, undef, undef, undef, undef, undef, undef, undef, undef, undef, undef, undef, undef, undef, undef, undef, undef, undef, undef, undef, undef, undef, undef, undef, undef, undef, undef, undef, undef, undef, undef, undef, undef, undef, undef, undef, undef, undef, undef, undef, undef, undef, undef, undef, undef, undef, undef, undef, undef, undef, undef, undef, undef, undef, undef, undef, undef, undef, undef, undef, undef, undef, undef, undef, undef, undef, undef, undef, undef, undef, undef, undef, undef, undef, undef, undef, undef, undef, undef, undef, undef, undef, undef, undef, undef, undef, undef, undef, undef, undef, undef, undef, undef, undef, undef, undef, undef, undef, undef, undef, undef, undef, undef, undef, undef, undef, undef, undef, undef, undef, undef, undef, undef, undef], defers := [] } (by kernel_rfl) ?_
            refine x_then ?_
            refine x_seq ?_
            refine x_seq ?_
            refine x_region ?_
            refine x_loadn (t := 69) H 1 g1 0 #[.int .i64 r, .int .i64 s, .int .i64 b, .int .i64 o, .int .i64 c, .int .i64 y, .int .i64 z] 69 [.int .i64 r, .int .i64 s, .int .i64 b, .int .i64 o, .int .i64 c, .int .i64 y, .int .i64 z] (by kernel_rfl) (by kernel_rfl) (by kernel_rfl) rfl (by kernel_rfl) (by kernel_rfl) ?_
            refine x_callB (.bool (layoutOk r s b o c y z)) H (by kernel_rfl) rfl (by kernel_rfl) (lRight_any _ _ _ _ _ _ _ (by omega) (by omega) (by omega) (by omega) _) ?_
            clear H
            intro v6 H
            refine x_val (.bool (!(layoutOk r s b o c y z))) (by kernel_rfl) rfl (by kernel_rfl) ?_
            refine x_nil ?_
            refine x_then ?_
            rw [hok]
            refine x_f (by kernel_rfl) ?_
            refine x_skipc ?_
            refine x_then ?_
            refine x_seq ?_
            refine x_region ?_
            refine x_val (.pointer (some ⟨g1, 0, none⟩)) (by kernel_rfl) rfl (by kernel_rfl) ?_
            refine x_loadn (t := 67) H 1 g1 0 #[.int .i64 r, .int .i64 s, .int .i64 b, .int .i64 o, .int .i64 c, .int .i64 y, .int .i64 z] 69 [.int .i64 r, .int .i64 s, .int .i64 b, .int .i64 o, .int .i64 c] (by kernel_rfl) (by kernel_rfl) (by kernel_rfl) rfl (by kernel_rfl) (by kernel_rfl) ?_
            refine x_box H #[.int .i64 0, .int .i64 0, .int .i64 0, .int .i64 0, .int .i64 0] 67 (by kernel_rfl) rfl (by kernel_rfl) ?_
            clear H
            intro v7 g3 H
            refine x_store (t := 67) (v := .agg #[.int .i64 r, .int .i64 s, .int .i64 b, .int .i64 o, .int .i64 c]) H 0 g3 0 #[.int .i64 0, .int .i64 0, .int .i64 0, .int .i64 0, .int .i64 0] #[.int .i64 r, .int .i64 s, .int .i64 b, .int .i64 o, .int .i64 c] 67 [.int .i64 r, .int .i64 s, .int .i64 b, .int .i64 o, .int .i64 c] [.blk g3 #[.int .i64 r, .int .i64 s, .int .i64 b, .int .i64 o, .int .i64 c] 67, .blk g2 #[.slice aL nl cL, .slice aD nd cD, .slice aS nq cS, .int .i64 ((pn : Nat) : Int), .int .i64 ((rn : Nat) : Int)] 142, .blk g1 #[.int .i64 r, .int .i64 s, .int .i64 b, .int .i64 o, .int .i64 c, .int .i64 y, .int .i64 z] 69] (by kernel_rfl) rfl (by kernel_rfl) (by kernel_rfl) (by kernel_rfl) (by kernel_rfl) (by kernel_rfl) (by kernel_rfl) (by kernel_rfl) (by kernel_rfl) ?_
            clear H
            intro v8 H
            refine x_nil ?_
            refine x_then ?_
            refine x_seq ?_
            refine x_region_whole (fun w' => Hs [] w0 w' [.blk g3 #[.int .i64 r, .int .i64 s, .int .i64 b, .int .i64 o, .int .i64 c] 67, .blk g2 #[.slice aL nl cL, .slice aD nd cD, .slice aS nq cS, .int .i64 ((pn : Nat) : Int), .int .i64 ((rn : Nat) : Int)] 142, .blk g1 #[.int .i64 r, .int .i64 s, .int .i64 b, .int .i64 o, .int .i64 c, .int .i64 y, .int .i64 z] 69]) (by kernel_rfl) (by kernel_rfl) (by kernel_rfl) H.drew ?_
            refine q_val (.pointer (some ⟨g2, 0, none⟩)) (by kernel_rfl) (fun _ => by kernel_rfl) ?_
            refine q_load1 1 g2 0 #[.slice aL nl cL, .slice aD nd cD, .slice aS nq cS, .int .i64 ((pn : Nat) : Int), .int .i64 ((rn : Nat) : Int)] 142 (.slice aL nl cL) (by kernel_rfl) (by kernel_rfl) (by kernel_rfl) (fun _ => by kernel_rfl) ?_
            refine q_val (.int .i64 ((nl : Nat) : Int)) (by kernel_rfl) (fun _ => by kernel_rfl) ?_
            refine q_loadn (t := 69) 2 g1 0 #[.int .i64 r, .int .i64 s, .int .i64 b, .int .i64 o, .int .i64 c, .int .i64 y, .int .i64 z] 69 [.int .i64 r, .int .i64 s, .int .i64 b, .int .i64 o, .int .i64 c, .int .i64 y, .int .i64 z] (by kernel_rfl) (by kernel_rfl) (by kernel_rfl) (by kernel_rfl) (by kernel_rfl) ?_
            refine q_callB (.int .i64 ((sn : Nat) : Int)) (by kernel_rfl) (fun _ => by kernel_rfl) (fun _ => (seen_of hL _)) ?_
            refine q_val (.bool (decide (((nl : Nat) : Int) = ((sn : Nat) : Int)))) (by kernel_rfl) (fun _ => by kernel_rfl) ?_
            refine q_val (.bool (decide (((nl : Nat) : Int) = ((sn : Nat) : Int)))) (by kernel_rfl) (fun _ => by kernel_rfl) ?_
            rw [q1]
            refine q_val (.pointer (some ⟨g2, 2, none⟩)) (by kernel_rfl) (fun _ => by kernel_rfl) ?_
            refine q_load1 1 g2 2 #[.slice aL nl cL, .slice aD nd cD, .slice aS nq cS, .int .i64 ((pn : Nat) : Int), .int .i64 ((rn : Nat) : Int)] 142 (.slice aS nq cS) (by kernel_rfl) (by kernel_rfl) (by kernel_rfl) (fun _ => by kernel_rfl) ?_
            refine q_val (.int .i64 ((nq : Nat) : Int)) (by kernel_rfl) (fun _ => by kernel_rfl) ?_
            refine q_val (.pointer (some ⟨g3, 0, none⟩)) (by kernel_rfl) (fun _ => by kernel_rfl) ?_
            refine q_load1 0 g3 0 #[.int .i64 r, .int .i64 s, .int .i64 b, .int .i64 o, .int .i64 c] 67 (.int .i64 r) (by kernel_rfl) (by kernel_rfl) (by kernel_rfl) (fun _ => by kernel_rfl) ?_
            refine q_val (.bool (decide (((nq : Nat) : Int) = r))) (by kernel_rfl) (fun _ => by kernel_rfl) ?_
            refine q_val (.bool (decide (((nq : Nat) : Int) = r))) (by kernel_rfl) (fun _ => by kernel_rfl) ?_
            refine q_val (.bool (decide (((nq : Nat) : Int) = r))) (by kernel_rfl) (fun _ => by kernel_rfl) ?_
            rw [q2]
            refine q_val (.pointer (some ⟨g2, 3, none⟩)) (by kernel_rfl) (fun _ => by kernel_rfl) ?_
            refine q_load1 1 g2 3 #[.slice aL nl cL, .slice aD nd cD, .slice aS nq cS, .int .i64 ((pn : Nat) : Int), .int .i64 ((rn : Nat) : Int)] 142 (.int .i64 ((pn : Nat) : Int)) (by kernel_rfl) (by kernel_rfl) (by kernel_rfl) (fun _ => by kernel_rfl) ?_
            refine q_val (.bool (decide (0 ≤ ((pn : Nat) : Int)))) (by kernel_rfl) (fun _ => by kernel_rfl) ?_
            refine q_val (.bool (decide (0 ≤ ((pn : Nat) : Int)))) (by kernel_rfl) (fun _ => by kernel_rfl) ?_
            refine q_val (.bool (decide (0 ≤ ((pn : Nat) : Int)))) (by kernel_rfl) (fun _ => by kernel_rfl) ?_
            rw [q3]
            refine q_val (.pointer (some ⟨g2, 3, none⟩)) (by kernel_rfl) (fun _ => by kernel_rfl) ?_
            refine q_load1 1 g2 3 #[.slice aL nl cL, .slice aD nd cD, .slice aS nq cS, .int .i64 ((pn : Nat) : Int), .int .i64 ((rn : Nat) : Int)] 142 (.int .i64 ((pn : Nat) : Int)) (by kernel_rfl) (by kernel_rfl) (by kernel_rfl) (fun _ => by kernel_rfl) ?_
            refine q_val (.pointer (some ⟨g1, 6, none⟩)) (by kernel_rfl) (fun _ => by kernel_rfl) ?_
            refine q_load1 2 g1 6 #[.int .i64 r, .int .i64 s, .int .i64 b, .int .i64 o, .int .i64 c, .int .i64 y, .int .i64 z] 69 (.int .i64 z) (by kernel_rfl) (by kernel_rfl) (by kernel_rfl) (fun _ => by kernel_rfl) ?_
            refine q_val (.bool (decide (((pn : Nat) : Int) ≤ z))) (by kernel_rfl) (fun _ => by kernel_rfl) ?_
            refine q_val (.bool (decide (((pn : Nat) : Int) ≤ z))) (by kernel_rfl) (fun _ => by kernel_rfl) ?_
            refine q_val (.bool (decide (((pn : Nat) : Int) ≤ z))) (by kernel_rfl) (fun _ => by kernel_rfl) ?_
            rw [q4]
            refine q_val (.pointer (some ⟨g2, 4, none⟩)) (by kernel_rfl) (fun _ => by kernel_rfl) ?_
            refine q_load1 1 g2 4 #[.slice aL nl cL, .slice aD nd cD, .slice aS nq cS, .int .i64 ((pn : Nat) : Int), .int .i64 ((rn : Nat) : Int)] 142 (.int .i64 ((rn : Nat) : Int)) (by kernel_rfl) (by kernel_rfl) (by kernel_rfl) (fun _ => by kernel_rfl) ?_
            refine q_val (.bool (decide (0 ≤ ((rn : Nat) : Int)))) (by kernel_rfl) (fun _ => by kernel_rfl) ?_
            refine q_val (.bool (decide (0 ≤ ((rn : Nat) : Int)))) (by kernel_rfl) (fun _ => by kernel_rfl) ?_
            refine q_val (.bool (decide (0 ≤ ((rn : Nat) : Int)))) (by kernel_rfl) (fun _ => by kernel_rfl) ?_
            rw [q5]
            refine q_val (.pointer (some ⟨g2, 4, none⟩)) (by kernel_rfl) (fun _ => by kernel_rfl) ?_
            refine q_load1 1 g2 4 #[.slice aL nl cL, .slice aD nd cD, .slice aS nq cS, .int .i64 ((pn : Nat) : Int), .int .i64 ((rn : Nat) : Int)] 142 (.int .i64 ((rn : Nat) : Int)) (by kernel_rfl) (by kernel_rfl) (by kernel_rfl) (fun _ => by kernel_rfl) ?_
            refine q_val (.pointer (some ⟨g3, 1, none⟩)) (by kernel_rfl) (fun _ => by kernel_rfl) ?_
            refine q_load1 0 g3 1 #[.int .i64 r, .int .i64 s, .int .i64 b, .int .i64 o, .int .i64 c] 67 (.int .i64 s) (by kernel_rfl) (by kernel_rfl) (by kernel_rfl) (fun _ => by kernel_rfl) ?_
            refine q_val (.bool (decide (((rn : Nat) : Int) ≤ s))) (by kernel_rfl) (fun _ => by kernel_rfl) ?_
            rw [q6]
            refine q_val (.bool true) (by kernel_rfl) (fun _ => by kernel_rfl) ?_
            refine q_val (.bool true) (by kernel_rfl) (fun _ => by kernel_rfl) ?_
            refine q_nil ?_
            clear H
            intro v9 H
            refine x_frame' { tmps := #[.agg #[.int .i64 r, .int .i64 s, .int .i64 b, .int .i64 o, .int .i64 c, .int .i64 y, .int .i64 z], .agg #[.slice aL nl cL, .slice aD nd cD, .slice aS nq cS, .int .i64 ((pn : Nat) : Int), .int .i64 ((rn : Nat) : Int)], .pointer (some ⟨g1, 0, none⟩), .pointer (some ⟨g2, 0, none⟩), .bool false, .pointer none, .int .i64 10, .pointer (some ⟨g3, 0, none⟩), .bool true, undef, undef, undef, undef, undef, undef, undef, undef, undef, undef, undef, .bool true, .bool false, .agg #[.int .i64 r, .int .i64 s, .int .i64 b, .int .i64 o, .int .i64 c, .int .i64 y, .int .i64 z], .bool true, .bool false, .bool false, .pointer (some ⟨g2, 0, none⟩), .slice aL nl cL, .int .i64 ((nl : Nat) : Int), .bool false, .bool false, .bool false, .pointer (some ⟨g2, 1, none⟩), .slice aD nd cD, .int .i64 ((nd : Nat) : Int), .bool false, .bool false, .bool false, .pointer (some ⟨g2, 2, none⟩), .slice aS nq cS, .int .i64 ((nq : Nat) : Int), .bool false, .bool false, .tuple #[.pointer none, .int .i64 10], .agg #[.int .i64 r, .int .i64 s, .int .i64 b, .int .i64 o, .int .i64 c, .int .i64 y, .int .i64 z], .agg #[.slice aL nl cL, .slice aD nd cD, .slice aS nq cS, .int .i64 ((pn : Nat) : Int), .int .i64 ((rn : Nat) : Int)], .tuple #[.pointer none, .int .i64 10], .pointer none, .int .i64 10, .agg #[.int .i64 r, .int .i64 s, .int .i64 b, .int .i64 o, .int .i64 c, .int .i64 y, .int .i64 z], .bool true, .bool false, undef, undef, undef, undef, undef, undef, .pointer (some ⟨g1, 0, none⟩), .agg #[.int .i64 r, .int .i64 s, .int .i64 b, .int .i64 o, .int .i64 c], .pointer (some ⟨g2, 0, none⟩), .slice aL nl cL, .int .i64 ((nl : Nat) : Int), .agg #[.int .i64 r, .int .i64 s, .int .i64 b, .int .i64 o, .int .i64 c, .int .i64 y, .int .i64 z], .int .i64 ((sn : Nat) : Int), .bool true, .bool true, .pointer (some ⟨g2, 2, none⟩), .slice aS nq cS, .int .i64 ((nq : Nat) : Int), .pointer (some ⟨g3, 0, none⟩), .int .i64 r, .bool true, .bool true, .bool true, .pointer (some ⟨g2, 3, none⟩), .int .i64 ((pn : Nat) : Int), .bool true, .bool true, .bool true, .pointer (some ⟨g2, 3, none⟩), .int .i64 ((pn : Nat) : Int), .pointer (some ⟨g1, 6, none⟩), .int .i64 z, .bool true, .bool true, .bool true, .pointer (some ⟨g2, 4, none⟩), .int .i64 ((rn : Nat) : Int), .bool true, .bool true, .bool true, .pointer (some ⟨g2, 4, none⟩), .int .i64 ((rn : Nat) : Int), .pointer (some ⟨g3, 1, none⟩), .int .i64 s, .bool true, .bool true, undef, undef, undef, undef, undef, undef, undef, undef, undef, undef, undef, undef, undef, undef, undef, undef, undef, undef, undef, undef, undef, undef, undef, undef, undef, undef, undef, undef, undef, undef, undef, undef, undef, undef, undef, undef, undef, undef, undef, undef, undef, undef, undef, undef, undef, undef, undef, undef, undef, undef, undef, undef, undef, undef, undef, undef, undef, undef, undef, undef, undef, undef, undef, undef, undef, undef, undef, undef, undef, undef, undef, undef, undef, undef, undef, undef, undef, undef, undef, undef, undef, undef, undef, undef, undef, undef, undef, undef, undef, undef, undef, undef, undef, undef, undef, undef, undef, undef, undef, undef, undef, undef, undef, undef, undef, undef, undef, undef, undef, undef, undef, undef, undef, undef, undef, undef, undef, undef, undef, undef, undef, undef, undef, undef, undef, undef], defers := [] } (by kernel_rfl) ?_
            refine x_then ?_
            refine x_seq ?_
            refine x_region ?_
            refine x_val (.int .i64 (-1)) (by kernel_rfl) rfl (by kernel_rfl) ?_
            refine x_nil ?_
            refine x_then ?_
            refine x_seq ?_
            refine x_seq ?_
            refine x_region ?_
            refine x_val (.pointer (some ⟨g2, 1, none⟩)) (by kernel_rfl) rfl (by kernel_rfl) ?_
            refine x_load1 H 1 g2 1 #[.slice aL nl cL, .slice aD nd cD, .slice aS nq cS, .int .i64 ((pn : Nat) : Int), .int .i64 ((rn : Nat) : Int)] 142 (.slice aD nd cD) (by kernel_rfl) (by kernel_rfl) (by kernel_rfl) rfl (by kernel_rfl) ?_
            refine x_val (.int .i64 ((nd : Nat) : Int)) (by kernel_rfl) rfl (by kernel_rfl) ?_
            refine x_val (.int .i64 0) (by kernel_rfl) rfl (by kernel_rfl) ?_
            refine x_nil ?_
            refine x_then ?_
            refine x_block ?_
            refine x_loop (G := Nat × Bool) (fun gh a w' => match gh with | (k1, f1) => ∃ uf1 : Nat → Value, a = { tmps := #[.agg #[.int .i64 r, .int .i64 s, .int .i64 b, .int .i64 o, .int .i64 c, .int .i64 y, .int .i64 z], .agg #[.slice aL nl cL, .slice aD nd cD, .slice aS nq cS, .int .i64 ((pn : Nat) : Int), .int .i64 ((rn : Nat) : Int)], .pointer (some ⟨g1, 0, none⟩), .pointer (some ⟨g2, 0, none⟩), .bool false, .pointer none, .int .i64 10, .pointer (some ⟨g3, 0, none⟩), .bool f1, .int .i64 (lastD lD k1), undef, (uf1 0), undef, undef, undef, undef, undef, undef, undef, undef, .bool true, .bool false, .agg #[.int .i64 r, .int .i64 s, .int .i64 b, .int .i64 o, .int .i64 c, .int .i64 y, .int .i64 z], .bool true, .bool false, .bool false, .pointer (some ⟨g2, 0, none⟩), .slice aL nl cL, .int .i64 ((nl : Nat) : Int), .bool false, .bool false, .bool false, .pointer (some ⟨g2, 1, none⟩), .slice aD nd cD, .int .i64 ((nd : Nat) : Int), .bool false, .bool false, .bool false, .pointer (some ⟨g2, 2, none⟩), .slice aS nq cS, .int .i64 ((nq : Nat) : Int), .bool false, .bool false, .tuple #[.pointer none, .int .i64 10], .agg #[.int .i64 r, .int .i64 s, .int .i64 b, .int .i64 o, .int .i64 c, .int .i64 y, .int .i64 z], .agg #[.slice aL nl cL, .slice aD nd cD, .slice aS nq cS, .int .i64 ((pn : Nat) : Int), .int .i64 ((rn : Nat) : Int)], .tuple #[.pointer none, .int .i64 10], .pointer none, .int .i64 10, .agg #[.int .i64 r, .int .i64 s, .int .i64 b, .int .i64 o, .int .i64 c, .int .i64 y, .int .i64 z], .bool true, .bool false, undef, undef, undef, undef, undef, undef, .pointer (some ⟨g1, 0, none⟩), .agg #[.int .i64 r, .int .i64 s, .int .i64 b, .int .i64 o, .int .i64 c], .pointer (some ⟨g2, 0, none⟩), .slice aL nl cL, .int .i64 ((nl : Nat) : Int), .agg #[.int .i64 r, .int .i64 s, .int .i64 b, .int .i64 o, .int .i64 c, .int .i64 y, .int .i64 z], .int .i64 ((sn : Nat) : Int), .bool true, .bool true, .pointer (some ⟨g2, 2, none⟩), .slice aS nq cS, .int .i64 ((nq : Nat) : Int), .pointer (some ⟨g3, 0, none⟩), .int .i64 r, .bool true, .bool true, .bool true, .pointer (some ⟨g2, 3, none⟩), .int .i64 ((pn : Nat) : Int), .bool true, .bool true, .bool true, .pointer (some ⟨g2, 3, none⟩), .int .i64 ((pn : Nat) : Int), .pointer (some ⟨g1, 6, none⟩), .int .i64 z, .bool true, .bool true, .bool true, .pointer (some ⟨g2, 4, none⟩), .int .i64 ((rn : Nat) : Int), .bool true, .bool true, .bool true, .pointer (some ⟨g2, 4, none⟩), .int .i64 ((rn : Nat) : Int), .pointer (some ⟨g3, 1, none⟩), .int .i64 s, .bool true, .bool true, .pointer (some ⟨g2, 1, none⟩), .slice aD nd cD, .int .i64 ((nd : Nat) : Int), .int .i64 ((k1 : Nat) : Int), (uf1 1), (uf1 2), (uf1 3), (uf1 4), (uf1 5), (uf1 6), (uf1 7), (uf1 8), (uf1 9), (uf1 10), (uf1 11), (uf1 12), (uf1 13), (uf1 14), (uf1 15), (uf1 16), (uf1 17), undef, undef, undef, undef, undef, undef, undef, undef, undef, undef, undef, undef, undef, undef, undef, undef, undef, undef, undef, undef, undef, undef, undef, undef, undef, undef, undef, undef, undef, undef, undef, undef, undef, undef, undef, undef, undef, undef, undef, undef, undef, undef, undef, undef, undef, undef, undef, undef, undef, undef, undef, undef, undef, undef, undef, undef, undef, undef, undef, undef, undef, undef, undef, undef, undef, undef, undef, undef, undef, undef, undef, undef, undef, undef, undef, undef, undef, undef, undef, undef, undef, undef, undef, undef, undef, undef, undef, undef, undef, undef, undef, undef, undef, undef, undef, undef, undef, undef, undef, undef, undef, undef, undef, undef, undef], defers := [] } ∧ Hs [] w0 w' [.blk g3 #[.int .i64 r, .int .i64 s, .int .i64 b, .int .i64 o, .int .i64 c] 67, .blk g2 #[.slice aL nl cL, .slice aD nd cD, .slice aS nq cS, .int .i64 ((pn : Nat) : Int), .int .i64 ((rn : Nat) : Int)] 142, .blk g1 #[.int .i64 r, .int .i64 s, .int .i64 b, .int .i64 o, .int .i64 c, .int .i64 y, .int .i64 z] 69] ∧ (k1 ≤ nd) ∧ (f1 = okD pg lD k1)) (fun gh => match gh with | (k1, f1) => nd - k1) (0, true) ⟨(nthV [undef, undef, undef, undef, undef, undef, undef, undef, undef, undef, undef, undef, undef, undef, undef, undef, undef, undef]), (by kernel_rfl), H, (Nat.zero_le _), rfl⟩ ?_
            clear H
            rintro ⟨k1, f1⟩ _ v10 ⟨uf1, rfl, H, r1, r2⟩
            have i1 := r1
            have e1 := r2
            refine x_seq ?_
            refine x_region ?_
            refine x_val (.bool (decide (((k1 : Nat) : Int) < ((nd : Nat) : Int)))) (by kernel_rfl) rfl (by kernel_rfl) ?_
            refine x_nil ?_
            refine x_then ?_
            refine x_seq ?_
            cases h6 : decide (((k1 : Nat) : Int) < ((nd : Nat) : Int))
            · skip
              have h6p := of_decide_eq_false h6
              have q1 : k1 = nd := by omega
              rw [q1] at e1
              refine x_f (by kernel_rfl) ?_
              refine x_exit ?_
              refine x_then_exit ?_
              refine x_then_exit ?_
              refine x_blk_exit ?_
              refine x_then ?_
              refine x_seq ?_
              refine x_seq ?_
              refine x_region ?_
              refine x_val (.pointer (some ⟨g2, 0, none⟩)) (by kernel_rfl) rfl (by kernel_rfl) ?_
              refine x_load1 H 1 g2 0 #[.slice aL nl cL, .slice aD nd cD, .slice aS nq cS, .int .i64 ((pn : Nat) : Int), .int .i64 ((rn : Nat) : Int)] 142 (.slice aL nl cL) (by kernel_rfl) (by kernel_rfl) (by kernel_rfl) rfl (by kernel_rfl) ?_
              refine x_val (.int .i64 ((nl : Nat) : Int)) (by kernel_rfl) rfl (by kernel_rfl) ?_
              refine x_val (.int .i64 0) (by kernel_rfl) rfl (by kernel_rfl) ?_
              refine x_nil ?_
              refine x_then ?_
              refine x_block ?_
              refine x_loop (G := Nat × Bool) (fun gh a w' => match gh with | (k2, f2) => ∃ uf2 : Nat → Value, a = { tmps := #[.agg #[.int .i64 r, .int .i64 s, .int .i64 b, .int .i64 o, .int .i64 c, .int .i64 y, .int .i64 z], .agg #[.slice aL nl cL, .slice aD nd cD, .slice aS nq cS, .int .i64 ((pn : Nat) : Int), .int .i64 ((rn : Nat) : Int)], .pointer (some ⟨g1, 0, none⟩), .pointer (some ⟨g2, 0, none⟩), .bool false, .pointer none, .int .i64 10, .pointer (some ⟨g3, 0, none⟩), .bool f2, .int .i64 (lastD lD k1), undef, (uf1 0), (uf2 0), (uf2 1), undef, undef, undef, undef, undef, undef, .bool true, .bool false, .agg #[.int .i64 r, .int .i64 s, .int .i64 b, .int .i64 o, .int .i64 c, .int .i64 y, .int .i64 z], .bool true, .bool false, .bool false, .pointer (some ⟨g2, 0, none⟩), .slice aL nl cL, .int .i64 ((nl : Nat) : Int), .bool false, .bool false, .bool false, .pointer (some ⟨g2, 1, none⟩), .slice aD nd cD, .int .i64 ((nd : Nat) : Int), .bool false, .bool false, .bool false, .pointer (some ⟨g2, 2, none⟩), .slice aS nq cS, .int .i64 ((nq : Nat) : Int), .bool false, .bool false, .tuple #[.pointer none, .int .i64 10], .agg #[.int .i64 r, .int .i64 s, .int .i64 b, .int .i64 o, .int .i64 c, .int .i64 y, .int .i64 z], .agg #[.slice aL nl cL, .slice aD nd cD, .slice aS nq cS, .int .i64 ((pn : Nat) : Int), .int .i64 ((rn : Nat) : Int)], .tuple #[.pointer none, .int .i64 10], .pointer none, .int .i64 10, .agg #[.int .i64 r, .int .i64 s, .int .i64 b, .int .i64 o, .int .i64 c, .int .i64 y, .int .i64 z], .bool true, .bool false, undef, undef, undef, undef, undef, undef, .pointer (some ⟨g1, 0, none⟩), .agg #[.int .i64 r, .int .i64 s, .int .i64 b, .int .i64 o, .int .i64 c], .pointer (some ⟨g2, 0, none⟩), .slice aL nl cL, .int .i64 ((nl : Nat) : Int), .agg #[.int .i64 r, .int .i64 s, .int .i64 b, .int .i64 o, .int .i64 c, .int .i64 y, .int .i64 z], .int .i64 ((sn : Nat) : Int), .bool true, .bool true, .pointer (some ⟨g2, 2, none⟩), .slice aS nq cS, .int .i64 ((nq : Nat) : Int), .pointer (some ⟨g3, 0, none⟩), .int .i64 r, .bool true, .bool true, .bool true, .pointer (some ⟨g2, 3, none⟩), .int .i64 ((pn : Nat) : Int), .bool true, .bool true, .bool true, .pointer (some ⟨g2, 3, none⟩), .int .i64 ((pn : Nat) : Int), .pointer (some ⟨g1, 6, none⟩), .int .i64 z, .bool true, .bool true, .bool true, .pointer (some ⟨g2, 4, none⟩), .int .i64 ((rn : Nat) : Int), .bool true, .bool true, .bool true, .pointer (some ⟨g2, 4, none⟩), .int .i64 ((rn : Nat) : Int), .pointer (some ⟨g3, 1, none⟩), .int .i64 s, .bool true, .bool true, .pointer (some ⟨g2, 1, none⟩), .slice aD nd cD, .int .i64 ((nd : Nat) : Int), .int .i64 ((k1 : Nat) : Int), .bool false, (uf1 2), (uf1 3), (uf1 4), (uf1 5), (uf1 6), (uf1 7), (uf1 8), (uf1 9), (uf1 10), (uf1 11), (uf1 12), (uf1 13), (uf1 14), (uf1 15), (uf1 16), (uf1 17), .pointer (some ⟨g2, 0, none⟩), .slice aL nl cL, .int .i64 ((nl : Nat) : Int), .int .i64 ((k2 : Nat) : Int), (uf2 2), (uf2 3), (uf2 4), (uf2 5), (uf2 6), (uf2 7), (uf2 8), (uf2 9), (uf2 10), (uf2 11), (uf2 12), (uf2 13), (uf2 14), (uf2 15), (uf2 16), (uf2 17), (uf2 18), (uf2 19), (uf2 20), (uf2 21), (uf2 22), (uf2 23), (uf2 24), (uf2 25), (uf2 26), (uf2 27), (uf2 28), (uf2 29), (uf2 30), (uf2 31), (uf2 32), (uf2 33), (uf2 34), (uf2 35), (uf2 36), (uf2 37), (uf2 38), undef, undef, undef, undef, undef, undef, undef, undef, undef, undef, undef, undef, undef, undef, undef, undef, undef, undef, undef, undef, undef, undef, undef, undef, undef, undef, undef, undef, undef, undef, undef, undef, undef, undef, undef, undef, undef, undef, undef, undef, undef, undef, undef, undef, undef, undef, undef, undef, undef, undef, undef, undef, undef, undef, undef, undef, undef, undef, undef, undef, undef, undef, undef, undef], defers := [] } ∧ Hs [] w0 w' [.blk g3 #[.int .i64 r, .int .i64 s, .int .i64 b, .int .i64 o, .int .i64 c] 67, .blk g2 #[.slice aL nl cL, .slice aD nd cD, .slice aS nq cS, .int .i64 ((pn : Nat) : Int), .int .i64 ((rn : Nat) : Int)] 142, .blk g1 #[.int .i64 r, .int .i64 s, .int .i64 b, .int .i64 o, .int .i64 c, .int .i64 y, .int .i64 z] 69] ∧ (k2 ≤ nl) ∧ (f2 = (okD pg lD nd && okL (((sn : Nat) : Int) + ((pn : Nat) : Int)) lD nd lL k2))) (fun gh => match gh with | (k2, f2) => nl - k2) (0, f1) ⟨(nthV [undef, undef, undef, undef, undef, undef, undef, undef, undef, undef, undef, undef, undef, undef, undef, undef, undef, undef, undef, undef, undef, undef, undef, undef, undef, undef, undef, undef, undef, undef, undef, undef, undef, undef, undef, undef, undef, undef, undef]), (by kernel_rfl), H, (Nat.zero_le _), (by rw [okL, ← e1, Bool.and_true])⟩ ?_
              clear H
              rintro ⟨k2, f2⟩ _ v11 ⟨uf2, rfl, H, r1, r2⟩
              have i2 := r1
              have e2 := r2
              refine x_seq ?_
              refine x_region ?_
              refine x_val (.bool (decide (((k2 : Nat) : Int) < ((nl : Nat) : Int)))) (by kernel_rfl) rfl (by kernel_rfl) ?_
              refine x_nil ?_
              refine x_then ?_
              refine x_seq ?_
              cases h7 : decide (((k2 : Nat) : Int) < ((nl : Nat) : Int))
              · skip
                have h7p := of_decide_eq_false h7
                have q2 : k2 = nl := by omega
                rw [q2] at e2
                refine x_f (by kernel_rfl) ?_
                refine x_exit ?_
                refine x_then_exit ?_
                refine x_then_exit ?_
                refine x_blk_exit ?_
                refine x_then ?_
                refine x_seq ?_
                refine x_seq ?_
                refine x_region ?_
                refine x_val (.pointer (some ⟨g2, 2, none⟩)) (by kernel_rfl) rfl (by kernel_rfl) ?_
                refine x_load1 H 1 g2 2 #[.slice aL nl cL, .slice aD nd cD, .slice aS nq cS, .int .i64 ((pn : Nat) : Int), .int .i64 ((rn : Nat) : Int)] 142 (.slice aS nq cS) (by kernel_rfl) (by kernel_rfl) (by kernel_rfl) rfl (by kernel_rfl) ?_
                refine x_val (.int .i64 ((nq : Nat) : Int)) (by kernel_rfl) rfl (by kernel_rfl) ?_
                refine x_val (.int .i64 0) (by kernel_rfl) rfl (by kernel_rfl) ?_
                refine x_nil ?_
                refine x_then ?_
                refine x_block ?_
                refine x_loop (G := Nat × Bool) (fun gh a w' => match gh with | (k3, f3) => ∃ uf3 : Nat → Value, a = { tmps := #[.agg #[.int .i64 r, .int .i64 s, .int .i64 b, .int .i64 o, .int .i64 c, .int .i64 y, .int .i64 z], .agg #[.slice aL nl cL, .slice aD nd cD, .slice aS nq cS, .int .i64 ((pn : Nat) : Int), .int .i64 ((rn : Nat) : Int)], .pointer (some ⟨g1, 0, none⟩), .pointer (some ⟨g2, 0, none⟩), .bool false, .pointer none, .int .i64 10, .pointer (some ⟨g3, 0, none⟩), .bool f3, .int .i64 (lastD lD k1), undef, (uf1 0), (uf2 0), (uf2 1), undef, (uf3 0), undef, undef, undef, undef, .bool true, .bool false, .agg #[.int .i64 r, .int .i64 s, .int .i64 b, .int .i64 o, .int .i64 c, .int .i64 y, .int .i64 z], .bool true, .bool false, .bool false, .pointer (some ⟨g2, 0, none⟩), .slice aL nl cL, .int .i64 ((nl : Nat) : Int), .bool false, .bool false, .bool false, .pointer (some ⟨g2, 1, none⟩), .slice aD nd cD, .int .i64 ((nd : Nat) : Int), .bool false, .bool false, .bool false, .pointer (some ⟨g2, 2, none⟩), .slice aS nq cS, .int .i64 ((nq : Nat) : Int), .bool false, .bool false, .tuple #[.pointer none, .int .i64 10], .agg #[.int .i64 r, .int .i64 s, .int .i64 b, .int .i64 o, .int .i64 c, .int .i64 y, .int .i64 z], .agg #[.slice aL nl cL, .slice aD nd cD, .slice aS nq cS, .int .i64 ((pn : Nat) : Int), .int .i64 ((rn : Nat) : Int)], .tuple #[.pointer none, .int .i64 10], .pointer none, .int .i64 10, .agg #[.int .i64 r, .int .i64 s, .int .i64 b, .int .i64 o, .int .i64 c, .int .i64 y, .int .i64 z], .bool true, .bool false, undef, undef, undef, undef, undef, undef, .pointer (some ⟨g1, 0, none⟩), .agg #[.int .i64 r, .int .i64 s, .int .i64 b, .int .i64 o, .int .i64 c], .pointer (some ⟨g2, 0, none⟩), .slice aL nl cL, .int .i64 ((nl : Nat) : Int), .agg #[.int .i64 r, .int .i64 s, .int .i64 b, .int .i64 o, .int .i64 c, .int .i64 y, .int .i64 z], .int .i64 ((sn : Nat) : Int), .bool true, .bool true, .pointer (some ⟨g2, 2, none⟩), .slice aS nq cS, .int .i64 ((nq : Nat) : Int), .pointer (some ⟨g3, 0, none⟩), .int .i64 r, .bool true, .bool true, .bool true, .pointer (some ⟨g2, 3, none⟩), .int .i64 ((pn : Nat) : Int), .bool true, .bool true, .bool true, .pointer (some ⟨g2, 3, none⟩), .int .i64 ((pn : Nat) : Int), .pointer (some ⟨g1, 6, none⟩), .int .i64 z, .bool true, .bool true, .bool true, .pointer (some ⟨g2, 4, none⟩), .int .i64 ((rn : Nat) : Int), .bool true, .bool true, .bool true, .pointer (some ⟨g2, 4, none⟩), .int .i64 ((rn : Nat) : Int), .pointer (some ⟨g3, 1, none⟩), .int .i64 s, .bool true, .bool true, .pointer (some ⟨g2, 1, none⟩), .slice aD nd cD, .int .i64 ((nd : Nat) : Int), .int .i64 ((k1 : Nat) : Int), .bool false, (uf1 2), (uf1 3), (uf1 4), (uf1 5), (uf1 6), (uf1 7), (uf1 8), (uf1 9), (uf1 10), (uf1 11), (uf1 12), (uf1 13), (uf1 14), (uf1 15), (uf1 16), (uf1 17), .pointer (some ⟨g2, 0, none⟩), .slice aL nl cL, .int .i64 ((nl : Nat) : Int), .int .i64 ((k2 : Nat) : Int), .bool false, (uf2 3), (uf2 4), (uf2 5), (uf2 6), (uf2 7), (uf2 8), (uf2 9), (uf2 10), (uf2 11), (uf2 12), (uf2 13), (uf2 14), (uf2 15), (uf2 16), (uf2 17), (uf2 18), (uf2 19), (uf2 20), (uf2 21), (uf2 22), (uf2 23), (uf2 24), (uf2 25), (uf2 26), (uf2 27), (uf2 28), (uf2 29), (uf2 30), (uf2 31), (uf2 32), (uf2 33), (uf2 34), (uf2 35), (uf2 36), (uf2 37), (uf2 38), .pointer (some ⟨g2, 2, none⟩), .slice aS nq cS, .int .i64 ((nq : Nat) : Int), .int .i64 ((k3 : Nat) : Int), (uf3 1), (uf3 2), (uf3 3), (uf3 4), (uf3 5), (uf3 6), (uf3 7), (uf3 8), (uf3 9), (uf3 10), (uf3 11), (uf3 12), (uf3 13), (uf3 14), (uf3 15), (uf3 16), (uf3 17), (uf3 18), (uf3 19), (uf3 20), (uf3 21), (uf3 22), (uf3 23), (uf3 24), undef, undef, undef, undef, undef, undef, undef, undef, undef, undef, undef, undef, undef, undef, undef, undef, undef, undef, undef, undef, undef, undef, undef, undef, undef, undef, undef, undef, undef, undef, undef, undef, undef, undef, undef, undef], defers := [] } ∧ Hs [] w0 w' [.blk g3 #[.int .i64 r, .int .i64 s, .int .i64 b, .int .i64 o, .int .i64 c] 67, .blk g2 #[.slice aL nl cL, .slice aD nd cD, .slice aS nq cS, .int .i64 ((pn : Nat) : Int), .int .i64 ((rn : Nat) : Int)] 142, .blk g1 #[.int .i64 r, .int .i64 s, .int .i64 b, .int .i64 o, .int .i64 c, .int .i64 y, .int .i64 z] 69] ∧ (k3 ≤ nq) ∧ (f3 = ((okD pg lD nd && okL (((sn : Nat) : Int) + ((pn : Nat) : Int)) lD nd lL nl) && okT r ((rn : Nat) : Int) lS k3))) (fun gh => match gh with | (k3, f3) => nq - k3) (0, f2) ⟨(nthV [undef, undef, undef, undef, undef, undef, undef, undef, undef, undef, undef, undef, undef, undef, undef, undef, undef, undef, undef, undef, undef, undef, undef, undef, undef]), (by kernel_rfl), H, (Nat.zero_le _), (by rw [okT, ← e2, Bool.and_true])⟩ ?_
                clear H
                rintro ⟨k3, f3⟩ _ v12 ⟨uf3, rfl, H, r1, r2⟩
                have i3 := r1
                have e3 := r2
                refine x_seq ?_
                refine x_region ?_
                refine x_val (.bool (decide (((k3 : Nat) : Int) < ((nq : Nat) : Int)))) (by kernel_rfl) rfl (by kernel_rfl) ?_
                refine x_nil ?_
                refine x_then ?_
                refine x_seq ?_
                cases h8 : decide (((k3 : Nat) : Int) < ((nq : Nat) : Int))
                · skip
                  have h8p := of_decide_eq_false h8
                  have q3 : k3 = nq := by omega
                  rw [q3, oks_doc (by omega) (by omega)] at e3
                  refine x_f (by kernel_rfl) ?_
                  refine x_exit ?_
                  refine x_then_exit ?_
                  refine x_then_exit ?_
                  refine x_blk_exit ?_
                  refine x_then ?_
                  refine x_seq ?_
                  refine x_seq ?_
                  refine x_region ?_
                  refine x_val (.bool f3) (by kernel_rfl) rfl (by kernel_rfl) ?_
                  refine x_val (.bool (!f3)) (by kernel_rfl) rfl (by kernel_rfl) ?_
                  refine x_nil ?_
                  refine x_then ?_
                  cases h9 : f3
                  · skip
                    refine x_t (by kernel_rfl) ?_
                    refine x_seq ?_
                    refine x_region ?_
                    refine x_val (.int .i64 10) (by kernel_rfl) rfl (by kernel_rfl) ?_
                    refine x_val (.bool true) (by kernel_rfl) rfl (by kernel_rfl) ?_
                    refine x_val (.bool true) (by kernel_rfl) rfl (by kernel_rfl) ?_
                    refine x_val (.pointer none) (by kernel_rfl) rfl (by kernel_rfl) ?_
                    refine x_val (.bool true) (by kernel_rfl) rfl (by kernel_rfl) ?_
                    refine x_val (.bool true) (by kernel_rfl) rfl (by kernel_rfl) ?_
                    refine x_val (.bool true) (by kernel_rfl) rfl (by kernel_rfl) ?_
                    refine x_nil ?_
                    refine x_then ?_
                    refine x_retc ?_
                    refine x_then_ret ?_
                    refine x_ret (.bool true) (by kernel_rfl) (by kernel_rfl) ?_
                    exact ⟨rfl, H.below⟩
                  · skip
                    exact absurd (h9.symm.trans (e3.trans h5)) (by decide)
                · skip
                  have h8p := of_decide_eq_true h8
                  refine x_t (by kernel_rfl) ?_
                  refine x_skipc ?_
                  refine x_then ?_
                  refine x_seq ?_
                  refine x_block ?_
                  refine x_seq ?_
                  refine x_region ?_
                  obtain ⟨gS, oS, hadS, hcS⟩ := hIS (by omega)
                  refine x_ixO (t := 106) hadS k3 nq cS 3 1 (oS + k3) (by omega) (by omega) (by kernel_rfl) (by kernel_rfl) (by kernel_rfl) rfl (by kernel_rfl) ?_
                  refine x_loadc gS (oS + k3) (.int .i64 (lS.getD k3 0)) (hcS _ H.below k3 (by omega)) (by kernel_rfl) rfl (by kernel_rfl) ?_
                  refine x_val (.int .i64 (lS.getD k3 0)) (by kernel_rfl) rfl (by kernel_rfl) ?_
                  refine x_nil ?_
                  refine x_then ?_
                  refine x_region ?_
                  refine x_val (.bool f3) (by kernel_rfl) rfl (by kernel_rfl) ?_
                  refine x_val (.bool f3) (by kernel_rfl) rfl (by kernel_rfl) ?_
                  cases h10 : f3
                  · skip
                    refine x_skip (by kernel_rfl) ?_
                    refine x_skip (by kernel_rfl) ?_
                    refine x_skip (by kernel_rfl) ?_
                    refine x_skip (by kernel_rfl) ?_
                    refine x_skip (by kernel_rfl) ?_
                    refine x_skip (by kernel_rfl) ?_
                    refine x_skip (by kernel_rfl) ?_
                    refine x_skip (by kernel_rfl) ?_
                    refine x_skip (by kernel_rfl) ?_
                    refine x_skip (by kernel_rfl) ?_
                    refine x_skip (by kernel_rfl) ?_
                    refine x_skip (by kernel_rfl) ?_
                    refine x_skip (by kernel_rfl) ?_
                    refine x_skip (by kernel_rfl) ?_
                    refine x_skip (by kernel_rfl) ?_
                    refine x_skip (by kernel_rfl) ?_
                    refine x_skip (by kernel_rfl) ?_
                    refine x_val (.bool false) (by kernel_rfl) rfl (by kernel_rfl) ?_
                    refine x_val (.bool false) (by kernel_rfl) rfl (by kernel_rfl) ?_
                    refine x_nil ?_
                    refine x_blk ?_
                    refine x_then ?_
                    refine x_region ?_
                    refine x_ar (((k3 : Nat) : Int) + 1) ⟨by omega, by omega⟩ (by kernel_rfl) rfl (by kernel_rfl) ?_
                    refine x_val (.int .i64 (((k3 : Nat) : Int) + 1)) (by kernel_rfl) rfl (by kernel_rfl) ?_
                    refine x_nil ?_
                    refine x_then ?_
                    exact ⟨(k3 + 1, false), (by dsimp only; omega), (nthV [.int .i64 (lS.getD k3 0), .bool true, .pointer (some ⟨gS, oS + k3, none⟩), .int .i64 (lS.getD k3 0), .bool false, .bool false, undef, undef, undef, undef, undef, undef, undef, undef, undef, undef, undef, undef, undef, undef, undef, undef, undef, .bool false, .int .i64 (((k3 : Nat) : Int) + 1)]), (by kernel_rfl), H, (by omega), (by rw [okT, ← Bool.and_assoc, ← r2, h10]; try rfl)⟩
                  · skip
                    refine x_val (.int .i64 (lS.getD k3 0)) (by kernel_rfl) rfl (by kernel_rfl) ?_
                    refine x_val (.bool (decide ((lS.getD k3 0) = 0))) (by kernel_rfl) rfl (by kernel_rfl) ?_
                    refine x_val (.bool (decide ((lS.getD k3 0) = 0))) (by kernel_rfl) rfl (by kernel_rfl) ?_
                    cases h11 : decide ((lS.getD k3 0) = 0)
                    · skip
                      have h11p := of_decide_eq_false h11
                      refine x_val (.int .i64 (lS.getD k3 0)) (by kernel_rfl) rfl (by kernel_rfl) ?_
                      refine x_val (.pointer (some ⟨g3, 0, none⟩)) (by kernel_rfl) rfl (by kernel_rfl) ?_
                      refine x_load1 H 0 g3 0 #[.int .i64 r, .int .i64 s, .int .i64 b, .int .i64 o, .int .i64 c] 67 (.int .i64 r) (by kernel_rfl) (by kernel_rfl) (by kernel_rfl) rfl (by kernel_rfl) ?_
                      refine x_val (.bool (decide (r ≤ (lS.getD k3 0)))) (by kernel_rfl) rfl (by kernel_rfl) ?_
                      refine x_val (.bool (decide (r ≤ (lS.getD k3 0)))) (by kernel_rfl) rfl (by kernel_rfl) ?_
                      cases h12 : decide (r ≤ (lS.getD k3 0))
                      · skip
                        have h12p := of_decide_eq_false h12
                        refine x_skip (by kernel_rfl) ?_
                        refine x_skip (by kernel_rfl) ?_
                        refine x_skip (by kernel_rfl) ?_
                        refine x_skip (by kernel_rfl) ?_
                        refine x_skip (by kernel_rfl) ?_
                        refine x_skip (by kernel_rfl) ?_
                        refine x_skip (by kernel_rfl) ?_
                        refine x_val (.bool false) (by kernel_rfl) rfl (by kernel_rfl) ?_
                        refine x_val (.bool false) (by kernel_rfl) rfl (by kernel_rfl) ?_
                        refine x_val (.bool false) (by kernel_rfl) rfl (by kernel_rfl) ?_
                        refine x_val (.bool false) (by kernel_rfl) rfl (by kernel_rfl) ?_
                        refine x_nil ?_
                        refine x_blk ?_
                        refine x_then ?_
                        refine x_region ?_
                        refine x_ar (((k3 : Nat) : Int) + 1) ⟨by omega, by omega⟩ (by kernel_rfl) rfl (by kernel_rfl) ?_
                        refine x_val (.int .i64 (((k3 : Nat) : Int) + 1)) (by kernel_rfl) rfl (by kernel_rfl) ?_
                        refine x_nil ?_
                        refine x_then ?_
                        exact ⟨(k3 + 1, false), (by dsimp only; omega), (nthV [.int .i64 (lS.getD k3 0), .bool true, .pointer (some ⟨gS, oS + k3, none⟩), .int .i64 (lS.getD k3 0), .bool true, .bool true, .int .i64 (lS.getD k3 0), .bool false, .bool false, .int .i64 (lS.getD k3 0), .pointer (some ⟨g3, 0, none⟩), .int .i64 r, .bool false, .bool false, undef, undef, undef, undef, undef, undef, undef, .bool false, .bool false, .bool false, .int .i64 (((k3 : Nat) : Int) + 1)]), (by kernel_rfl), H, (by omega), (by rw [okT, ← Bool.and_assoc, ← r2, h10, h11, h12]; try rfl)⟩
                      · skip
                        have h12p := of_decide_eq_true h12
                        refine x_val (.int .i64 (lS.getD k3 0)) (by kernel_rfl) rfl (by kernel_rfl) ?_
                        refine x_val (.pointer (some ⟨g3, 0, none⟩)) (by kernel_rfl) rfl (by kernel_rfl) ?_
                        refine x_load1 H 0 g3 0 #[.int .i64 r, .int .i64 s, .int .i64 b, .int .i64 o, .int .i64 c] 67 (.int .i64 r) (by kernel_rfl) (by kernel_rfl) (by kernel_rfl) rfl (by kernel_rfl) ?_
                        refine x_val (.pointer (some ⟨g2, 4, none⟩)) (by kernel_rfl) rfl (by kernel_rfl) ?_
                        refine x_load1 H 1 g2 4 #[.slice aL nl cL, .slice aD nd cD, .slice aS nq cS, .int .i64 ((pn : Nat) : Int), .int .i64 ((rn : Nat) : Int)] 142 (.int .i64 ((rn : Nat) : Int)) (by kernel_rfl) (by kernel_rfl) (by kernel_rfl) rfl (by kernel_rfl) ?_
                        refine x_ar (r + ((rn : Nat) : Int)) ⟨by omega, by omega⟩ (by kernel_rfl) rfl (by kernel_rfl) ?_
                        refine x_val (.bool (decide ((lS.getD k3 0) < (r + ((rn : Nat) : Int))))) (by kernel_rfl) rfl (by kernel_rfl) ?_
                        refine x_val (.bool (decide ((lS.getD k3 0) < (r + ((rn : Nat) : Int))))) (by kernel_rfl) rfl (by kernel_rfl) ?_
                        refine x_val (.bool (decide ((lS.getD k3 0) < (r + ((rn : Nat) : Int))))) (by kernel_rfl) rfl (by kernel_rfl) ?_
                        refine x_val (.bool (decide ((lS.getD k3 0) < (r + ((rn : Nat) : Int))))) (by kernel_rfl) rfl (by kernel_rfl) ?_
                        refine x_val (.bool (decide ((lS.getD k3 0) < (r + ((rn : Nat) : Int))))) (by kernel_rfl) rfl (by kernel_rfl) ?_
                        refine x_nil ?_
                        refine x_blk ?_
                        refine x_then ?_
                        refine x_region ?_
                        refine x_ar (((k3 : Nat) : Int) + 1) ⟨by omega, by omega⟩ (by kernel_rfl) rfl (by kernel_rfl) ?_
                        refine x_val (.int .i64 (((k3 : Nat) : Int) + 1)) (by kernel_rfl) rfl (by kernel_rfl) ?_
                        refine x_nil ?_
                        refine x_then ?_
                        exact ⟨(k3 + 1, (decide ((lS.getD k3 0) < (r + ((rn : Nat) : Int))))), (by dsimp only; omega), (nthV [.int .i64 (lS.getD k3 0), .bool true, .pointer (some ⟨gS, oS + k3, none⟩), .int .i64 (lS.getD k3 0), .bool true, .bool true, .int .i64 (lS.getD k3 0), .bool false, .bool false, .int .i64 (lS.getD k3 0), .pointer (some ⟨g3, 0, none⟩), .int .i64 r, .bool true, .bool true, .int .i64 (lS.getD k3 0), .pointer (some ⟨g3, 0, none⟩), .int .i64 r, .pointer (some ⟨g2, 4, none⟩), .int .i64 ((rn : Nat) : Int), .int .i64 (r + ((rn : Nat) : Int)), .bool (decide ((lS.getD k3 0) < (r + ((rn : Nat) : Int)))), .bool (decide ((lS.getD k3 0) < (r + ((rn : Nat) : Int)))), .bool (decide ((lS.getD k3 0) < (r + ((rn : Nat) : Int)))), .bool (decide ((lS.getD k3 0) < (r + ((rn : Nat) : Int)))), .int .i64 (((k3 : Nat) : Int) + 1)]), (by kernel_rfl), H, (by omega), (by rw [okT, ← Bool.and_assoc, ← r2, h10, h11, h12]; try rfl)⟩
                    · skip
                      have h11p := of_decide_eq_true h11
                      refine x_skip (by kernel_rfl) ?_
                      refine x_skip (by kernel_rfl) ?_
                      refine x_skip (by kernel_rfl) ?_
                      refine x_skip (by kernel_rfl) ?_
                      refine x_skip (by kernel_rfl) ?_
                      refine x_skip (by kernel_rfl) ?_
                      refine x_skip (by kernel_rfl) ?_
                      refine x_skip (by kernel_rfl) ?_
                      refine x_skip (by kernel_rfl) ?_
                      refine x_skip (by kernel_rfl) ?_
                      refine x_skip (by kernel_rfl) ?_
                      refine x_skip (by kernel_rfl) ?_
                      refine x_skip (by kernel_rfl) ?_
                      refine x_val (.bool true) (by kernel_rfl) rfl (by kernel_rfl) ?_
                      refine x_val (.bool true) (by kernel_rfl) rfl (by kernel_rfl) ?_
                      refine x_val (.bool true) (by kernel_rfl) rfl (by kernel_rfl) ?_
                      refine x_nil ?_
                      refine x_blk ?_
                      refine x_then ?_
                      refine x_region ?_
                      refine x_ar (((k3 : Nat) : Int) + 1) ⟨by omega, by omega⟩ (by kernel_rfl) rfl (by kernel_rfl) ?_
                      refine x_val (.int .i64 (((k3 : Nat) : Int) + 1)) (by kernel_rfl) rfl (by kernel_rfl) ?_
                      refine x_nil ?_
                      refine x_then ?_
                      exact ⟨(k3 + 1, true), (by dsimp only; omega), (nthV [.int .i64 (lS.getD k3 0), .bool true, .pointer (some ⟨gS, oS + k3, none⟩), .int .i64 (lS.getD k3 0), .bool true, .bool true, .int .i64 (lS.getD k3 0), .bool true, .bool true, undef, undef, undef, undef, undef, undef, undef, undef, undef, undef, undef, undef, undef, .bool true, .bool true, .int .i64 (((k3 : Nat) : Int) + 1)]), (by kernel_rfl), H, (by omega), (by rw [okT, ← Bool.and_assoc, ← r2, h10, h11]; try rfl)⟩
              · skip
                have h7p := of_decide_eq_true h7
                refine x_t (by kernel_rfl) ?_
                refine x_skipc ?_
                refine x_then ?_
                refine x_seq ?_
                refine x_block ?_
                refine x_seq ?_
                refine x_region ?_
                refine x_val (.int .i64 ((k2 : Nat) : Int)) (by kernel_rfl) rfl (by kernel_rfl) ?_
                obtain ⟨gL, oL, hadL, hcL⟩ := hIL (by omega)
                refine x_ixO (t := 106) hadL k2 nl cL 3 1 (oL + k2) (by omega) (by omega) (by kernel_rfl) (by kernel_rfl) (by kernel_rfl) rfl (by kernel_rfl) ?_
                refine x_loadc gL (oL + k2) (.int .i64 (lL.getD k2 0)) (hcL _ H.below k2 (by omega)) (by kernel_rfl) rfl (by kernel_rfl) ?_
                refine x_val (.int .i64 ((k2 : Nat) : Int)) (by kernel_rfl) rfl (by kernel_rfl) ?_
                refine x_val (.int .i64 (lL.getD k2 0)) (by kernel_rfl) rfl (by kernel_rfl) ?_
                refine x_nil ?_
                refine x_then ?_
                refine x_region_whole (fun w' => Hs [] w0 w' [.blk g3 #[.int .i64 r, .int .i64 s, .int .i64 b, .int .i64 o, .int .i64 c] 67, .blk g2 #[.slice aL nl cL, .slice aD nd cD, .slice aS nq cS, .int .i64 ((pn : Nat) : Int), .int .i64 ((rn : Nat) : Int)] 142, .blk g1 #[.int .i64 r, .int .i64 s, .int .i64 b, .int .i64 o, .int .i64 c, .int .i64 y, .int .i64 z] 69]) (by kernel_rfl) (by kernel_rfl) (by kernel_rfl) H.drew ?_
                refine q_val (.bool f2) (by kernel_rfl) (fun _ => by kernel_rfl) ?_
                refine q_val (.bool f2) (by kernel_rfl) (fun _ => by kernel_rfl) ?_
                cases h13 : f2
                · skip
                  refine q_skip (by kernel_rfl) ?_
                  refine q_skip (by kernel_rfl) ?_
                  refine q_val (.bool false) (by kernel_rfl) (fun _ => by kernel_rfl) ?_
                  refine q_val (.bool false) (by kernel_rfl) (fun _ => by kernel_rfl) ?_
                  refine q_skip (by kernel_rfl) ?_
                  refine q_skip (by kernel_rfl) ?_
                  refine q_skip (by kernel_rfl) ?_
                  refine q_skip (by kernel_rfl) ?_
                  refine q_skip (by kernel_rfl) ?_
                  refine q_skip (by kernel_rfl) ?_
                  refine q_skip (by kernel_rfl) ?_
                  refine q_val (.bool false) (by kernel_rfl) (fun _ => by kernel_rfl) ?_
                  refine q_val (.bool false) (by kernel_rfl) (fun _ => by kernel_rfl) ?_
                  refine q_skip (by kernel_rfl) ?_
                  refine q_skip (by kernel_rfl) ?_
                  refine q_skip (by kernel_rfl) ?_
                  refine q_skip (by kernel_rfl) ?_
                  refine q_skip (by kernel_rfl) ?_
                  refine q_val (.bool false) (by kernel_rfl) (fun _ => by kernel_rfl) ?_
                  refine q_val (.bool false) (by kernel_rfl) (fun _ => by kernel_rfl) ?_
                  refine q_skip (by kernel_rfl) ?_
                  refine q_skip (by kernel_rfl) ?_
                  refine q_skip (by kernel_rfl) ?_
                  refine q_skip (by kernel_rfl) ?_
                  refine q_skip (by kernel_rfl) ?_
                  refine q_skip (by kernel_rfl) ?_
                  refine q_skip (by kernel_rfl) ?_
                  refine q_skip (by kernel_rfl) ?_
                  refine q_skip (by kernel_rfl) ?_
                  refine q_val (.bool false) (by kernel_rfl) (fun _ => by kernel_rfl) ?_
                  refine q_val (.bool false) (by kernel_rfl) (fun _ => by kernel_rfl) ?_
                  refine q_nil ?_
                  clear H
                  intro v13 H
                  refine x_frame' { tmps := #[.agg #[.int .i64 r, .int .i64 s, .int .i64 b, .int .i64 o, .int .i64 c, .int .i64 y, .int .i64 z], .agg #[.slice aL nl cL, .slice aD nd cD, .slice aS nq cS, .int .i64 ((pn : Nat) : Int), .int .i64 ((rn : Nat) : Int)], .pointer (some ⟨g1, 0, none⟩), .pointer (some ⟨g2, 0, none⟩), .bool false, .pointer none, .int .i64 10, .pointer (some ⟨g3, 0, none⟩), .bool false, .int .i64 (lastD lD k1), undef, (uf1 0), .int .i64 ((k2 : Nat) : Int), .int .i64 (lL.getD k2 0), undef, undef, undef, undef, undef, undef, .bool true, .bool false, .agg #[.int .i64 r, .int .i64 s, .int .i64 b, .int .i64 o, .int .i64 c, .int .i64 y, .int .i64 z], .bool true, .bool false, .bool false, .pointer (some ⟨g2, 0, none⟩), .slice aL nl cL, .int .i64 ((nl : Nat) : Int), .bool false, .bool false, .bool false, .pointer (some ⟨g2, 1, none⟩), .slice aD nd cD, .int .i64 ((nd : Nat) : Int), .bool false, .bool false, .bool false, .pointer (some ⟨g2, 2, none⟩), .slice aS nq cS, .int .i64 ((nq : Nat) : Int), .bool false, .bool false, .tuple #[.pointer none, .int .i64 10], .agg #[.int .i64 r, .int .i64 s, .int .i64 b, .int .i64 o, .int .i64 c, .int .i64 y, .int .i64 z], .agg #[.slice aL nl cL, .slice aD nd cD, .slice aS nq cS, .int .i64 ((pn : Nat) : Int), .int .i64 ((rn : Nat) : Int)], .tuple #[.pointer none, .int .i64 10], .pointer none, .int .i64 10, .agg #[.int .i64 r, .int .i64 s, .int .i64 b, .int .i64 o, .int .i64 c, .int .i64 y, .int .i64 z], .bool true, .bool false, undef, undef, undef, undef, undef, undef, .pointer (some ⟨g1, 0, none⟩), .agg #[.int .i64 r, .int .i64 s, .int .i64 b, .int .i64 o, .int .i64 c], .pointer (some ⟨g2, 0, none⟩), .slice aL nl cL, .int .i64 ((nl : Nat) : Int), .agg #[.int .i64 r, .int .i64 s, .int .i64 b, .int .i64 o, .int .i64 c, .int .i64 y, .int .i64 z], .int .i64 ((sn : Nat) : Int), .bool true, .bool true, .pointer (some ⟨g2, 2, none⟩), .slice aS nq cS, .int .i64 ((nq : Nat) : Int), .pointer (some ⟨g3, 0, none⟩), .int .i64 r, .bool true, .bool true, .bool true, .pointer (some ⟨g2, 3, none⟩), .int .i64 ((pn : Nat) : Int), .bool true, .bool true, .bool true, .pointer (some ⟨g2, 3, none⟩), .int .i64 ((pn : Nat) : Int), .pointer (some ⟨g1, 6, none⟩), .int .i64 z, .bool true, .bool true, .bool true, .pointer (some ⟨g2, 4, none⟩), .int .i64 ((rn : Nat) : Int), .bool true, .bool true, .bool true, .pointer (some ⟨g2, 4, none⟩), .int .i64 ((rn : Nat) : Int), .pointer (some ⟨g3, 1, none⟩), .int .i64 s, .bool true, .bool true, .pointer (some ⟨g2, 1, none⟩), .slice aD nd cD, .int .i64 ((nd : Nat) : Int), .int .i64 ((k1 : Nat) : Int), .bool false, (uf1 2), (uf1 3), (uf1 4), (uf1 5), (uf1 6), (uf1 7), (uf1 8), (uf1 9), (uf1 10), (uf1 11), (uf1 12), (uf1 13), (uf1 14), (uf1 15), (uf1 16), (uf1 17), .pointer (some ⟨g2, 0, none⟩), .slice aL nl cL, .int .i64 ((nl : Nat) : Int), .int .i64 ((k2 : Nat) : Int), .bool true, .int .i64 ((k2 : Nat) : Int), .pointer (some ⟨gL, oL + k2, none⟩), .int .i64 (lL.getD k2 0), .bool false, .bool false, undef, undef, .bool false, .bool false, undef, undef, undef, undef, undef, undef, undef, .bool false, .bool false, undef, undef, undef, undef, undef, .bool false, .bool false, undef, undef, undef, undef, undef, undef, undef, undef, undef, .bool false, (uf2 38), undef, undef, undef, undef, undef, undef, undef, undef, undef, undef, undef, undef, undef, undef, undef, undef, undef, undef, undef, undef, undef, undef, undef, undef, undef, undef, undef, undef, undef, undef, undef, undef, undef, undef, undef, undef, undef, undef, undef, undef, undef, undef, undef, undef, undef, undef, undef, undef, undef, undef, undef, undef, undef, undef, undef, undef, undef, undef, undef, undef, undef, undef, undef, undef], defers := [] } (by kernel_rfl) ?_
                  refine x_blk ?_
                  refine x_then ?_
                  refine x_region ?_
                  refine x_ar (((k2 : Nat) : Int) + 1) ⟨by omega, by omega⟩ (by kernel_rfl) rfl (by kernel_rfl) ?_
                  refine x_val (.int .i64 (((k2 : Nat) : Int) + 1)) (by kernel_rfl) rfl (by kernel_rfl) ?_
                  refine x_nil ?_
                  refine x_then ?_
                  exact ⟨(k2 + 1, false), (by dsimp only; omega), (nthV [.int .i64 ((k2 : Nat) : Int), .int .i64 (lL.getD k2 0), .bool true, .int .i64 ((k2 : Nat) : Int), .pointer (some ⟨gL, oL + k2, none⟩), .int .i64 (lL.getD k2 0), .bool false, .bool false, undef, undef, .bool false, .bool false, undef, undef, undef, undef, undef, undef, undef, .bool false, .bool false, undef, undef, undef, undef, undef, .bool false, .bool false, undef, undef, undef, undef, undef, undef, undef, undef, undef, .bool false, .int .i64 (((k2 : Nat) : Int) + 1)]), (by kernel_rfl), H, (by omega), (by rw [okL, ← Bool.and_assoc, ← r2, h13]; try rfl)⟩
                · skip
                  refine q_val (.int .i64 (lL.getD k2 0)) (by kernel_rfl) (fun _ => by kernel_rfl) ?_
                  refine q_val (.bool (decide (0 ≤ (lL.getD k2 0)))) (by kernel_rfl) (fun _ => by kernel_rfl) ?_
                  refine q_val (.bool (decide (0 ≤ (lL.getD k2 0)))) (by kernel_rfl) (fun _ => by kernel_rfl) ?_
                  refine q_val (.bool (decide (0 ≤ (lL.getD k2 0)))) (by kernel_rfl) (fun _ => by kernel_rfl) ?_
                  cases h14 : decide (0 ≤ (lL.getD k2 0))
                  · skip
                    have h14p := of_decide_eq_false h14
                    refine q_skip (by kernel_rfl) ?_
                    refine q_skip (by kernel_rfl) ?_
                    refine q_skip (by kernel_rfl) ?_
                    refine q_skip (by kernel_rfl) ?_
                    refine q_skip (by kernel_rfl) ?_
                    refine q_skip (by kernel_rfl) ?_
                    refine q_skip (by kernel_rfl) ?_
                    refine q_val (.bool false) (by kernel_rfl) (fun _ => by kernel_rfl) ?_
                    refine q_val (.bool false) (by kernel_rfl) (fun _ => by kernel_rfl) ?_
                    refine q_skip (by kernel_rfl) ?_
                    refine q_skip (by kernel_rfl) ?_
                    refine q_skip (by kernel_rfl) ?_
                    refine q_skip (by kernel_rfl) ?_
                    refine q_skip (by kernel_rfl) ?_
                    refine q_val (.bool false) (by kernel_rfl) (fun _ => by kernel_rfl) ?_
                    refine q_val (.bool false) (by kernel_rfl) (fun _ => by kernel_rfl) ?_
                    refine q_skip (by kernel_rfl) ?_
                    refine q_skip (by kernel_rfl) ?_
                    refine q_skip (by kernel_rfl) ?_
                    refine q_skip (by kernel_rfl) ?_
                    refine q_skip (by kernel_rfl) ?_
                    refine q_skip (by kernel_rfl) ?_
                    refine q_skip (by kernel_rfl) ?_
                    refine q_skip (by kernel_rfl) ?_
                    refine q_skip (by kernel_rfl) ?_
                    refine q_val (.bool false) (by kernel_rfl) (fun _ => by kernel_rfl) ?_
                    refine q_val (.bool false) (by kernel_rfl) (fun _ => by kernel_rfl) ?_
                    refine q_nil ?_
                    clear H
                    intro v14 H
                    refine x_frame' { tmps := #[.agg #[.int .i64 r, .int .i64 s, .int .i64 b, .int .i64 o, .int .i64 c, .int .i64 y, .int .i64 z], .agg #[.slice aL nl cL, .slice aD nd cD, .slice aS nq cS, .int .i64 ((pn : Nat) : Int), .int .i64 ((rn : Nat) : Int)], .pointer (some ⟨g1, 0, none⟩), .pointer (some ⟨g2, 0, none⟩), .bool false, .pointer none, .int .i64 10, .pointer (some ⟨g3, 0, none⟩), .bool false, .int .i64 (lastD lD k1), undef, (uf1 0), .int .i64 ((k2 : Nat) : Int), .int .i64 (lL.getD k2 0), undef, undef, undef, undef, undef, undef, .bool true, .bool false, .agg #[.int .i64 r, .int .i64 s, .int .i64 b, .int .i64 o, .int .i64 c, .int .i64 y, .int .i64 z], .bool true, .bool false, .bool false, .pointer (some ⟨g2, 0, none⟩), .slice aL nl cL, .int .i64 ((nl : Nat) : Int), .bool false, .bool false, .bool false, .pointer (some ⟨g2, 1, none⟩), .slice aD nd cD, .int .i64 ((nd : Nat) : Int), .bool false, .bool false, .bool false, .pointer (some ⟨g2, 2, none⟩), .slice aS nq cS, .int .i64 ((nq : Nat) : Int), .bool false, .bool false, .tuple #[.pointer none, .int .i64 10], .agg #[.int .i64 r, .int .i64 s, .int .i64 b, .int .i64 o, .int .i64 c, .int .i64 y, .int .i64 z], .agg #[.slice aL nl cL, .slice aD nd cD, .slice aS nq cS, .int .i64 ((pn : Nat) : Int), .int .i64 ((rn : Nat) : Int)], .tuple #[.pointer none, .int .i64 10], .pointer none, .int .i64 10, .agg #[.int .i64 r, .int .i64 s, .int .i64 b, .int .i64 o, .int .i64 c, .int .i64 y, .int .i64 z], .bool true, .bool false, undef, undef, undef, undef, undef, undef, .pointer (some ⟨g1, 0, none⟩), .agg #[.int .i64 r, .int .i64 s, .int .i64 b, .int .i64 o, .int .i64 c], .pointer (some ⟨g2, 0, none⟩), .slice aL nl cL, .int .i64 ((nl : Nat) : Int), .agg #[.int .i64 r, .int .i64 s, .int .i64 b, .int .i64 o, .int .i64 c, .int .i64 y, .int .i64 z], .int .i64 ((sn : Nat) : Int), .bool true, .bool true, .pointer (some ⟨g2, 2, none⟩), .slice aS nq cS, .int .i64 ((nq : Nat) : Int), .pointer (some ⟨g3, 0, none⟩), .int .i64 r, .bool true, .bool true, .bool true, .pointer (some ⟨g2, 3, none⟩), .int .i64 ((pn : Nat) : Int), .bool true, .bool true, .bool true, .pointer (some ⟨g2, 3, none⟩), .int .i64 ((pn : Nat) : Int), .pointer (some ⟨g1, 6, none⟩), .int .i64 z, .bool true, .bool true, .bool true, .pointer (some ⟨g2, 4, none⟩), .int .i64 ((rn : Nat) : Int), .bool true, .bool true, .bool true, .pointer (some ⟨g2, 4, none⟩), .int .i64 ((rn : Nat) : Int), .pointer (some ⟨g3, 1, none⟩), .int .i64 s, .bool true, .bool true, .pointer (some ⟨g2, 1, none⟩), .slice aD nd cD, .int .i64 ((nd : Nat) : Int), .int .i64 ((k1 : Nat) : Int), .bool false, (uf1 2), (uf1 3), (uf1 4), (uf1 5), (uf1 6), (uf1 7), (uf1 8), (uf1 9), (uf1 10), (uf1 11), (uf1 12), (uf1 13), (uf1 14), (uf1 15), (uf1 16), (uf1 17), .pointer (some ⟨g2, 0, none⟩), .slice aL nl cL, .int .i64 ((nl : Nat) : Int), .int .i64 ((k2 : Nat) : Int), .bool true, .int .i64 ((k2 : Nat) : Int), .pointer (some ⟨gL, oL + k2, none⟩), .int .i64 (lL.getD k2 0), .bool true, .bool true, .int .i64 (lL.getD k2 0), .bool false, .bool false, .bool false, undef, undef, undef, undef, undef, undef, undef, .bool false, .bool false, undef, undef, undef, undef, undef, .bool false, .bool false, undef, undef, undef, undef, undef, undef, undef, undef, undef, .bool false, (uf2 38), undef, undef, undef, undef, undef, undef, undef, undef, undef, undef, undef, undef, undef, undef, undef, undef, undef, undef, undef, undef, undef, undef, undef, undef, undef, undef, undef, undef, undef, undef, undef, undef, undef, undef, undef, undef, undef, undef, undef, undef, undef, undef, undef, undef, undef, undef, undef, undef, undef, undef, undef, undef, undef, undef, undef, undef, undef, undef, undef, undef, undef, undef, undef, undef], defers := [] } (by kernel_rfl) ?_
                    refine x_blk ?_
                    refine x_then ?_
                    refine x_region ?_
                    refine x_ar (((k2 : Nat) : Int) + 1) ⟨by omega, by omega⟩ (by kernel_rfl) rfl (by kernel_rfl) ?_
                    refine x_val (.int .i64 (((k2 : Nat) : Int) + 1)) (by kernel_rfl) rfl (by kernel_rfl) ?_
                    refine x_nil ?_
                    refine x_then ?_
                    exact ⟨(k2 + 1, false), (by dsimp only; omega), (nthV [.int .i64 ((k2 : Nat) : Int), .int .i64 (lL.getD k2 0), .bool true, .int .i64 ((k2 : Nat) : Int), .pointer (some ⟨gL, oL + k2, none⟩), .int .i64 (lL.getD k2 0), .bool true, .bool true, .int .i64 (lL.getD k2 0), .bool false, .bool false, .bool false, undef, undef, undef, undef, undef, undef, undef, .bool false, .bool false, undef, undef, undef, undef, undef, .bool false, .bool false, undef, undef, undef, undef, undef, undef, undef, undef, undef, .bool false, .int .i64 (((k2 : Nat) : Int) + 1)]), (by kernel_rfl), H, (by omega), (by rw [okL, ← Bool.and_assoc, ← r2, h13, h14]; try rfl)⟩
                  · skip
                    have h14p := of_decide_eq_true h14
                    refine q_val (.int .i64 (lL.getD k2 0)) (by kernel_rfl) (fun _ => by kernel_rfl) ?_
                    refine q_loadn (t := 69) 2 g1 0 #[.int .i64 r, .int .i64 s, .int .i64 b, .int .i64 o, .int .i64 c, .int .i64 y, .int .i64 z] 69 [.int .i64 r, .int .i64 s, .int .i64 b, .int .i64 o, .int .i64 c, .int .i64 y, .int .i64 z] (by kernel_rfl) (by kernel_rfl) (by kernel_rfl) (by kernel_rfl) (by kernel_rfl) ?_
                    refine q_callB (.int .i64 ((sn : Nat) : Int)) (by kernel_rfl) (fun _ => by kernel_rfl) (fun _ => (seen_of hL _)) ?_
                    refine q_val (.pointer (some ⟨g2, 3, none⟩)) (by kernel_rfl) (fun _ => by kernel_rfl) ?_
                    refine q_load1 1 g2 3 #[.slice aL nl cL, .slice aD nd cD, .slice aS nq cS, .int .i64 ((pn : Nat) : Int), .int .i64 ((rn : Nat) : Int)] 142 (.int .i64 ((pn : Nat) : Int)) (by kernel_rfl) (by kernel_rfl) (by kernel_rfl) (fun _ => by kernel_rfl) ?_
                    refine q_ar (((sn : Nat) : Int) + ((pn : Nat) : Int)) ⟨by omega, by omega⟩ (by kernel_rfl) (fun _ => by kernel_rfl) ?_
                    refine q_val (.bool (decide ((lL.getD k2 0) < (((sn : Nat) : Int) + ((pn : Nat) : Int))))) (by kernel_rfl) (fun _ => by kernel_rfl) ?_
                    refine q_val (.bool (decide ((lL.getD k2 0) < (((sn : Nat) : Int) + ((pn : Nat) : Int))))) (by kernel_rfl) (fun _ => by kernel_rfl) ?_
                    refine q_val (.bool (decide ((lL.getD k2 0) < (((sn : Nat) : Int) + ((pn : Nat) : Int))))) (by kernel_rfl) (fun _ => by kernel_rfl) ?_
                    cases h15 : decide ((lL.getD k2 0) < (((sn : Nat) : Int) + ((pn : Nat) : Int)))
                    · skip
                      have h15p := of_decide_eq_false h15
                      refine q_skip (by kernel_rfl) ?_
                      refine q_skip (by kernel_rfl) ?_
                      refine q_skip (by kernel_rfl) ?_
                      refine q_skip (by kernel_rfl) ?_
                      refine q_skip (by kernel_rfl) ?_
                      refine q_val (.bool false) (by kernel_rfl) (fun _ => by kernel_rfl) ?_
                      refine q_val (.bool false) (by kernel_rfl) (fun _ => by kernel_rfl) ?_
                      refine q_skip (by kernel_rfl) ?_
                      refine q_skip (by kernel_rfl) ?_
                      refine q_skip (by kernel_rfl) ?_
                      refine q_skip (by kernel_rfl) ?_
                      refine q_skip (by kernel_rfl) ?_
                      refine q_skip (by kernel_rfl) ?_
                      refine q_skip (by kernel_rfl) ?_
                      refine q_skip (by kernel_rfl) ?_
                      refine q_skip (by kernel_rfl) ?_
                      refine q_val (.bool false) (by kernel_rfl) (fun _ => by kernel_rfl) ?_
                      refine q_val (.bool false) (by kernel_rfl) (fun _ => by kernel_rfl) ?_
                      refine q_nil ?_
                      clear H
                      intro v15 H
                      refine x_frame' { tmps := #[.agg #[.int .i64 r, .int .i64 s, .int .i64 b, .int .i64 o, .int .i64 c, .int .i64 y, .int .i64 z], .agg #[.slice aL nl cL, .slice aD nd cD, .slice aS nq cS, .int .i64 ((pn : Nat) : Int), .int .i64 ((rn : Nat) : Int)], .pointer (some ⟨g1, 0, none⟩), .pointer (some ⟨g2, 0, none⟩), .bool false, .pointer none, .int .i64 10, .pointer (some ⟨g3, 0, none⟩), .bool false, .int .i64 (lastD lD k1), undef, (uf1 0), .int .i64 ((k2 : Nat) : Int), .int .i64 (lL.getD k2 0), undef, undef, undef, undef, undef, undef, .bool true, .bool false, .agg #[.int .i64 r, .int .i64 s, .int .i64 b, .int .i64 o, .int .i64 c, .int .i64 y, .int .i64 z], .bool true, .bool false, .bool false, .pointer (some ⟨g2, 0, none⟩), .slice aL nl cL, .int .i64 ((nl : Nat) : Int), .bool false, .bool false, .bool false, .pointer (some ⟨g2, 1, none⟩), .slice aD nd cD, .int .i64 ((nd : Nat) : Int), .bool false, .bool false, .bool false, .pointer (some ⟨g2, 2, none⟩), .slice aS nq cS, .int .i64 ((nq : Nat) : Int), .bool false, .bool false, .tuple #[.pointer none, .int .i64 10], .agg #[.int .i64 r, .int .i64 s, .int .i64 b, .int .i64 o, .int .i64 c, .int .i64 y, .int .i64 z], .agg #[.slice aL nl cL, .slice aD nd cD, .slice aS nq cS, .int .i64 ((pn : Nat) : Int), .int .i64 ((rn : Nat) : Int)], .tuple #[.pointer none, .int .i64 10], .pointer none, .int .i64 10, .agg #[.int .i64 r, .int .i64 s, .int .i64 b, .int .i64 o, .int .i64 c, .int .i64 y, .int .i64 z], .bool true, .bool false, undef, undef, undef, undef, undef, undef, .pointer (some ⟨g1, 0, none⟩), .agg #[.int .i64 r, .int .i64 s, .int .i64 b, .int .i64 o, .int .i64 c], .pointer (some ⟨g2, 0, none⟩), .slice aL nl cL, .int .i64 ((nl : Nat) : Int), .agg #[.int .i64 r, .int .i64 s, .int .i64 b, .int .i64 o, .int .i64 c, .int .i64 y, .int .i64 z], .int .i64 ((sn : Nat) : Int), .bool true, .bool true, .pointer (some ⟨g2, 2, none⟩), .slice aS nq cS, .int .i64 ((nq : Nat) : Int), .pointer (some ⟨g3, 0, none⟩), .int .i64 r, .bool true, .bool true, .bool true, .pointer (some ⟨g2, 3, none⟩), .int .i64 ((pn : Nat) : Int), .bool true, .bool true, .bool true, .pointer (some ⟨g2, 3, none⟩), .int .i64 ((pn : Nat) : Int), .pointer (some ⟨g1, 6, none⟩), .int .i64 z, .bool true, .bool true, .bool true, .pointer (some ⟨g2, 4, none⟩), .int .i64 ((rn : Nat) : Int), .bool true, .bool true, .bool true, .pointer (some ⟨g2, 4, none⟩), .int .i64 ((rn : Nat) : Int), .pointer (some ⟨g3, 1, none⟩), .int .i64 s, .bool true, .bool true, .pointer (some ⟨g2, 1, none⟩), .slice aD nd cD, .int .i64 ((nd : Nat) : Int), .int .i64 ((k1 : Nat) : Int), .bool false, (uf1 2), (uf1 3), (uf1 4), (uf1 5), (uf1 6), (uf1 7), (uf1 8), (uf1 9), (uf1 10), (uf1 11), (uf1 12), (uf1 13), (uf1 14), (uf1 15), (uf1 16), (uf1 17), .pointer (some ⟨g2, 0, none⟩), .slice aL nl cL, .int .i64 ((nl : Nat) : Int), .int .i64 ((k2 : Nat) : Int), .bool true, .int .i64 ((k2 : Nat) : Int), .pointer (some ⟨gL, oL + k2, none⟩), .int .i64 (lL.getD k2 0), .bool true, .bool true, .int .i64 (lL.getD k2 0), .bool true, .bool true, .bool true, .int .i64 (lL.getD k2 0), .agg #[.int .i64 r, .int .i64 s, .int .i64 b, .int .i64 o, .int .i64 c, .int .i64 y, .int .i64 z], .int .i64 ((sn : Nat) : Int), .pointer (some ⟨g2, 3, none⟩), .int .i64 ((pn : Nat) : Int), .int .i64 (((sn : Nat) : Int) + ((pn : Nat) : Int)), .bool false, .bool false, .bool false, undef, undef, undef, undef, undef, .bool false, .bool false, undef, undef, undef, undef, undef, undef, undef, undef, undef, .bool false, (uf2 38), undef, undef, undef, undef, undef, undef, undef, undef, undef, undef, undef, undef, undef, undef, undef, undef, undef, undef, undef, undef, undef, undef, undef, undef, undef, undef, undef, undef, undef, undef, undef, undef, undef, undef, undef, undef, undef, undef, undef, undef, undef, undef, undef, undef, undef, undef, undef, undef, undef, undef, undef, undef, undef, undef, undef, undef, undef, undef, undef, undef, undef, undef, undef, undef], defers := [] } (by kernel_rfl) ?_
                      refine x_blk ?_
                      refine x_then ?_
                      refine x_region ?_
                      refine x_ar (((k2 : Nat) : Int) + 1) ⟨by omega, by omega⟩ (by kernel_rfl) rfl (by kernel_rfl) ?_
                      refine x_val (.int .i64 (((k2 : Nat) : Int) + 1)) (by kernel_rfl) rfl (by kernel_rfl) ?_
                      refine x_nil ?_
                      refine x_then ?_
                      exact ⟨(k2 + 1, false), (by dsimp only; omega), (nthV [.int .i64 ((k2 : Nat) : Int), .int .i64 (lL.getD k2 0), .bool true, .int .i64 ((k2 : Nat) : Int), .pointer (some ⟨gL, oL + k2, none⟩), .int .i64 (lL.getD k2 0), .bool true, .bool true, .int .i64 (lL.getD k2 0), .bool true, .bool true, .bool true, .int .i64 (lL.getD k2 0), .agg #[.int .i64 r, .int .i64 s, .int .i64 b, .int .i64 o, .int .i64 c, .int .i64 y, .int .i64 z], .int .i64 ((sn : Nat) : Int), .pointer (some ⟨g2, 3, none⟩), .int .i64 ((pn : Nat) : Int), .int .i64 (((sn : Nat) : Int) + ((pn : Nat) : Int)), .bool false, .bool false, .bool false, undef, undef, undef, undef, undef, .bool false, .bool false, undef, undef, undef, undef, undef, undef, undef, undef, undef, .bool false, .int .i64 (((k2 : Nat) : Int) + 1)]), (by kernel_rfl), H, (by omega), (by rw [okL, ← Bool.and_assoc, ← r2, h13, h14, h15]; try rfl)⟩
                    · skip
                      have h15p := of_decide_eq_true h15
                      refine q_val (.pointer (some ⟨g2, 1, none⟩)) (by kernel_rfl) (fun _ => by kernel_rfl) ?_
                      refine q_load1 1 g2 1 #[.slice aL nl cL, .slice aD nd cD, .slice aS nq cS, .int .i64 ((pn : Nat) : Int), .int .i64 ((rn : Nat) : Int)] 142 (.slice aD nd cD) (by kernel_rfl) (by kernel_rfl) (by kernel_rfl) (fun _ => by kernel_rfl) ?_
                      refine q_val (.int .i64 (lL.getD k2 0)) (by kernel_rfl) (fun _ => by kernel_rfl) ?_
                      refine q_callR (.bool (hasK lD nd (lL.getD k2 0))) (by kernel_rfl) (fun _ => by kernel_rfl) (fun _ H => (has_at aD nd cD lD (lL.getD k2 0) (by omega) _ (hID.at H.below))) ?_
                      refine q_val (.bool (!(hasK lD nd (lL.getD k2 0)))) (by kernel_rfl) (fun _ => by kernel_rfl) ?_
                      refine q_val (.bool (!(hasK lD nd (lL.getD k2 0)))) (by kernel_rfl) (fun _ => by kernel_rfl) ?_
                      refine q_val (.bool (!(hasK lD nd (lL.getD k2 0)))) (by kernel_rfl) (fun _ => by kernel_rfl) ?_
                      cases h16 : hasK lD nd (lL.getD k2 0)
                      · skip
                        refine q_val (.int .i64 (lL.getD k2 0)) (by kernel_rfl) (fun _ => by kernel_rfl) ?_
                        refine q_val (.int .i64 ((k2 : Nat) : Int)) (by kernel_rfl) (fun _ => by kernel_rfl) ?_
                        refine q_val (.bool (decide ((lL.getD k2 0) = ((k2 : Nat) : Int)))) (by kernel_rfl) (fun _ => by kernel_rfl) ?_
                        refine q_val (.bool (decide ((lL.getD k2 0) = ((k2 : Nat) : Int)))) (by kernel_rfl) (fun _ => by kernel_rfl) ?_
                        cases h17 : decide ((lL.getD k2 0) = ((k2 : Nat) : Int))
                        · skip
                          have h17p := of_decide_eq_false h17
                          refine q_val (.pointer (some ⟨g2, 1, none⟩)) (by kernel_rfl) (fun _ => by kernel_rfl) ?_
                          refine q_load1 1 g2 1 #[.slice aL nl cL, .slice aD nd cD, .slice aS nq cS, .int .i64 ((pn : Nat) : Int), .int .i64 ((rn : Nat) : Int)] 142 (.slice aD nd cD) (by kernel_rfl) (by kernel_rfl) (by kernel_rfl) (fun _ => by kernel_rfl) ?_
                          refine q_val (.int .i64 ((k2 : Nat) : Int)) (by kernel_rfl) (fun _ => by kernel_rfl) ?_
                          refine q_callR (.bool (hasK lD nd ((k2 : Nat) : Int))) (by kernel_rfl) (fun _ => by kernel_rfl) (fun _ H => (has_at aD nd cD lD ((k2 : Nat) : Int) (by omega) _ (hID.at H.below))) ?_
                          refine q_val (.bool (hasK lD nd ((k2 : Nat) : Int))) (by kernel_rfl) (fun _ => by kernel_rfl) ?_
                          refine q_val (.bool (hasK lD nd ((k2 : Nat) : Int))) (by kernel_rfl) (fun _ => by kernel_rfl) ?_
                          refine q_val (.bool (hasK lD nd ((k2 : Nat) : Int))) (by kernel_rfl) (fun _ => by kernel_rfl) ?_
                          refine q_nil ?_
                          clear H
                          intro v16 H
                          refine x_frame' { tmps := #[.agg #[.int .i64 r, .int .i64 s, .int .i64 b, .int .i64 o, .int .i64 c, .int .i64 y, .int .i64 z], .agg #[.slice aL nl cL, .slice aD nd cD, .slice aS nq cS, .int .i64 ((pn : Nat) : Int), .int .i64 ((rn : Nat) : Int)], .pointer (some ⟨g1, 0, none⟩), .pointer (some ⟨g2, 0, none⟩), .bool false, .pointer none, .int .i64 10, .pointer (some ⟨g3, 0, none⟩), .bool (hasK lD nd ((k2 : Nat) : Int)), .int .i64 (lastD lD k1), undef, (uf1 0), .int .i64 ((k2 : Nat) : Int), .int .i64 (lL.getD k2 0), undef, undef, undef, undef, undef, undef, .bool true, .bool false, .agg #[.int .i64 r, .int .i64 s, .int .i64 b, .int .i64 o, .int .i64 c, .int .i64 y, .int .i64 z], .bool true, .bool false, .bool false, .pointer (some ⟨g2, 0, none⟩), .slice aL nl cL, .int .i64 ((nl : Nat) : Int), .bool false, .bool false, .bool false, .pointer (some ⟨g2, 1, none⟩), .slice aD nd cD, .int .i64 ((nd : Nat) : Int), .bool false, .bool false, .bool false, .pointer (some ⟨g2, 2, none⟩), .slice aS nq cS, .int .i64 ((nq : Nat) : Int), .bool false, .bool false, .tuple #[.pointer none, .int .i64 10], .agg #[.int .i64 r, .int .i64 s, .int .i64 b, .int .i64 o, .int .i64 c, .int .i64 y, .int .i64 z], .agg #[.slice aL nl cL, .slice aD nd cD, .slice aS nq cS, .int .i64 ((pn : Nat) : Int), .int .i64 ((rn : Nat) : Int)], .tuple #[.pointer none, .int .i64 10], .pointer none, .int .i64 10, .agg #[.int .i64 r, .int .i64 s, .int .i64 b, .int .i64 o, .int .i64 c, .int .i64 y, .int .i64 z], .bool true, .bool false, undef, undef, undef, undef, undef, undef, .pointer (some ⟨g1, 0, none⟩), .agg #[.int .i64 r, .int .i64 s, .int .i64 b, .int .i64 o, .int .i64 c], .pointer (some ⟨g2, 0, none⟩), .slice aL nl cL, .int .i64 ((nl : Nat) : Int), .agg #[.int .i64 r, .int .i64 s, .int .i64 b, .int .i64 o, .int .i64 c, .int .i64 y, .int .i64 z], .int .i64 ((sn : Nat) : Int), .bool true, .bool true, .pointer (some ⟨g2, 2, none⟩), .slice aS nq cS, .int .i64 ((nq : Nat) : Int), .pointer (some ⟨g3, 0, none⟩), .int .i64 r, .bool true, .bool true, .bool true, .pointer (some ⟨g2, 3, none⟩), .int .i64 ((pn : Nat) : Int), .bool true, .bool true, .bool true, .pointer (some ⟨g2, 3, none⟩), .int .i64 ((pn : Nat) : Int), .pointer (some ⟨g1, 6, none⟩), .int .i64 z, .bool true, .bool true, .bool true, .pointer (some ⟨g2, 4, none⟩), .int .i64 ((rn : Nat) : Int), .bool true, .bool true, .bool true, .pointer (some ⟨g2, 4, none⟩), .int .i64 ((rn : Nat) : Int), .pointer (some ⟨g3, 1, none⟩), .int .i64 s, .bool true, .bool true, .pointer (some ⟨g2, 1, none⟩), .slice aD nd cD, .int .i64 ((nd : Nat) : Int), .int .i64 ((k1 : Nat) : Int), .bool false, (uf1 2), (uf1 3), (uf1 4), (uf1 5), (uf1 6), (uf1 7), (uf1 8), (uf1 9), (uf1 10), (uf1 11), (uf1 12), (uf1 13), (uf1 14), (uf1 15), (uf1 16), (uf1 17), .pointer (some ⟨g2, 0, none⟩), .slice aL nl cL, .int .i64 ((nl : Nat) : Int), .int .i64 ((k2 : Nat) : Int), .bool true, .int .i64 ((k2 : Nat) : Int), .pointer (some ⟨gL, oL + k2, none⟩), .int .i64 (lL.getD k2 0), .bool true, .bool true, .int .i64 (lL.getD k2 0), .bool true, .bool true, .bool true, .int .i64 (lL.getD k2 0), .agg #[.int .i64 r, .int .i64 s, .int .i64 b, .int .i64 o, .int .i64 c, .int .i64 y, .int .i64 z], .int .i64 ((sn : Nat) : Int), .pointer (some ⟨g2, 3, none⟩), .int .i64 ((pn : Nat) : Int), .int .i64 (((sn : Nat) : Int) + ((pn : Nat) : Int)), .bool true, .bool true, .bool true, .pointer (some ⟨g2, 1, none⟩), .slice aD nd cD, .int .i64 (lL.getD k2 0), .bool false, .bool true, .bool true, .bool true, .int .i64 (lL.getD k2 0), .int .i64 ((k2 : Nat) : Int), .bool false, .bool false, .pointer (some ⟨g2, 1, none⟩), .slice aD nd cD, .int .i64 ((k2 : Nat) : Int), .bool (hasK lD nd ((k2 : Nat) : Int)), .bool (hasK lD nd ((k2 : Nat) : Int)), .bool (hasK lD nd ((k2 : Nat) : Int)), (uf2 38), undef, undef, undef, undef, undef, undef, undef, undef, undef, undef, undef, undef, undef, undef, undef, undef, undef, undef, undef, undef, undef, undef, undef, undef, undef, undef, undef, undef, undef, undef, undef, undef, undef, undef, undef, undef, undef, undef, undef, undef, undef, undef, undef, undef, undef, undef, undef, undef, undef, undef, undef, undef, undef, undef, undef, undef, undef, undef, undef, undef, undef, undef, undef, undef], defers := [] } (by kernel_rfl) ?_
                          refine x_blk ?_
                          refine x_then ?_
                          refine x_region ?_
                          refine x_ar (((k2 : Nat) : Int) + 1) ⟨by omega, by omega⟩ (by kernel_rfl) rfl (by kernel_rfl) ?_
                          refine x_val (.int .i64 (((k2 : Nat) : Int) + 1)) (by kernel_rfl) rfl (by kernel_rfl) ?_
                          refine x_nil ?_
                          refine x_then ?_
                          exact ⟨(k2 + 1, (hasK lD nd ((k2 : Nat) : Int))), (by dsimp only; omega), (nthV [.int .i64 ((k2 : Nat) : Int), .int .i64 (lL.getD k2 0), .bool true, .int .i64 ((k2 : Nat) : Int), .pointer (some ⟨gL, oL + k2, none⟩), .int .i64 (lL.getD k2 0), .bool true, .bool true, .int .i64 (lL.getD k2 0), .bool true, .bool true, .bool true, .int .i64 (lL.getD k2 0), .agg #[.int .i64 r, .int .i64 s, .int .i64 b, .int .i64 o, .int .i64 c, .int .i64 y, .int .i64 z], .int .i64 ((sn : Nat) : Int), .pointer (some ⟨g2, 3, none⟩), .int .i64 ((pn : Nat) : Int), .int .i64 (((sn : Nat) : Int) + ((pn : Nat) : Int)), .bool true, .bool true, .bool true, .pointer (some ⟨g2, 1, none⟩), .slice aD nd cD, .int .i64 (lL.getD k2 0), .bool false, .bool true, .bool true, .bool true, .int .i64 (lL.getD k2 0), .int .i64 ((k2 : Nat) : Int), .bool false, .bool false, .pointer (some ⟨g2, 1, none⟩), .slice aD nd cD, .int .i64 ((k2 : Nat) : Int), .bool (hasK lD nd ((k2 : Nat) : Int)), .bool (hasK lD nd ((k2 : Nat) : Int)), .bool (hasK lD nd ((k2 : Nat) : Int)), .int .i64 (((k2 : Nat) : Int) + 1)]), (by kernel_rfl), H, (by omega), (by rw [okL, ← Bool.and_assoc, ← r2, h13, h14, h15, h16, h17]; try rfl)⟩
                        · skip
                          have h17p := of_decide_eq_true h17
                          refine q_skip (by kernel_rfl) ?_
                          refine q_skip (by kernel_rfl) ?_
                          refine q_skip (by kernel_rfl) ?_
                          refine q_skip (by kernel_rfl) ?_
                          refine q_val (.bool true) (by kernel_rfl) (fun _ => by kernel_rfl) ?_
                          refine q_val (.bool true) (by kernel_rfl) (fun _ => by kernel_rfl) ?_
                          refine q_val (.bool true) (by kernel_rfl) (fun _ => by kernel_rfl) ?_
                          refine q_nil ?_
                          clear H
                          intro v17 H
                          refine x_frame' { tmps := #[.agg #[.int .i64 r, .int .i64 s, .int .i64 b, .int .i64 o, .int .i64 c, .int .i64 y, .int .i64 z], .agg #[.slice aL nl cL, .slice aD nd cD, .slice aS nq cS, .int .i64 ((pn : Nat) : Int), .int .i64 ((rn : Nat) : Int)], .pointer (some ⟨g1, 0, none⟩), .pointer (some ⟨g2, 0, none⟩), .bool false, .pointer none, .int .i64 10, .pointer (some ⟨g3, 0, none⟩), .bool true, .int .i64 (lastD lD k1), undef, (uf1 0), .int .i64 ((k2 : Nat) : Int), .int .i64 (lL.getD k2 0), undef, undef, undef, undef, undef, undef, .bool true, .bool false, .agg #[.int .i64 r, .int .i64 s, .int .i64 b, .int .i64 o, .int .i64 c, .int .i64 y, .int .i64 z], .bool true, .bool false, .bool false, .pointer (some ⟨g2, 0, none⟩), .slice aL nl cL, .int .i64 ((nl : Nat) : Int), .bool false, .bool false, .bool false, .pointer (some ⟨g2, 1, none⟩), .slice aD nd cD, .int .i64 ((nd : Nat) : Int), .bool false, .bool false, .bool false, .pointer (some ⟨g2, 2, none⟩), .slice aS nq cS, .int .i64 ((nq : Nat) : Int), .bool false, .bool false, .tuple #[.pointer none, .int .i64 10], .agg #[.int .i64 r, .int .i64 s, .int .i64 b, .int .i64 o, .int .i64 c, .int .i64 y, .int .i64 z], .agg #[.slice aL nl cL, .slice aD nd cD, .slice aS nq cS, .int .i64 ((pn : Nat) : Int), .int .i64 ((rn : Nat) : Int)], .tuple #[.pointer none, .int .i64 10], .pointer none, .int .i64 10, .agg #[.int .i64 r, .int .i64 s, .int .i64 b, .int .i64 o, .int .i64 c, .int .i64 y, .int .i64 z], .bool true, .bool false, undef, undef, undef, undef, undef, undef, .pointer (some ⟨g1, 0, none⟩), .agg #[.int .i64 r, .int .i64 s, .int .i64 b, .int .i64 o, .int .i64 c], .pointer (some ⟨g2, 0, none⟩), .slice aL nl cL, .int .i64 ((nl : Nat) : Int), .agg #[.int .i64 r, .int .i64 s, .int .i64 b, .int .i64 o, .int .i64 c, .int .i64 y, .int .i64 z], .int .i64 ((sn : Nat) : Int), .bool true, .bool true, .pointer (some ⟨g2, 2, none⟩), .slice aS nq cS, .int .i64 ((nq : Nat) : Int), .pointer (some ⟨g3, 0, none⟩), .int .i64 r, .bool true, .bool true, .bool true, .pointer (some ⟨g2, 3, none⟩), .int .i64 ((pn : Nat) : Int), .bool true, .bool true, .bool true, .pointer (some ⟨g2, 3, none⟩), .int .i64 ((pn : Nat) : Int), .pointer (some ⟨g1, 6, none⟩), .int .i64 z, .bool true, .bool true, .bool true, .pointer (some ⟨g2, 4, none⟩), .int .i64 ((rn : Nat) : Int), .bool true, .bool true, .bool true, .pointer (some ⟨g2, 4, none⟩), .int .i64 ((rn : Nat) : Int), .pointer (some ⟨g3, 1, none⟩), .int .i64 s, .bool true, .bool true, .pointer (some ⟨g2, 1, none⟩), .slice aD nd cD, .int .i64 ((nd : Nat) : Int), .int .i64 ((k1 : Nat) : Int), .bool false, (uf1 2), (uf1 3), (uf1 4), (uf1 5), (uf1 6), (uf1 7), (uf1 8), (uf1 9), (uf1 10), (uf1 11), (uf1 12), (uf1 13), (uf1 14), (uf1 15), (uf1 16), (uf1 17), .pointer (some ⟨g2, 0, none⟩), .slice aL nl cL, .int .i64 ((nl : Nat) : Int), .int .i64 ((k2 : Nat) : Int), .bool true, .int .i64 ((k2 : Nat) : Int), .pointer (some ⟨gL, oL + k2, none⟩), .int .i64 (lL.getD k2 0), .bool true, .bool true, .int .i64 (lL.getD k2 0), .bool true, .bool true, .bool true, .int .i64 (lL.getD k2 0), .agg #[.int .i64 r, .int .i64 s, .int .i64 b, .int .i64 o, .int .i64 c, .int .i64 y, .int .i64 z], .int .i64 ((sn : Nat) : Int), .pointer (some ⟨g2, 3, none⟩), .int .i64 ((pn : Nat) : Int), .int .i64 (((sn : Nat) : Int) + ((pn : Nat) : Int)), .bool true, .bool true, .bool true, .pointer (some ⟨g2, 1, none⟩), .slice aD nd cD, .int .i64 (lL.getD k2 0), .bool false, .bool true, .bool true, .bool true, .int .i64 (lL.getD k2 0), .int .i64 ((k2 : Nat) : Int), .bool true, .bool true, undef, undef, undef, undef, .bool true, .bool true, (uf2 38), undef, undef, undef, undef, undef, undef, undef, undef, undef, undef, undef, undef, undef, undef, undef, undef, undef, undef, undef, undef, undef, undef, undef, undef, undef, undef, undef, undef, undef, undef, undef, undef, undef, undef, undef, undef, undef, undef, undef, undef, undef, undef, undef, undef, undef, undef, undef, undef, undef, undef, undef, undef, undef, undef, undef, undef, undef, undef, undef, undef, undef, undef, undef, undef], defers := [] } (by kernel_rfl) ?_
                          refine x_blk ?_
                          refine x_then ?_
                          refine x_region ?_
                          refine x_ar (((k2 : Nat) : Int) + 1) ⟨by omega, by omega⟩ (by kernel_rfl) rfl (by kernel_rfl) ?_
                          refine x_val (.int .i64 (((k2 : Nat) : Int) + 1)) (by kernel_rfl) rfl (by kernel_rfl) ?_
                          refine x_nil ?_
                          refine x_then ?_
                          exact ⟨(k2 + 1, true), (by dsimp only; omega), (nthV [.int .i64 ((k2 : Nat) : Int), .int .i64 (lL.getD k2 0), .bool true, .int .i64 ((k2 : Nat) : Int), .pointer (some ⟨gL, oL + k2, none⟩), .int .i64 (lL.getD k2 0), .bool true, .bool true, .int .i64 (lL.getD k2 0), .bool true, .bool true, .bool true, .int .i64 (lL.getD k2 0), .agg #[.int .i64 r, .int .i64 s, .int .i64 b, .int .i64 o, .int .i64 c, .int .i64 y, .int .i64 z], .int .i64 ((sn : Nat) : Int), .pointer (some ⟨g2, 3, none⟩), .int .i64 ((pn : Nat) : Int), .int .i64 (((sn : Nat) : Int) + ((pn : Nat) : Int)), .bool true, .bool true, .bool true, .pointer (some ⟨g2, 1, none⟩), .slice aD nd cD, .int .i64 (lL.getD k2 0), .bool false, .bool true, .bool true, .bool true, .int .i64 (lL.getD k2 0), .int .i64 ((k2 : Nat) : Int), .bool true, .bool true, undef, undef, undef, undef, .bool true, .bool true, .int .i64 (((k2 : Nat) : Int) + 1)]), (by kernel_rfl), H, (by omega), (by rw [okL, ← Bool.and_assoc, ← r2, h13, h14, h15, h16, h17]; try rfl)⟩
                      · skip
                        refine q_skip (by kernel_rfl) ?_
                        refine q_skip (by kernel_rfl) ?_
                        refine q_skip (by kernel_rfl) ?_
                        refine q_skip (by kernel_rfl) ?_
                        refine q_skip (by kernel_rfl) ?_
                        refine q_skip (by kernel_rfl) ?_
                        refine q_skip (by kernel_rfl) ?_
                        refine q_skip (by kernel_rfl) ?_
                        refine q_skip (by kernel_rfl) ?_
                        refine q_val (.bool false) (by kernel_rfl) (fun _ => by kernel_rfl) ?_
                        refine q_val (.bool false) (by kernel_rfl) (fun _ => by kernel_rfl) ?_
                        refine q_nil ?_
                        clear H
                        intro v18 H
                        refine x_frame' { tmps := #[.agg #[.int .i64 r, .int .i64 s, .int .i64 b, .int .i64 o, .int .i64 c, .int .i64 y, .int .i64 z], .agg #[.slice aL nl cL, .slice aD nd cD, .slice aS nq cS, .int .i64 ((pn : Nat) : Int), .int .i64 ((rn : Nat) : Int)], .pointer (some ⟨g1, 0, none⟩), .pointer (some ⟨g2, 0, none⟩), .bool false, .pointer none, .int .i64 10, .pointer (some ⟨g3, 0, none⟩), .bool false, .int .i64 (lastD lD k1), undef, (uf1 0), .int .i64 ((k2 : Nat) : Int), .int .i64 (lL.getD k2 0), undef, undef, undef, undef, undef, undef, .bool true, .bool false, .agg #[.int .i64 r, .int .i64 s, .int .i64 b, .int .i64 o, .int .i64 c, .int .i64 y, .int .i64 z], .bool true, .bool false, .bool false, .pointer (some ⟨g2, 0, none⟩), .slice aL nl cL, .int .i64 ((nl : Nat) : Int), .bool false, .bool false, .bool false, .pointer (some ⟨g2, 1, none⟩), .slice aD nd cD, .int .i64 ((nd : Nat) : Int), .bool false, .bool false, .bool false, .pointer (some ⟨g2, 2, none⟩), .slice aS nq cS, .int .i64 ((nq : Nat) : Int), .bool false, .bool false, .tuple #[.pointer none, .int .i64 10], .agg #[.int .i64 r, .int .i64 s, .int .i64 b, .int .i64 o, .int .i64 c, .int .i64 y, .int .i64 z], .agg #[.slice aL nl cL, .slice aD nd cD, .slice aS nq cS, .int .i64 ((pn : Nat) : Int), .int .i64 ((rn : Nat) : Int)], .tuple #[.pointer none, .int .i64 10], .pointer none, .int .i64 10, .agg #[.int .i64 r, .int .i64 s, .int .i64 b, .int .i64 o, .int .i64 c, .int .i64 y, .int .i64 z], .bool true, .bool false, undef, undef, undef, undef, undef, undef, .pointer (some ⟨g1, 0, none⟩), .agg #[.int .i64 r, .int .i64 s, .int .i64 b, .int .i64 o, .int .i64 c], .pointer (some ⟨g2, 0, none⟩), .slice aL nl cL, .int .i64 ((nl : Nat) : Int), .agg #[.int .i64 r, .int .i64 s, .int .i64 b, .int .i64 o, .int .i64 c, .int .i64 y, .int .i64 z], .int .i64 ((sn : Nat) : Int), .bool true, .bool true, .pointer (some ⟨g2, 2, none⟩), .slice aS nq cS, .int .i64 ((nq : Nat) : Int), .pointer (some ⟨g3, 0, none⟩), .int .i64 r, .bool true, .bool true, .bool true, .pointer (some ⟨g2, 3, none⟩), .int .i64 ((pn : Nat) : Int), .bool true, .bool true, .bool true, .pointer (some ⟨g2, 3, none⟩), .int .i64 ((pn : Nat) : Int), .pointer (some ⟨g1, 6, none⟩), .int .i64 z, .bool true, .bool true, .bool true, .pointer (some ⟨g2, 4, none⟩), .int .i64 ((rn : Nat) : Int), .bool true, .bool true, .bool true, .pointer (some ⟨g2, 4, none⟩), .int .i64 ((rn : Nat) : Int), .pointer (some ⟨g3, 1, none⟩), .int .i64 s, .bool true, .bool true, .pointer (some ⟨g2, 1, none⟩), .slice aD nd cD, .int .i64 ((nd : Nat) : Int), .int .i64 ((k1 : Nat) : Int), .bool false, (uf1 2), (uf1 3), (uf1 4), (uf1 5), (uf1 6), (uf1 7), (uf1 8), (uf1 9), (uf1 10), (uf1 11), (uf1 12), (uf1 13), (uf1 14), (uf1 15), (uf1 16), (uf1 17), .pointer (some ⟨g2, 0, none⟩), .slice aL nl cL, .int .i64 ((nl : Nat) : Int), .int .i64 ((k2 : Nat) : Int), .bool true, .int .i64 ((k2 : Nat) : Int), .pointer (some ⟨gL, oL + k2, none⟩), .int .i64 (lL.getD k2 0), .bool true, .bool true, .int .i64 (lL.getD k2 0), .bool true, .bool true, .bool true, .int .i64 (lL.getD k2 0), .agg #[.int .i64 r, .int .i64 s, .int .i64 b, .int .i64 o, .int .i64 c, .int .i64 y, .int .i64 z], .int .i64 ((sn : Nat) : Int), .pointer (some ⟨g2, 3, none⟩), .int .i64 ((pn : Nat) : Int), .int .i64 (((sn : Nat) : Int) + ((pn : Nat) : Int)), .bool true, .bool true, .bool true, .pointer (some ⟨g2, 1, none⟩), .slice aD nd cD, .int .i64 (lL.getD k2 0), .bool true, .bool false, .bool false, .bool false, undef, undef, undef, undef, undef, undef, undef, undef, undef, .bool false, (uf2 38), undef, undef, undef, undef, undef, undef, undef, undef, undef, undef, undef, undef, undef, undef, undef, undef, undef, undef, undef, undef, undef, undef, undef, undef, undef, undef, undef, undef, undef, undef, undef, undef, undef, undef, undef, undef, undef, undef, undef, undef, undef, undef, undef, undef, undef, undef, undef, undef, undef, undef, undef, undef, undef, undef, undef, undef, undef, undef, undef, undef, undef, undef, undef, undef], defers := [] } (by kernel_rfl) ?_
                        refine x_blk ?_
                        refine x_then ?_
                        refine x_region ?_
                        refine x_ar (((k2 : Nat) : Int) + 1) ⟨by omega, by omega⟩ (by kernel_rfl) rfl (by kernel_rfl) ?_
                        refine x_val (.int .i64 (((k2 : Nat) : Int) + 1)) (by kernel_rfl) rfl (by kernel_rfl) ?_
                        refine x_nil ?_
                        refine x_then ?_
                        exact ⟨(k2 + 1, false), (by dsimp only; omega), (nthV [.int .i64 ((k2 : Nat) : Int), .int .i64 (lL.getD k2 0), .bool true, .int .i64 ((k2 : Nat) : Int), .pointer (some ⟨gL, oL + k2, none⟩), .int .i64 (lL.getD k2 0), .bool true, .bool true, .int .i64 (lL.getD k2 0), .bool true, .bool true, .bool true, .int .i64 (lL.getD k2 0), .agg #[.int .i64 r, .int .i64 s, .int .i64 b, .int .i64 o, .int .i64 c, .int .i64 y, .int .i64 z], .int .i64 ((sn : Nat) : Int), .pointer (some ⟨g2, 3, none⟩), .int .i64 ((pn : Nat) : Int), .int .i64 (((sn : Nat) : Int) + ((pn : Nat) : Int)), .bool true, .bool true, .bool true, .pointer (some ⟨g2, 1, none⟩), .slice aD nd cD, .int .i64 (lL.getD k2 0), .bool true, .bool false, .bool false, .bool false, undef, undef, undef, undef, undef, undef, undef, undef, undef, .bool false, .int .i64 (((k2 : Nat) : Int) + 1)]), (by kernel_rfl), H, (by omega), (by rw [okL, ← Bool.and_assoc, ← r2, h13, h14, h15, h16]; try rfl)⟩
            · skip
              have h6p := of_decide_eq_true h6
              refine x_t (by kernel_rfl) ?_
              refine x_skipc ?_
              refine x_then ?_
              refine x_seq ?_
              refine x_block ?_
              refine x_seq ?_
              refine x_region ?_
              obtain ⟨gD, oD, hadD, hcD⟩ := hID (by omega)
              refine x_ixO (t := 106) hadD k1 nd cD 3 1 (oD + k1) (by omega) (by omega) (by kernel_rfl) (by kernel_rfl) (by kernel_rfl) rfl (by kernel_rfl) ?_
              refine x_loadc gD (oD + k1) (.int .i64 (lD.getD k1 0)) (hcD _ H.below k1 (by omega)) (by kernel_rfl) rfl (by kernel_rfl) ?_
              refine x_val (.int .i64 (lD.getD k1 0)) (by kernel_rfl) rfl (by kernel_rfl) ?_
              refine x_nil ?_
              refine x_then ?_
              refine x_seq ?_
              refine x_region ?_
              refine x_val (.bool f1) (by kernel_rfl) rfl (by kernel_rfl) ?_
              refine x_val (.bool f1) (by kernel_rfl) rfl (by kernel_rfl) ?_
              cases h18 : f1
              · skip
                refine x_skip (by kernel_rfl) ?_
                refine x_skip (by kernel_rfl) ?_
                refine x_skip (by kernel_rfl) ?_
                refine x_val (.bool false) (by kernel_rfl) rfl (by kernel_rfl) ?_
                refine x_val (.bool false) (by kernel_rfl) rfl (by kernel_rfl) ?_
                refine x_skip (by kernel_rfl) ?_
                refine x_skip (by kernel_rfl) ?_
                refine x_skip (by kernel_rfl) ?_
                refine x_skip (by kernel_rfl) ?_
                refine x_val (.bool false) (by kernel_rfl) rfl (by kernel_rfl) ?_
                refine x_val (.bool false) (by kernel_rfl) rfl (by kernel_rfl) ?_
                refine x_nil ?_
                refine x_then ?_
                refine x_region ?_
                refine x_val (.int .i64 (lD.getD k1 0)) (by kernel_rfl) rfl (by kernel_rfl) ?_
                refine x_val (.int .i64 (lD.getD k1 0)) (by kernel_rfl) rfl (by kernel_rfl) ?_
                refine x_nil ?_
                refine x_blk ?_
                refine x_then ?_
                refine x_region ?_
                refine x_ar (((k1 : Nat) : Int) + 1) ⟨by omega, by omega⟩ (by kernel_rfl) rfl (by kernel_rfl) ?_
                refine x_val (.int .i64 (((k1 : Nat) : Int) + 1)) (by kernel_rfl) rfl (by kernel_rfl) ?_
                refine x_nil ?_
                refine x_then ?_
                exact ⟨(k1 + 1, false), (by dsimp only; omega), (nthV [.int .i64 (lD.getD k1 0), .bool true, .pointer (some ⟨gD, oD + k1, none⟩), .int .i64 (lD.getD k1 0), .bool false, .bool false, undef, undef, undef, .bool false, .bool false, undef, undef, undef, undef, .bool false, .int .i64 (lD.getD k1 0), .int .i64 (((k1 : Nat) : Int) + 1)]), (by kernel_rfl), H, (by omega), (by rw [okD, ← r2, h18]; try rfl)⟩
              · skip
                refine x_val (.int .i64 (lD.getD k1 0)) (by kernel_rfl) rfl (by kernel_rfl) ?_
                refine x_val (.int .i64 (lastD lD k1)) (by kernel_rfl) rfl (by kernel_rfl) ?_
                refine x_val (.bool (decide ((lastD lD k1) < (lD.getD k1 0)))) (by kernel_rfl) rfl (by kernel_rfl) ?_
                refine x_val (.bool (decide ((lastD lD k1) < (lD.getD k1 0)))) (by kernel_rfl) rfl (by kernel_rfl) ?_
                refine x_val (.bool (decide ((lastD lD k1) < (lD.getD k1 0)))) (by kernel_rfl) rfl (by kernel_rfl) ?_
                cases h19 : decide ((lastD lD k1) < (lD.getD k1 0))
                · skip
                  have h19p := of_decide_eq_false h19
                  refine x_skip (by kernel_rfl) ?_
                  refine x_skip (by kernel_rfl) ?_
                  refine x_skip (by kernel_rfl) ?_
                  refine x_skip (by kernel_rfl) ?_
                  refine x_val (.bool false) (by kernel_rfl) rfl (by kernel_rfl) ?_
                  refine x_val (.bool false) (by kernel_rfl) rfl (by kernel_rfl) ?_
                  refine x_nil ?_
                  refine x_then ?_
                  refine x_region ?_
                  refine x_val (.int .i64 (lD.getD k1 0)) (by kernel_rfl) rfl (by kernel_rfl) ?_
                  refine x_val (.int .i64 (lD.getD k1 0)) (by kernel_rfl) rfl (by kernel_rfl) ?_
                  refine x_nil ?_
                  refine x_blk ?_
                  refine x_then ?_
                  refine x_region ?_
                  refine x_ar (((k1 : Nat) : Int) + 1) ⟨by omega, by omega⟩ (by kernel_rfl) rfl (by kernel_rfl) ?_
                  refine x_val (.int .i64 (((k1 : Nat) : Int) + 1)) (by kernel_rfl) rfl (by kernel_rfl) ?_
                  refine x_nil ?_
                  refine x_then ?_
                  exact ⟨(k1 + 1, false), (by dsimp only; omega), (nthV [.int .i64 (lD.getD k1 0), .bool true, .pointer (some ⟨gD, oD + k1, none⟩), .int .i64 (lD.getD k1 0), .bool true, .bool true, .int .i64 (lD.getD k1 0), .int .i64 (lastD lD k1), .bool false, .bool false, .bool false, undef, undef, undef, undef, .bool false, .int .i64 (lD.getD k1 0), .int .i64 (((k1 : Nat) : Int) + 1)]), (by kernel_rfl), H, (by omega), (by rw [okD, ← r2, h18, h19]; try rfl)⟩
                · skip
                  have h19p := of_decide_eq_true h19
                  refine x_val (.int .i64 (lD.getD k1 0)) (by kernel_rfl) rfl (by kernel_rfl) ?_
                  refine x_loadn (t := 67) H 0 g3 0 #[.int .i64 r, .int .i64 s, .int .i64 b, .int .i64 o, .int .i64 c] 67 [.int .i64 r, .int .i64 s, .int .i64 b, .int .i64 o, .int .i64 c] (by kernel_rfl) (by kernel_rfl) (by kernel_rfl) rfl (by kernel_rfl) (by kernel_rfl) ?_
                  refine x_callB (.int .i64 ((pg : Nat) : Int)) H (by kernel_rfl) rfl (by kernel_rfl) (pages_of hL _) ?_
                  clear H
                  intro v19 H
                  refine x_val (.bool (decide ((lD.getD k1 0) < ((pg : Nat) : Int)))) (by kernel_rfl) rfl (by kernel_rfl) ?_
                  refine x_val (.bool (decide ((lD.getD k1 0) < ((pg : Nat) : Int)))) (by kernel_rfl) rfl (by kernel_rfl) ?_
                  refine x_val (.bool (decide ((lD.getD k1 0) < ((pg : Nat) : Int)))) (by kernel_rfl) rfl (by kernel_rfl) ?_
                  refine x_nil ?_
                  refine x_then ?_
                  refine x_region ?_
                  refine x_val (.int .i64 (lD.getD k1 0)) (by kernel_rfl) rfl (by kernel_rfl) ?_
                  refine x_val (.int .i64 (lD.getD k1 0)) (by kernel_rfl) rfl (by kernel_rfl) ?_
                  refine x_nil ?_
                  refine x_blk ?_
                  refine x_then ?_
                  refine x_region ?_
                  refine x_ar (((k1 : Nat) : Int) + 1) ⟨by omega, by omega⟩ (by kernel_rfl) rfl (by kernel_rfl) ?_
                  refine x_val (.int .i64 (((k1 : Nat) : Int) + 1)) (by kernel_rfl) rfl (by kernel_rfl) ?_
                  refine x_nil ?_
                  refine x_then ?_
                  exact ⟨(k1 + 1, (decide ((lD.getD k1 0) < ((pg : Nat) : Int)))), (by dsimp only; omega), (nthV [.int .i64 (lD.getD k1 0), .bool true, .pointer (some ⟨gD, oD + k1, none⟩), .int .i64 (lD.getD k1 0), .bool true, .bool true, .int .i64 (lD.getD k1 0), .int .i64 (lastD lD k1), .bool true, .bool true, .bool true, .int .i64 (lD.getD k1 0), .agg #[.int .i64 r, .int .i64 s, .int .i64 b, .int .i64 o, .int .i64 c], .int .i64 ((pg : Nat) : Int), .bool (decide ((lD.getD k1 0) < ((pg : Nat) : Int))), .bool (decide ((lD.getD k1 0) < ((pg : Nat) : Int))), .int .i64 (lD.getD k1 0), .int .i64 (((k1 : Nat) : Int) + 1)]), (by kernel_rfl), H, (by omega), (by rw [okD, ← r2, h18, h19]; try rfl)⟩
          · skip
            refine x_call (by kernel_rfl) rfl (by kernel_rfl) (Restore_yes hL aL aD aS nl cL nd cD nq cS lL lD lS hxS hnd hf (by have q := h5; rw [Bool.and_eq_true, Bool.and_eq_true] at q; exact q.1.1) (by have q := h5; rw [Bool.and_eq_true, Bool.and_eq_true] at q; exact q.1.2) (by have q := h5; rw [Bool.and_eq_true, Bool.and_eq_true] at q; exact q.2) _ (hIL.at H.below) (hID.at H.below) (hIS.at H.below)) ?_
            rintro _ v20 ⟨p, gl, cl, gd, cd, gs, cs, rfl, hN'⟩
            refine ⟨_, rfl, ?_⟩
            replace H := H.more hN'
            clear hN'
            replace H : Hs [] w0 _ [.blk p #[.int .i64 r, .int .i64 s, .int .i64 b, .int .i64 o, .int .i64 c, .int .i64 y, .int .i64 z, .slice (some ⟨gl, 0, none⟩) sn cl, .slice (some ⟨gd, 0, none⟩) pg cd, .slice (some ⟨gs, 0, none⟩) ns cs, .int .i64 ((pn : Nat) : Int), .int .i64 ((rn : Nat) : Int)] 181, .row (.slice (some ⟨gl, 0, none⟩) sn cl) 3 1 sn (List.map (Value.int .i64) (setsL lL (iota sn) nl)), .row (.slice (some ⟨gd, 0, none⟩) pg cd) 4 1 pg (List.map Value.bool (marks pg lD nd)), .row (.slice (some ⟨gs, 0, none⟩) ns cs) 3 1 ns (List.map (Value.int .i64) (standL lS (List.replicate ns (-1)) nq)), .blk g2 #[.slice aL nl cL, .slice aD nd cD, .slice aS nq cS, .int .i64 ((pn : Nat) : Int), .int .i64 ((rn : Nat) : Int)] 142, .blk g1 #[.int .i64 r, .int .i64 s, .int .i64 b, .int .i64 o, .int .i64 c, .int .i64 y, .int .i64 z] 69] := H
            refine x_val (.tuple #[.pointer (some ⟨p, 0, none⟩), .int .i64 0]) (by kernel_rfl) rfl (by kernel_rfl) ?_
            refine x_val (.pointer (some ⟨p, 0, none⟩)) (by kernel_rfl) rfl (by kernel_rfl) ?_
            refine x_val (.int .i64 0) (by kernel_rfl) rfl (by kernel_rfl) ?_
            refine x_val (.pointer (some ⟨p, 0, none⟩)) (by kernel_rfl) rfl (by kernel_rfl) ?_
            refine x_val (.int .i64 0) (by kernel_rfl) rfl (by kernel_rfl) ?_
            refine x_nil ?_
            refine x_frame' { tmps := #[.agg #[.int .i64 r, .int .i64 s, .int .i64 b, .int .i64 o, .int .i64 c, .int .i64 y, .int .i64 z], .agg #[.slice aL nl cL, .slice aD nd cD, .slice aS nq cS, .int .i64 ((pn : Nat) : Int), .int .i64 ((rn : Nat) : Int)], .pointer (some ⟨g1, 0, none⟩), .pointer (some ⟨g2, 0, none⟩), .bool false, .pointer (some ⟨p, 0, none⟩), .int .i64 0, undef, undef, undef, undef, undef, undef, undef, undef, undef, undef, undef, undef, undef, .bool true, .bool false, .agg #[.int .i64 r, .int .i64 s, .int .i64 b, .int .i64 o, .int .i64 c, .int .i64 y, .int .i64 z], .bool true, .bool false, .bool false, .pointer (some ⟨g2, 0, none⟩), .slice aL nl cL, .int .i64 ((nl : Nat) : Int), .bool false, .bool false, .bool false, .pointer (some ⟨g2, 1, none⟩), .slice aD nd cD, .int .i64 ((nd : Nat) : Int), .bool false, .bool false, .bool false, .pointer (some ⟨g2, 2, none⟩), .slice aS nq cS, .int .i64 ((nq : Nat) : Int), .bool false, .bool false, .tuple #[.pointer (some ⟨p, 0, none⟩), .int .i64 0], .agg #[.int .i64 r, .int .i64 s, .int .i64 b, .int .i64 o, .int .i64 c, .int .i64 y, .int .i64 z], .agg #[.slice aL nl cL, .slice aD nd cD, .slice aS nq cS, .int .i64 ((pn : Nat) : Int), .int .i64 ((rn : Nat) : Int)], .tuple #[.pointer (some ⟨p, 0, none⟩), .int .i64 0], .pointer (some ⟨p, 0, none⟩), .int .i64 0, undef, undef, undef, undef, undef, undef, undef, undef, undef, undef, undef, undef, undef, undef, undef, undef, undef, undef, undef, undef, undef, undef, undef, undef, undef, undef, undef, undef, undef, undef, undef, undef, undef, undef, undef, undef, undef, undef, undef, undef, undef, undef, undef, undef, undef, undef, undef, undef, undef, undef, undef, undef, undef, undef, undef, undef, undef, undef, undef, undef, undef, undef, undef, undef, undef, undef, undef, undef, undef, undef, undef, undef, undef, undef, undef, undef, undef, undef, undef, undef, undef, undef, undef, undef, undef, undef, undef, undef, undef, undef, undef, undef, undef, undef, undef, undef, undef, undef, undef, undef, undef, undef, undef, undef, undef, undef, undef, undef, undef, undef, undef, undef, undef, undef, undef, undef, undef, undef, undef, undef, undef, undef, undef, undef, undef, undef, undef, undef, undef, undef, undef, undef, undef, undef, undef, undef, undef, undef, undef, undef, undef, undef, undef, undef, undef, undef, undef, undef, undef, undef, undef, undef, undef, undef, undef, undef, undef, undef, undef, undef, undef, undef, undef, undef, undef, undef, undef, undef, undef, undef, undef, undef, undef, undef, undef], defers := [] } (by kernel_rfl) ?_
            refine x_then ?_
            refine x_seq ?_
            refine x_seq ?_
            refine x_region ?_
            refine x_loadn (t := 69) H 5 g1 0 #[.int .i64 r, .int .i64 s, .int .i64 b, .int .i64 o, .int .i64 c, .int .i64 y, .int .i64 z] 69 [.int .i64 r, .int .i64 s, .int .i64 b, .int .i64 o, .int .i64 c, .int .i64 y, .int .i64 z] (by kernel_rfl) (by kernel_rfl) (by kernel_rfl) rfl (by kernel_rfl) (by kernel_rfl) ?_
            refine x_callB (.bool (layoutOk r s b o c y z)) H (by kernel_rfl) rfl (by kernel_rfl) (lRight_any _ _ _ _ _ _ _ (by omega) (by omega) (by omega) (by omega) _) ?_
            clear H
            intro v21 H
            refine x_val (.bool (!(layoutOk r s b o c y z))) (by kernel_rfl) rfl (by kernel_rfl) ?_
            refine x_nil ?_
            refine x_then ?_
            rw [hok]
            refine x_f (by kernel_rfl) ?_
            refine x_skipc ?_
            refine x_then ?_
            refine x_seq ?_
            refine x_region ?_
            refine x_val (.pointer (some ⟨g1, 0, none⟩)) (by kernel_rfl) rfl (by kernel_rfl) ?_
            refine x_loadn (t := 67) H 5 g1 0 #[.int .i64 r, .int .i64 s, .int .i64 b, .int .i64 o, .int .i64 c, .int .i64 y, .int .i64 z] 69 [.int .i64 r, .int .i64 s, .int .i64 b, .int .i64 o, .int .i64 c] (by kernel_rfl) (by kernel_rfl) (by kernel_rfl) rfl (by kernel_rfl) (by kernel_rfl) ?_
            refine x_box H #[.int .i64 0, .int .i64 0, .int .i64 0, .int .i64 0, .int .i64 0] 67 (by kernel_rfl) rfl (by kernel_rfl) ?_
            clear H
            intro v22 g4 H
            refine x_store (t := 67) (v := .agg #[.int .i64 r, .int .i64 s, .int .i64 b, .int .i64 o, .int .i64 c]) H 0 g4 0 #[.int .i64 0, .int .i64 0, .int .i64 0, .int .i64 0, .int .i64 0] #[.int .i64 r, .int .i64 s, .int .i64 b, .int .i64 o, .int .i64 c] 67 [.int .i64 r, .int .i64 s, .int .i64 b, .int .i64 o, .int .i64 c] [.blk g4 #[.int .i64 r, .int .i64 s, .int .i64 b, .int .i64 o, .int .i64 c] 67, .blk p #[.int .i64 r, .int .i64 s, .int .i64 b, .int .i64 o, .int .i64 c, .int .i64 y, .int .i64 z, .slice (some ⟨gl, 0, none⟩) sn cl, .slice (some ⟨gd, 0, none⟩) pg cd, .slice (some ⟨gs, 0, none⟩) ns cs, .int .i64 ((pn : Nat) : Int), .int .i64 ((rn : Nat) : Int)] 181, .row (.slice (some ⟨gl, 0, none⟩) sn cl) 3 1 sn (List.map (Value.int .i64) (setsL lL (iota sn) nl)), .row (.slice (some ⟨gd, 0, none⟩) pg cd) 4 1 pg (List.map Value.bool (marks pg lD nd)), .row (.slice (some ⟨gs, 0, none⟩) ns cs) 3 1 ns (List.map (Value.int .i64) (standL lS (List.replicate ns (-1)) nq)), .blk g2 #[.slice aL nl cL, .slice aD nd cD, .slice aS nq cS, .int .i64 ((pn : Nat) : Int), .int .i64 ((rn : Nat) : Int)] 142, .blk g1 #[.int .i64 r, .int .i64 s, .int .i64 b, .int .i64 o, .int .i64 c, .int .i64 y, .int .i64 z] 69] (by kernel_rfl) rfl (by kernel_rfl) (by kernel_rfl) (by kernel_rfl) (by kernel_rfl) (by kernel_rfl) (by kernel_rfl) (by kernel_rfl) (by kernel_rfl) ?_
            clear H
            intro v23 H
            refine x_nil ?_
            refine x_then ?_
            refine x_seq ?_
            refine x_region_whole (fun w' => Hs [] w0 w' [.blk g4 #[.int .i64 r, .int .i64 s, .int .i64 b, .int .i64 o, .int .i64 c] 67, .blk p #[.int .i64 r, .int .i64 s, .int .i64 b, .int .i64 o, .int .i64 c, .int .i64 y, .int .i64 z, .slice (some ⟨gl, 0, none⟩) sn cl, .slice (some ⟨gd, 0, none⟩) pg cd, .slice (some ⟨gs, 0, none⟩) ns cs, .int .i64 ((pn : Nat) : Int), .int .i64 ((rn : Nat) : Int)] 181, .row (.slice (some ⟨gl, 0, none⟩) sn cl) 3 1 sn (List.map (Value.int .i64) (setsL lL (iota sn) nl)), .row (.slice (some ⟨gd, 0, none⟩) pg cd) 4 1 pg (List.map Value.bool (marks pg lD nd)), .row (.slice (some ⟨gs, 0, none⟩) ns cs) 3 1 ns (List.map (Value.int .i64) (standL lS (List.replicate ns (-1)) nq)), .blk g2 #[.slice aL nl cL, .slice aD nd cD, .slice aS nq cS, .int .i64 ((pn : Nat) : Int), .int .i64 ((rn : Nat) : Int)] 142, .blk g1 #[.int .i64 r, .int .i64 s, .int .i64 b, .int .i64 o, .int .i64 c, .int .i64 y, .int .i64 z] 69]) (by kernel_rfl) (by kernel_rfl) (by kernel_rfl) H.drew ?_
            refine q_val (.pointer (some ⟨g2, 0, none⟩)) (by kernel_rfl) (fun _ => by kernel_rfl) ?_
            refine q_load1 5 g2 0 #[.slice aL nl cL, .slice aD nd cD, .slice aS nq cS, .int .i64 ((pn : Nat) : Int), .int .i64 ((rn : Nat) : Int)] 142 (.slice aL nl cL) (by kernel_rfl) (by kernel_rfl) (by kernel_rfl) (fun _ => by kernel_rfl) ?_
            refine q_val (.int .i64 ((nl : Nat) : Int)) (by kernel_rfl) (fun _ => by kernel_rfl) ?_
            refine q_loadn (t := 69) 6 g1 0 #[.int .i64 r, .int .i64 s, .int .i64 b, .int .i64 o, .int .i64 c, .int .i64 y, .int .i64 z] 69 [.int .i64 r, .int .i64 s, .int .i64 b, .int .i64 o, .int .i64 c, .int .i64 y, .int .i64 z] (by kernel_rfl) (by kernel_rfl) (by kernel_rfl) (by kernel_rfl) (by kernel_rfl) ?_
            refine q_callB (.int .i64 ((sn : Nat) : Int)) (by kernel_rfl) (fun _ => by kernel_rfl) (fun _ => (seen_of hL _)) ?_
            refine q_val (.bool (decide (((nl : Nat) : Int) = ((sn : Nat) : Int)))) (by kernel_rfl) (fun _ => by kernel_rfl) ?_
            refine q_val (.bool (decide (((nl : Nat) : Int) = ((sn : Nat) : Int)))) (by kernel_rfl) (fun _ => by kernel_rfl) ?_
            rw [q1]
            refine q_val (.pointer (some ⟨g2, 2, none⟩)) (by kernel_rfl) (fun _ => by kernel_rfl) ?_
            refine q_load1 5 g2 2 #[.slice aL nl cL, .slice aD nd cD, .slice aS nq cS, .int .i64 ((pn : Nat) : Int), .int .i64 ((rn : Nat) : Int)] 142 (.slice aS nq cS) (by kernel_rfl) (by kernel_rfl) (by kernel_rfl) (fun _ => by kernel_rfl) ?_
            refine q_val (.int .i64 ((nq : Nat) : Int)) (by kernel_rfl) (fun _ => by kernel_rfl) ?_
            refine q_val (.pointer (some ⟨g4, 0, none⟩)) (by kernel_rfl) (fun _ => by kernel_rfl) ?_
            refine q_load1 0 g4 0 #[.int .i64 r, .int .i64 s, .int .i64 b, .int .i64 o, .int .i64 c] 67 (.int .i64 r) (by kernel_rfl) (by kernel_rfl) (by kernel_rfl) (fun _ => by kernel_rfl) ?_
            refine q_val (.bool (decide (((nq : Nat) : Int) = r))) (by kernel_rfl) (fun _ => by kernel_rfl) ?_
            refine q_val (.bool (decide (((nq : Nat) : Int) = r))) (by kernel_rfl) (fun _ => by kernel_rfl) ?_
            refine q_val (.bool (decide (((nq : Nat) : Int) = r))) (by kernel_rfl) (fun _ => by kernel_rfl) ?_
            rw [q2]
            refine q_val (.pointer (some ⟨g2, 3, none⟩)) (by kernel_rfl) (fun _ => by kernel_rfl) ?_
            refine q_load1 5 g2 3 #[.slice aL nl cL, .slice aD nd cD, .slice aS nq cS, .int .i64 ((pn : Nat) : Int), .int .i64 ((rn : Nat) : Int)] 142 (.int .i64 ((pn : Nat) : Int)) (by kernel_rfl) (by kernel_rfl) (by kernel_rfl) (fun _ => by kernel_rfl) ?_
            refine q_val (.bool (decide (0 ≤ ((pn : Nat) : Int)))) (by kernel_rfl) (fun _ => by kernel_rfl) ?_
            refine q_val (.bool (decide (0 ≤ ((pn : Nat) : Int)))) (by kernel_rfl) (fun _ => by kernel_rfl) ?_
            refine q_val (.bool (decide (0 ≤ ((pn : Nat) : Int)))) (by kernel_rfl) (fun _ => by kernel_rfl) ?_
            rw [q3]
            refine q_val (.pointer (some ⟨g2, 3, none⟩)) (by kernel_rfl) (fun _ => by kernel_rfl) ?_
            refine q_load1 5 g2 3 #[.slice aL nl cL, .slice aD nd cD, .slice aS nq cS, .int .i64 ((pn : Nat) : Int), .int .i64 ((rn : Nat) : Int)] 142 (.int .i64 ((pn : Nat) : Int)) (by kernel_rfl) (by kernel_rfl) (by kernel_rfl) (fun _ => by kernel_rfl) ?_
            refine q_val (.pointer (some ⟨g1, 6, none⟩)) (by kernel_rfl) (fun _ => by kernel_rfl) ?_
            refine q_load1 6 g1 6 #[.int .i64 r, .int .i64 s, .int .i64 b, .int .i64 o, .int .i64 c, .int .i64 y, .int .i64 z] 69 (.int .i64 z) (by kernel_rfl) (by kernel_rfl) (by kernel_rfl) (fun _ => by kernel_rfl) ?_
            refine q_val (.bool (decide (((pn : Nat) : Int) ≤ z))) (by kernel_rfl) (fun _ => by kernel_rfl) ?_
            refine q_val (.bool (decide (((pn : Nat) : Int) ≤ z))) (by kernel_rfl) (fun _ => by kernel_rfl) ?_
            refine q_val (.bool (decide (((pn : Nat) : Int) ≤ z))) (by kernel_rfl) (fun _ => by kernel_rfl) ?_
            rw [q4]
            refine q_val (.pointer (some ⟨g2, 4, none⟩)) (by kernel_rfl) (fun _ => by kernel_rfl) ?_
            refine q_load1 5 g2 4 #[.slice aL nl cL, .slice aD nd cD, .slice aS nq cS, .int .i64 ((pn : Nat) : Int), .int .i64 ((rn : Nat) : Int)] 142 (.int .i64 ((rn : Nat) : Int)) (by kernel_rfl) (by kernel_rfl) (by kernel_rfl) (fun _ => by kernel_rfl) ?_
            refine q_val (.bool (decide (0 ≤ ((rn : Nat) : Int)))) (by kernel_rfl) (fun _ => by kernel_rfl) ?_
            refine q_val (.bool (decide (0 ≤ ((rn : Nat) : Int)))) (by kernel_rfl) (fun _ => by kernel_rfl) ?_
            refine q_val (.bool (decide (0 ≤ ((rn : Nat) : Int)))) (by kernel_rfl) (fun _ => by kernel_rfl) ?_
            rw [q5]
            refine q_val (.pointer (some ⟨g2, 4, none⟩)) (by kernel_rfl) (fun _ => by kernel_rfl) ?_
            refine q_load1 5 g2 4 #[.slice aL nl cL, .slice aD nd cD, .slice aS nq cS, .int .i64 ((pn : Nat) : Int), .int .i64 ((rn : Nat) : Int)] 142 (.int .i64 ((rn : Nat) : Int)) (by kernel_rfl) (by kernel_rfl) (by kernel_rfl) (fun _ => by kernel_rfl) ?_
            refine q_val (.pointer (some ⟨g4, 1, none⟩)) (by kernel_rfl) (fun _ => by kernel_rfl) ?_
            refine q_load1 0 g4 1 #[.int .i64 r, .int .i64 s, .int .i64 b, .int .i64 o, .int .i64 c] 67 (.int .i64 s) (by kernel_rfl) (by kernel_rfl) (by kernel_rfl) (fun _ => by kernel_rfl) ?_
            refine q_val (.bool (decide (((rn : Nat) : Int) ≤ s))) (by kernel_rfl) (fun _ => by kernel_rfl) ?_
            rw [q6]
            refine q_val (.bool true) (by kernel_rfl) (fun _ => by kernel_rfl) ?_
            refine q_val (.bool true) (by kernel_rfl) (fun _ => by kernel_rfl) ?_
            refine q_nil ?_
            clear H
            intro v24 H
            refine x_frame' { tmps := #[.agg #[.int .i64 r, .int .i64 s, .int .i64 b, .int .i64 o, .int .i64 c, .int .i64 y, .int .i64 z], .agg #[.slice aL nl cL, .slice aD nd cD, .slice aS nq cS, .int .i64 ((pn : Nat) : Int), .int .i64 ((rn : Nat) : Int)], .pointer (some ⟨g1, 0, none⟩), .pointer (some ⟨g2, 0, none⟩), .bool false, .pointer (some ⟨p, 0, none⟩), .int .i64 0, .pointer (some ⟨g4, 0, none⟩), .bool true, undef, undef, undef, undef, undef, undef, undef, undef, undef, undef, undef, .bool true, .bool false, .agg #[.int .i64 r, .int .i64 s, .int .i64 b, .int .i64 o, .int .i64 c, .int .i64 y, .int .i64 z], .bool true, .bool false, .bool false, .pointer (some ⟨g2, 0, none⟩), .slice aL nl cL, .int .i64 ((nl : Nat) : Int), .bool false, .bool false, .bool false, .pointer (some ⟨g2, 1, none⟩), .slice aD nd cD, .int .i64 ((nd : Nat) : Int), .bool false, .bool false, .bool false, .pointer (some ⟨g2, 2, none⟩), .slice aS nq cS, .int .i64 ((nq : Nat) : Int), .bool false, .bool false, .tuple #[.pointer (some ⟨p, 0, none⟩), .int .i64 0], .agg #[.int .i64 r, .int .i64 s, .int .i64 b, .int .i64 o, .int .i64 c, .int .i64 y, .int .i64 z], .agg #[.slice aL nl cL, .slice aD nd cD, .slice aS nq cS, .int .i64 ((pn : Nat) : Int), .int .i64 ((rn : Nat) : Int)], .tuple #[.pointer (some ⟨p, 0, none⟩), .int .i64 0], .pointer (some ⟨p, 0, none⟩), .int .i64 0, .agg #[.int .i64 r, .int .i64 s, .int .i64 b, .int .i64 o, .int .i64 c, .int .i64 y, .int .i64 z], .bool true, .bool false, undef, undef, undef, undef, undef, undef, .pointer (some ⟨g1, 0, none⟩), .agg #[.int .i64 r, .int .i64 s, .int .i64 b, .int .i64 o, .int .i64 c], .pointer (some ⟨g2, 0, none⟩), .slice aL nl cL, .int .i64 ((nl : Nat) : Int), .agg #[.int .i64 r, .int .i64 s, .int .i64 b, .int .i64 o, .int .i64 c, .int .i64 y, .int .i64 z], .int .i64 ((sn : Nat) : Int), .bool true, .bool true, .pointer (some ⟨g2, 2, none⟩), .slice aS nq cS, .int .i64 ((nq : Nat) : Int), .pointer (some ⟨g4, 0, none⟩), .int .i64 r, .bool true, .bool true, .bool true, .pointer (some ⟨g2, 3, none⟩), .int .i64 ((pn : Nat) : Int), .bool true, .bool true, .bool true, .pointer (some ⟨g2, 3, none⟩), .int .i64 ((pn : Nat) : Int), .pointer (some ⟨g1, 6, none⟩), .int .i64 z, .bool true, .bool true, .bool true, .pointer (some ⟨g2, 4, none⟩), .int .i64 ((rn : Nat) : Int), .bool true, .bool true, .bool true, .pointer (some ⟨g2, 4, none⟩), .int .i64 ((rn : Nat) : Int), .pointer (some ⟨g4, 1, none⟩), .int .i64 s, .bool true, .bool true, undef, undef, undef, undef, undef, undef, undef, undef, undef, undef, undef, undef, undef, undef, undef, undef, undef, undef, undef, undef, undef, undef, undef, undef, undef, undef, undef, undef, undef, undef, undef, undef, undef, undef, undef, undef, undef, undef, undef, undef, undef, undef, undef, undef, undef, undef, undef, undef, undef, undef, undef, undef, undef, undef, undef, undef, undef, undef, undef, undef, undef, undef, undef, undef, undef, undef, undef, undef, undef, undef, undef, undef, undef, undef, undef, undef, undef, undef, undef, undef, undef, undef, undef, undef, undef, undef, undef, undef, undef, undef, undef, undef, undef, undef, undef, undef, undef, undef, undef, undef, undef, undef, undef, undef, undef, undef, undef, undef, undef, undef, undef, undef, undef, undef, undef, undef, undef, undef, undef, undef, undef, undef, undef, undef, undef, undef], defers := [] } (by kernel_rfl) ?_
            refine x_then ?_
            refine x_seq ?_
            refine x_region ?_
            refine x_val (.int .i64 (-1)) (by kernel_rfl) rfl (by kernel_rfl) ?_
            refine x_nil ?_
            refine x_then ?_
            refine x_seq ?_
            refine x_seq ?_
            refine x_region ?_
            refine x_val (.pointer (some ⟨g2, 1, none⟩)) (by kernel_rfl) rfl (by kernel_rfl) ?_
            refine x_load1 H 5 g2 1 #[.slice aL nl cL, .slice aD nd cD, .slice aS nq cS, .int .i64 ((pn : Nat) : Int), .int .i64 ((rn : Nat) : Int)] 142 (.slice aD nd cD) (by kernel_rfl) (by kernel_rfl) (by kernel_rfl) rfl (by kernel_rfl) ?_
            refine x_val (.int .i64 ((nd : Nat) : Int)) (by kernel_rfl) rfl (by kernel_rfl) ?_
            refine x_val (.int .i64 0) (by kernel_rfl) rfl (by kernel_rfl) ?_
            refine x_nil ?_
            refine x_then ?_
            refine x_block ?_
            refine x_loop (G := Nat × Bool) (fun gh a w' => match gh with | (k1, f1) => ∃ uf4 : Nat → Value, a = { tmps := #[.agg #[.int .i64 r, .int .i64 s, .int .i64 b, .int .i64 o, .int .i64 c, .int .i64 y, .int .i64 z], .agg #[.slice aL nl cL, .slice aD nd cD, .slice aS nq cS, .int .i64 ((pn : Nat) : Int), .int .i64 ((rn : Nat) : Int)], .pointer (some ⟨g1, 0, none⟩), .pointer (some ⟨g2, 0, none⟩), .bool false, .pointer (some ⟨p, 0, none⟩), .int .i64 0, .pointer (some ⟨g4, 0, none⟩), .bool f1, .int .i64 (lastD lD k1), undef, (uf4 0), undef, undef, undef, undef, undef, undef, undef, undef, .bool true, .bool false, .agg #[.int .i64 r, .int .i64 s, .int .i64 b, .int .i64 o, .int .i64 c, .int .i64 y, .int .i64 z], .bool true, .bool false, .bool false, .pointer (some ⟨g2, 0, none⟩), .slice aL nl cL, .int .i64 ((nl : Nat) : Int), .bool false, .bool false, .bool false, .pointer (some ⟨g2, 1, none⟩), .slice aD nd cD, .int .i64 ((nd : Nat) : Int), .bool false, .bool false, .bool false, .pointer (some ⟨g2, 2, none⟩), .slice aS nq cS, .int .i64 ((nq : Nat) : Int), .bool false, .bool false, .tuple #[.pointer (some ⟨p, 0, none⟩), .int .i64 0], .agg #[.int .i64 r, .int .i64 s, .int .i64 b, .int .i64 o, .int .i64 c, .int .i64 y, .int .i64 z], .agg #[.slice aL nl cL, .slice aD nd cD, .slice aS nq cS, .int .i64 ((pn : Nat) : Int), .int .i64 ((rn : Nat) : Int)], .tuple #[.pointer (some ⟨p, 0, none⟩), .int .i64 0], .pointer (some ⟨p, 0, none⟩), .int .i64 0, .agg #[.int .i64 r, .int .i64 s, .int .i64 b, .int .i64 o, .int .i64 c, .int .i64 y, .int .i64 z], .bool true, .bool false, undef, undef, undef, undef, undef, undef, .pointer (some ⟨g1, 0, none⟩), .agg #[.int .i64 r, .int .i64 s, .int .i64 b, .int .i64 o, .int .i64 c], .pointer (some ⟨g2, 0, none⟩), .slice aL nl cL, .int .i64 ((nl : Nat) : Int), .agg #[.int .i64 r, .int .i64 s, .int .i64 b, .int .i64 o, .int .i64 c, .int .i64 y, .int .i64 z], .int .i64 ((sn : Nat) : Int), .bool true, .bool true, .pointer (some ⟨g2, 2, none⟩), .slice aS nq cS, .int .i64 ((nq : Nat) : Int), .pointer (some ⟨g4, 0, none⟩), .int .i64 r, .bool true, .bool true, .bool true, .pointer (some ⟨g2, 3, none⟩), .int .i64 ((pn : Nat) : Int), .bool true, .bool true, .bool true, .pointer (some ⟨g2, 3, none⟩), .int .i64 ((pn : Nat) : Int), .pointer (some ⟨g1, 6, none⟩), .int .i64 z, .bool true, .bool true, .bool true, .pointer (some ⟨g2, 4, none⟩), .int .i64 ((rn : Nat) : Int), .bool true, .bool true, .bool true, .pointer (some ⟨g2, 4, none⟩), .int .i64 ((rn : Nat) : Int), .pointer (some ⟨g4, 1, none⟩), .int .i64 s, .bool true, .bool true, .pointer (some ⟨g2, 1, none⟩), .slice aD nd cD, .int .i64 ((nd : Nat) : Int), .int .i64 ((k1 : Nat) : Int), (uf4 1), (uf4 2), (uf4 3), (uf4 4), (uf4 5), (uf4 6), (uf4 7), (uf4 8), (uf4 9), (uf4 10), (uf4 11), (uf4 12), (uf4 13), (uf4 14), (uf4 15), (uf4 16), (uf4 17), undef, undef, undef, undef, undef, undef, undef, undef, undef, undef, undef, undef, undef, undef, undef, undef, undef, undef, undef, undef, undef, undef, undef, undef, undef, undef, undef, undef, undef, undef, undef, undef, undef, undef, undef, undef, undef, undef, undef, undef, undef, undef, undef, undef, undef, undef, undef, undef, undef, undef, undef, undef, undef, undef, undef, undef, undef, undef, undef, undef, undef, undef, undef, undef, undef, undef, undef, undef, undef, undef, undef, undef, undef, undef, undef, undef, undef, undef, undef, undef, undef, undef, undef, undef, undef, undef, undef, undef, undef, undef, undef, undef, undef, undef, undef, undef, undef, undef, undef, undef, undef, undef, undef, undef, undef], defers := [] } ∧ Hs [] w0 w' [.blk g4 #[.int .i64 r, .int .i64 s, .int .i64 b, .int .i64 o, .int .i64 c] 67, .blk p #[.int .i64 r, .int .i64 s, .int .i64 b, .int .i64 o, .int .i64 c, .int .i64 y, .int .i64 z, .slice (some ⟨gl, 0, none⟩) sn cl, .slice (some ⟨gd, 0, none⟩) pg cd, .slice (some ⟨gs, 0, none⟩) ns cs, .int .i64 ((pn : Nat) : Int), .int .i64 ((rn : Nat) : Int)] 181, .row (.slice (some ⟨gl, 0, none⟩) sn cl) 3 1 sn (List.map (Value.int .i64) (setsL lL (iota sn) nl)), .row (.slice (some ⟨gd, 0, none⟩) pg cd) 4 1 pg (List.map Value.bool (marks pg lD nd)), .row (.slice (some ⟨gs, 0, none⟩) ns cs) 3 1 ns (List.map (Value.int .i64) (standL lS (List.replicate ns (-1)) nq)), .blk g2 #[.slice aL nl cL, .slice aD nd cD, .slice aS nq cS, .int .i64 ((pn : Nat) : Int), .int .i64 ((rn : Nat) : Int)] 142, .blk g1 #[.int .i64 r, .int .i64 s, .int .i64 b, .int .i64 o, .int .i64 c, .int .i64 y, .int .i64 z] 69] ∧ (k1 ≤ nd) ∧ (f1 = okD pg lD k1)) (fun gh => match gh with | (k1, f1) => nd - k1) (0, true) ⟨(nthV [undef, undef, undef, undef, undef, undef, undef, undef, undef, undef, undef, undef, undef, undef, undef, undef, undef, undef]), (by kernel_rfl), H, (Nat.zero_le _), rfl⟩ ?_
            clear H
            rintro ⟨k1, f1⟩ _ v25 ⟨uf4, rfl, H, r1, r2⟩
            have i1 := r1
            have e1 := r2
            refine x_seq ?_
            refine x_region ?_
            refine x_val (.bool (decide (((k1 : Nat) : Int) < ((nd : Nat) : Int)))) (by kernel_rfl) rfl (by kernel_rfl) ?_
            refine x_nil ?_
            refine x_then ?_
            refine x_seq ?_
            cases h20 : decide (((k1 : Nat) : Int) < ((nd : Nat) : Int))
            · skip
              have h20p := of_decide_eq_false h20
              have q1 : k1 = nd := by omega
              rw [q1] at e1
              refine x_f (by kernel_rfl) ?_
              refine x_exit ?_
              refine x_then_exit ?_
              refine x_then_exit ?_
              refine x_blk_exit ?_
              refine x_then ?_
              refine x_seq ?_
              refine x_seq ?_
              refine x_region ?_
              refine x_val (.pointer (some ⟨g2, 0, none⟩)) (by kernel_rfl) rfl (by kernel_rfl) ?_
              refine x_load1 H 5 g2 0 #[.slice aL nl cL, .slice aD nd cD, .slice aS nq cS, .int .i64 ((pn : Nat) : Int), .int .i64 ((rn : Nat) : Int)] 142 (.slice aL nl cL) (by kernel_rfl) (by kernel_rfl) (by kernel_rfl) rfl (by kernel_rfl) ?_
              refine x_val (.int .i64 ((nl : Nat) : Int)) (by kernel_rfl) rfl (by kernel_rfl) ?_
              refine x_val (.int .i64 0) (by kernel_rfl) rfl (by kernel_rfl) ?_
              refine x_nil ?_
              refine x_then ?_
              refine x_block ?_
              refine x_loop (G := Nat × Bool) (fun gh a w' => match gh with | (k2, f2) => ∃ uf5 : Nat → Value, a = { tmps := #[.agg #[.int .i64 r, .int .i64 s, .int .i64 b, .int .i64 o, .int .i64 c, .int .i64 y, .int .i64 z], .agg #[.slice aL nl cL, .slice aD nd cD, .slice aS nq cS, .int .i64 ((pn : Nat) : Int), .int .i64 ((rn : Nat) : Int)], .pointer (some ⟨g1, 0, none⟩), .pointer (some ⟨g2, 0, none⟩), .bool false, .pointer (some ⟨p, 0, none⟩), .int .i64 0, .pointer (some ⟨g4, 0, none⟩), .bool f2, .int .i64 (lastD lD k1), undef, (uf4 0), (uf5 0), (uf5 1), undef, undef, undef, undef, undef, undef, .bool true, .bool false, .agg #[.int .i64 r, .int .i64 s, .int .i64 b, .int .i64 o, .int .i64 c, .int .i64 y, .int .i64 z], .bool true, .bool false, .bool false, .pointer (some ⟨g2, 0, none⟩), .slice aL nl cL, .int .i64 ((nl : Nat) : Int), .bool false, .bool false, .bool false, .pointer (some ⟨g2, 1, none⟩), .slice aD nd cD, .int .i64 ((nd : Nat) : Int), .bool false, .bool false, .bool false, .pointer (some ⟨g2, 2, none⟩), .slice aS nq cS, .int .i64 ((nq : Nat) : Int), .bool false, .bool false, .tuple #[.pointer (some ⟨p, 0, none⟩), .int .i64 0], .agg #[.int .i64 r, .int .i64 s, .int .i64 b, .int .i64 o, .int .i64 c, .int .i64 y, .int .i64 z], .agg #[.slice aL nl cL, .slice aD nd cD, .slice aS nq cS, .int .i64 ((pn : Nat) : Int), .int .i64 ((rn : Nat) : Int)], .tuple #[.pointer (some ⟨p, 0, none⟩), .int .i64 0], .pointer (some ⟨p, 0, none⟩), .int .i64 0, .agg #[.int .i64 r, .int .i64 s, .int .i64 b, .int .i64 o, .int .i64 c, .int .i64 y, .int .i64 z], .bool true, .bool false, undef, undef, undef, undef, undef, undef, .pointer (some ⟨g1, 0, none⟩), .agg #[.int .i64 r, .int .i64 s, .int .i64 b, .int .i64 o, .int .i64 c], .pointer (some ⟨g2, 0, none⟩), .slice aL nl cL, .int .i64 ((nl : Nat) : Int), .agg #[.int .i64 r, .int .i64 s, .int .i64 b, .int .i64 o, .int .i64 c, .int .i64 y, .int .i64 z], .int .i64 ((sn : Nat) : Int), .bool true, .bool true, .pointer (some ⟨g2, 2, none⟩), .slice aS nq cS, .int .i64 ((nq : Nat) : Int), .pointer (some ⟨g4, 0, none⟩), .int .i64 r, .bool true, .bool true, .bool true, .pointer (some ⟨g2, 3, none⟩), .int .i64 ((pn : Nat) : Int), .bool true, .bool true, .bool true, .pointer (some ⟨g2, 3, none⟩), .int .i64 ((pn : Nat) : Int), .pointer (some ⟨g1, 6, none⟩), .int .i64 z, .bool true, .bool true, .bool true, .pointer (some ⟨g2, 4, none⟩), .int .i64 ((rn : Nat) : Int), .bool true, .bool true, .bool true, .pointer (some ⟨g2, 4, none⟩), .int .i64 ((rn : Nat) : Int), .pointer (some ⟨g4, 1, none⟩), .int .i64 s, .bool true, .bool true, .pointer (some ⟨g2, 1, none⟩), .slice aD nd cD, .int .i64 ((nd : Nat) : Int), .int .i64 ((k1 : Nat) : Int), .bool false, (uf4 2), (uf4 3), (uf4 4), (uf4 5), (uf4 6), (uf4 7), (uf4 8), (uf4 9), (uf4 10), (uf4 11), (uf4 12), (uf4 13), (uf4 14), (uf4 15), (uf4 16), (uf4 17), .pointer (some ⟨g2, 0, none⟩), .slice aL nl cL, .int .i64 ((nl : Nat) : Int), .int .i64 ((k2 : Nat) : Int), (uf5 2), (uf5 3), (uf5 4), (uf5 5), (uf5 6), (uf5 7), (uf5 8), (uf5 9), (uf5 10), (uf5 11), (uf5 12), (uf5 13), (uf5 14), (uf5 15), (uf5 16), (uf5 17), (uf5 18), (uf5 19), (uf5 20), (uf5 21), (uf5 22), (uf5 23), (uf5 24), (uf5 25), (uf5 26), (uf5 27), (uf5 28), (uf5 29), (uf5 30), (uf5 31), (uf5 32), (uf5 33), (uf5 34), (uf5 35), (uf5 36), (uf5 37), (uf5 38), undef, undef, undef, undef, undef, undef, undef, undef, undef, undef, undef, undef, undef, undef, undef, undef, undef, undef, undef, undef, undef, undef, undef, undef, undef, undef, undef, undef, undef, undef, undef, undef, undef, undef, undef, undef, undef, undef, undef, undef, undef, undef, undef, undef, undef, undef, undef, undef, undef, undef, undef, undef, undef, undef, undef, undef, undef, undef, undef, undef, undef, undef, undef, undef], defers := [] } ∧ Hs [] w0 w' [.blk g4 #[.int .i64 r, .int .i64 s, .int .i64 b, .int .i64 o, .int .i64 c] 67, .blk p #[.int .i64 r, .int .i64 s, .int .i64 b, .int .i64 o, .int .i64 c, .int .i64 y, .int .i64 z, .slice (some ⟨gl, 0, none⟩) sn cl, .slice (some ⟨gd, 0, none⟩) pg cd, .slice (some ⟨gs, 0, none⟩) ns cs, .int .i64 ((pn : Nat) : Int), .int .i64 ((rn : Nat) : Int)] 181, .row (.slice (some ⟨gl, 0, none⟩) sn cl) 3 1 sn (List.map (Value.int .i64) (setsL lL (iota sn) nl)), .row (.slice (some ⟨gd, 0, none⟩) pg cd) 4 1 pg (List.map Value.bool (marks pg lD nd)), .row (.slice (some ⟨gs, 0, none⟩) ns cs) 3 1 ns (List.map (Value.int .i64) (standL lS (List.replicate ns (-1)) nq)), .blk g2 #[.slice aL nl cL, .slice aD nd cD, .slice aS nq cS, .int .i64 ((pn : Nat) : Int), .int .i64 ((rn : Nat) : Int)] 142, .blk g1 #[.int .i64 r, .int .i64 s, .int .i64 b, .int .i64 o, .int .i64 c, .int .i64 y, .int .i64 z] 69] ∧ (k2 ≤ nl) ∧ (f2 = (okD pg lD nd && okL (((sn : Nat) : Int) + ((pn : Nat) : Int)) lD nd lL k2))) (fun gh => match gh with | (k2, f2) => nl - k2) (0, f1) ⟨(nthV [undef, undef, undef, undef, undef, undef, undef, undef, undef, undef, undef, undef, undef, undef, undef, undef, undef, undef, undef, undef, undef, undef, undef, undef, undef, undef, undef, undef, undef, undef, undef, undef, undef, undef, undef, undef, undef, undef, undef]), (by kernel_rfl), H, (Nat.zero_le _), (by rw [okL, ← e1, Bool.and_true])⟩ ?_
              clear H
              rintro ⟨k2, f2⟩ _ v26 ⟨uf5, rfl, H, r1, r2⟩
              have i2 := r1
              have e2 := r2
              refine x_seq ?_
              refine x_region ?_
              refine x_val (.bool (decide (((k2 : Nat) : Int) < ((nl : Nat) : Int)))) (by kernel_rfl) rfl (by kernel_rfl) ?_
              refine x_nil ?_
              refine x_then ?_
              refine x_seq ?_
              cases h21 : decide (((k2 : Nat) : Int) < ((nl : Nat) : Int))
              · skip
                have h21p := of_decide_eq_false h21
                have q2 : k2 = nl := by omega
                rw [q2] at e2
                refine x_f (by kernel_rfl) ?_
                refine x_exit ?_
                refine x_then_exit ?_
                refine x_then_exit ?_
                refine x_blk_exit ?_
                refine x_then ?_
                refine x_seq ?_
                refine x_seq ?_
                refine x_region ?_
                refine x_val (.pointer (some ⟨g2, 2, none⟩)) (by kernel_rfl) rfl (by kernel_rfl) ?_
                refine x_load1 H 5 g2 2 #[.slice aL nl cL, .slice aD nd cD, .slice aS nq cS, .int .i64 ((pn : Nat) : Int), .int .i64 ((rn : Nat) : Int)] 142 (.slice aS nq cS) (by kernel_rfl) (by kernel_rfl) (by kernel_rfl) rfl (by kernel_rfl) ?_
                refine x_val (.int .i64 ((nq : Nat) : Int)) (by kernel_rfl) rfl (by kernel_rfl) ?_
                refine x_val (.int .i64 0) (by kernel_rfl) rfl (by kernel_rfl) ?_
                refine x_nil ?_
                refine x_then ?_
                refine x_block ?_
                refine x_loop (G := Nat × Bool) (fun gh a w' => match gh with | (k3, f3) => ∃ uf6 : Nat → Value, a = { tmps := #[.agg #[.int .i64 r, .int .i64 s, .int .i64 b, .int .i64 o, .int .i64 c, .int .i64 y, .int .i64 z], .agg #[.slice aL nl cL, .slice aD nd cD, .slice aS nq cS, .int .i64 ((pn : Nat) : Int), .int .i64 ((rn : Nat) : Int)], .pointer (some ⟨g1, 0, none⟩), .pointer (some ⟨g2, 0, none⟩), .bool false, .pointer (some ⟨p, 0, none⟩), .int .i64 0, .pointer (some ⟨g4, 0, none⟩), .bool f3, .int .i64 (lastD lD k1), undef, (uf4 0), (uf5 0), (uf5 1), undef, (uf6 0), undef, undef, undef, undef, .bool true, .bool false, .agg #[.int .i64 r, .int .i64 s, .int .i64 b, .int .i64 o, .int .i64 c, .int .i64 y, .int .i64 z], .bool true, .bool false, .bool false, .pointer (some ⟨g2, 0, none⟩), .slice aL nl cL, .int .i64 ((nl : Nat) : Int), .bool false, .bool false, .bool false, .pointer (some ⟨g2, 1, none⟩), .slice aD nd cD, .int .i64 ((nd : Nat) : Int), .bool false, .bool false, .bool false, .pointer (some ⟨g2, 2, none⟩), .slice aS nq cS, .int .i64 ((nq : Nat) : Int), .bool false, .bool false, .tuple #[.pointer (some ⟨p, 0, none⟩), .int .i64 0], .agg #[.int .i64 r, .int .i64 s, .int .i64 b, .int .i64 o, .int .i64 c, .int .i64 y, .int .i64 z], .agg #[.slice aL nl cL, .slice aD nd cD, .slice aS nq cS, .int .i64 ((pn : Nat) : Int), .int .i64 ((rn : Nat) : Int)], .tuple #[.pointer (some ⟨p, 0, none⟩), .int .i64 0], .pointer (some ⟨p, 0, none⟩), .int .i64 0, .agg #[.int .i64 r, .int .i64 s, .int .i64 b, .int .i64 o, .int .i64 c, .int .i64 y, .int .i64 z], .bool true, .bool false, undef, undef, undef, undef, undef, undef, .pointer (some ⟨g1, 0, none⟩), .agg #[.int .i64 r, .int .i64 s, .int .i64 b, .int .i64 o, .int .i64 c], .pointer (some ⟨g2, 0, none⟩), .slice aL nl cL, .int .i64 ((nl : Nat) : Int), .agg #[.int .i64 r, .int .i64 s, .int .i64 b, .int .i64 o, .int .i64 c, .int .i64 y, .int .i64 z], .int .i64 ((sn : Nat) : Int), .bool true, .bool true, .pointer (some ⟨g2, 2, none⟩), .slice aS nq cS, .int .i64 ((nq : Nat) : Int), .pointer (some ⟨g4, 0, none⟩), .int .i64 r, .bool true, .bool true, .bool true, .pointer (some ⟨g2, 3, none⟩), .int .i64 ((pn : Nat) : Int), .bool true, .bool true, .bool true, .pointer (some ⟨g2, 3, none⟩), .int .i64 ((pn : Nat) : Int), .pointer (some ⟨g1, 6, none⟩), .int .i64 z, .bool true, .bool true, .bool true, .pointer (some ⟨g2, 4, none⟩), .int .i64 ((rn : Nat) : Int), .bool true, .bool true, .bool true, .pointer (some ⟨g2, 4, none⟩), .int .i64 ((rn : Nat) : Int), .pointer (some ⟨g4, 1, none⟩), .int .i64 s, .bool true, .bool true, .pointer (some ⟨g2, 1, none⟩), .slice aD nd cD, .int .i64 ((nd : Nat) : Int), .int .i64 ((k1 : Nat) : Int), .bool false, (uf4 2), (uf4 3), (uf4 4), (uf4 5), (uf4 6), (uf4 7), (uf4 8), (uf4 9), (uf4 10), (uf4 11), (uf4 12), (uf4 13), (uf4 14), (uf4 15), (uf4 16), (uf4 17), .pointer (some ⟨g2, 0, none⟩), .slice aL nl cL, .int .i64 ((nl : Nat) : Int), .int .i64 ((k2 : Nat) : Int), .bool false, (uf5 3), (uf5 4), (uf5 5), (uf5 6), (uf5 7), (uf5 8), (uf5 9), (uf5 10), (uf5 11), (uf5 12), (uf5 13), (uf5 14), (uf5 15), (uf5 16), (uf5 17), (uf5 18), (uf5 19), (uf5 20), (uf5 21), (uf5 22), (uf5 23), (uf5 24), (uf5 25), (uf5 26), (uf5 27), (uf5 28), (uf5 29), (uf5 30), (uf5 31), (uf5 32), (uf5 33), (uf5 34), (uf5 35), (uf5 36), (uf5 37), (uf5 38), .pointer (some ⟨g2, 2, none⟩), .slice aS nq cS, .int .i64 ((nq : Nat) : Int), .int .i64 ((k3 : Nat) : Int), (uf6 1), (uf6 2), (uf6 3), (uf6 4), (uf6 5), (uf6 6), (uf6 7), (uf6 8), (uf6 9), (uf6 10), (uf6 11), (uf6 12), (uf6 13), (uf6 14), (uf6 15), (uf6 16), (uf6 17), (uf6 18), (uf6 19), (uf6 20), (uf6 21), (uf6 22), (uf6 23), (uf6 24), undef, undef, undef, undef, undef, undef, undef, undef, undef, undef, undef, undef, undef, undef, undef, undef, undef, undef, undef, undef, undef, undef, undef, undef, undef, undef, undef, undef, undef, undef, undef, undef, undef, undef, undef, undef], defers := [] } ∧ Hs [] w0 w' [.blk g4 #[.int .i64 r, .int .i64 s, .int .i64 b, .int .i64 o, .int .i64 c] 67, .blk p #[.int .i64 r, .int .i64 s, .int .i64 b, .int .i64 o, .int .i64 c, .int .i64 y, .int .i64 z, .slice (some ⟨gl, 0, none⟩) sn cl, .slice (some ⟨gd, 0, none⟩) pg cd, .slice (some ⟨gs, 0, none⟩) ns cs, .int .i64 ((pn : Nat) : Int), .int .i64 ((rn : Nat) : Int)] 181, .row (.slice (some ⟨gl, 0, none⟩) sn cl) 3 1 sn (List.map (Value.int .i64) (setsL lL (iota sn) nl)), .row (.slice (some ⟨gd, 0, none⟩) pg cd) 4 1 pg (List.map Value.bool (marks pg lD nd)), .row (.slice (some ⟨gs, 0, none⟩) ns cs) 3 1 ns (List.map (Value.int .i64) (standL lS (List.replicate ns (-1)) nq)), .blk g2 #[.slice aL nl cL, .slice aD nd cD, .slice aS nq cS, .int .i64 ((pn : Nat) : Int), .int .i64 ((rn : Nat) : Int)] 142, .blk g1 #[.int .i64 r, .int .i64 s, .int .i64 b, .int .i64 o, .int .i64 c, .int .i64 y, .int .i64 z] 69] ∧ (k3 ≤ nq) ∧ (f3 = ((okD pg lD nd && okL (((sn : Nat) : Int) + ((pn : Nat) : Int)) lD nd lL nl) && okT r ((rn : Nat) : Int) lS k3))) (fun gh => match gh with | (k3, f3) => nq - k3) (0, f2) ⟨(nthV [undef, undef, undef, undef, undef, undef, undef, undef, undef, undef, undef, undef, undef, undef, undef, undef, undef, undef, undef, undef, undef, undef, undef, undef, undef]), (by kernel_rfl), H, (Nat.zero_le _), (by rw [okT, ← e2, Bool.and_true])⟩ ?_
                clear H
                rintro ⟨k3, f3⟩ _ v27 ⟨uf6, rfl, H, r1, r2⟩
                have i3 := r1
                have e3 := r2
                refine x_seq ?_
                refine x_region ?_
                refine x_val (.bool (decide (((k3 : Nat) : Int) < ((nq : Nat) : Int)))) (by kernel_rfl) rfl (by kernel_rfl) ?_
                refine x_nil ?_
                refine x_then ?_
                refine x_seq ?_
                cases h22 : decide (((k3 : Nat) : Int) < ((nq : Nat) : Int))
                · skip
                  have h22p := of_decide_eq_false h22
                  have q3 : k3 = nq := by omega
                  rw [q3, oks_doc (by omega) (by omega)] at e3
                  refine x_f (by kernel_rfl) ?_
                  refine x_exit ?_
                  refine x_then_exit ?_
                  refine x_then_exit ?_
                  refine x_blk_exit ?_
                  refine x_then ?_
                  refine x_seq ?_
                  refine x_seq ?_
                  refine x_region ?_
                  refine x_val (.bool f3) (by kernel_rfl) rfl (by kernel_rfl) ?_
                  refine x_val (.bool (!f3)) (by kernel_rfl) rfl (by kernel_rfl) ?_
                  refine x_nil ?_
                  refine x_then ?_
                  cases h23 : f3
                  · skip
                    exact absurd (h23.symm.trans (e3.trans h5)) (by decide)
                  · skip
                    refine x_f (by kernel_rfl) ?_
                    refine x_skipc ?_
                    refine x_then ?_
                    refine x_seq ?_
                    refine x_seq ?_
                    refine x_region ?_
                    refine x_val (.int .i64 0) (by kernel_rfl) rfl (by kernel_rfl) ?_
                    refine x_val (.bool false) (by kernel_rfl) rfl (by kernel_rfl) ?_
                    refine x_val (.bool false) (by kernel_rfl) rfl (by kernel_rfl) ?_
                    refine x_val (.pointer (some ⟨p, 0, none⟩)) (by kernel_rfl) rfl (by kernel_rfl) ?_
                    refine x_val (.bool false) (by kernel_rfl) rfl (by kernel_rfl) ?_
                    refine x_val (.bool false) (by kernel_rfl) rfl (by kernel_rfl) ?_
                    refine x_nil ?_
                    refine x_then ?_
                    refine x_f (by kernel_rfl) ?_
                    refine x_skipc ?_
                    refine x_then ?_
                    refine x_seq ?_
                    refine x_seq ?_
                    refine x_region ?_
                    refine x_val (.pointer (some ⟨g2, 0, none⟩)) (by kernel_rfl) rfl (by kernel_rfl) ?_
                    refine x_load1 H 5 g2 0 #[.slice aL nl cL, .slice aD nd cD, .slice aS nq cS, .int .i64 ((pn : Nat) : Int), .int .i64 ((rn : Nat) : Int)] 142 (.slice aL nl cL) (by kernel_rfl) (by kernel_rfl) (by kernel_rfl) rfl (by kernel_rfl) ?_
                    refine x_val (.int .i64 ((nl : Nat) : Int)) (by kernel_rfl) rfl (by kernel_rfl) ?_
                    refine x_val (.int .i64 0) (by kernel_rfl) rfl (by kernel_rfl) ?_
                    refine x_nil ?_
                    refine x_then ?_
                    refine x_block ?_
                    refine x_loop (G := Nat) (fun (k4 : Nat) a w' => ∃ uf7 : Nat → Value, a = { tmps := #[.agg #[.int .i64 r, .int .i64 s, .int .i64 b, .int .i64 o, .int .i64 c, .int .i64 y, .int .i64 z], .agg #[.slice aL nl cL, .slice aD nd cD, .slice aS nq cS, .int .i64 ((pn : Nat) : Int), .int .i64 ((rn : Nat) : Int)], .pointer (some ⟨g1, 0, none⟩), .pointer (some ⟨g2, 0, none⟩), (uf7 0), .pointer (some ⟨p, 0, none⟩), .int .i64 0, .pointer (some ⟨g4, 0, none⟩), .bool true, .int .i64 (lastD lD k1), undef, (uf4 0), (uf5 0), (uf5 1), undef, (uf6 0), (uf7 1), (uf7 2), (uf7 3), (uf7 4), .bool true, .bool false, .agg #[.int .i64 r, .int .i64 s, .int .i64 b, .int .i64 o, .int .i64 c, .int .i64 y, .int .i64 z], .bool true, .bool false, .bool false, .pointer (some ⟨g2, 0, none⟩), .slice aL nl cL, .int .i64 ((nl : Nat) : Int), .bool false, .bool false, .bool false, .pointer (some ⟨g2, 1, none⟩), .slice aD nd cD, .int .i64 ((nd : Nat) : Int), .bool false, .bool false, .bool false, .pointer (some ⟨g2, 2, none⟩), .slice aS nq cS, .int .i64 ((nq : Nat) : Int), .bool false, .bool false, .tuple #[.pointer (some ⟨p, 0, none⟩), .int .i64 0], .agg #[.int .i64 r, .int .i64 s, .int .i64 b, .int .i64 o, .int .i64 c, .int .i64 y, .int .i64 z], .agg #[.slice aL nl cL, .slice aD nd cD, .slice aS nq cS, .int .i64 ((pn : Nat) : Int), .int .i64 ((rn : Nat) : Int)], .tuple #[.pointer (some ⟨p, 0, none⟩), .int .i64 0], .pointer (some ⟨p, 0, none⟩), .int .i64 0, .agg #[.int .i64 r, .int .i64 s, .int .i64 b, .int .i64 o, .int .i64 c, .int .i64 y, .int .i64 z], .bool true, .bool false, undef, undef, undef, undef, undef, undef, .pointer (some ⟨g1, 0, none⟩), .agg #[.int .i64 r, .int .i64 s, .int .i64 b, .int .i64 o, .int .i64 c], .pointer (some ⟨g2, 0, none⟩), .slice aL nl cL, .int .i64 ((nl : Nat) : Int), .agg #[.int .i64 r, .int .i64 s, .int .i64 b, .int .i64 o, .int .i64 c, .int .i64 y, .int .i64 z], .int .i64 ((sn : Nat) : Int), .bool true, .bool true, .pointer (some ⟨g2, 2, none⟩), .slice aS nq cS, .int .i64 ((nq : Nat) : Int), .pointer (some ⟨g4, 0, none⟩), .int .i64 r, .bool true, .bool true, .bool true, .pointer (some ⟨g2, 3, none⟩), .int .i64 ((pn : Nat) : Int), .bool true, .bool true, .bool true, .pointer (some ⟨g2, 3, none⟩), .int .i64 ((pn : Nat) : Int), .pointer (some ⟨g1, 6, none⟩), .int .i64 z, .bool true, .bool true, .bool true, .pointer (some ⟨g2, 4, none⟩), .int .i64 ((rn : Nat) : Int), .bool true, .bool true, .bool true, .pointer (some ⟨g2, 4, none⟩), .int .i64 ((rn : Nat) : Int), .pointer (some ⟨g4, 1, none⟩), .int .i64 s, .bool true, .bool true, .pointer (some ⟨g2, 1, none⟩), .slice aD nd cD, .int .i64 ((nd : Nat) : Int), .int .i64 ((k1 : Nat) : Int), .bool false, (uf4 2), (uf4 3), (uf4 4), (uf4 5), (uf4 6), (uf4 7), (uf4 8), (uf4 9), (uf4 10), (uf4 11), (uf4 12), (uf4 13), (uf4 14), (uf4 15), (uf4 16), (uf4 17), .pointer (some ⟨g2, 0, none⟩), .slice aL nl cL, .int .i64 ((nl : Nat) : Int), .int .i64 ((k2 : Nat) : Int), .bool false, (uf5 3), (uf5 4), (uf5 5), (uf5 6), (uf5 7), (uf5 8), (uf5 9), (uf5 10), (uf5 11), (uf5 12), (uf5 13), (uf5 14), (uf5 15), (uf5 16), (uf5 17), (uf5 18), (uf5 19), (uf5 20), (uf5 21), (uf5 22), (uf5 23), (uf5 24), (uf5 25), (uf5 26), (uf5 27), (uf5 28), (uf5 29), (uf5 30), (uf5 31), (uf5 32), (uf5 33), (uf5 34), (uf5 35), (uf5 36), (uf5 37), (uf5 38), .pointer (some ⟨g2, 2, none⟩), .slice aS nq cS, .int .i64 ((nq : Nat) : Int), .int .i64 ((k3 : Nat) : Int), .bool false, (uf6 2), (uf6 3), (uf6 4), (uf6 5), (uf6 6), (uf6 7), (uf6 8), (uf6 9), (uf6 10), (uf6 11), (uf6 12), (uf6 13), (uf6 14), (uf6 15), (uf6 16), (uf6 17), (uf6 18), (uf6 19), (uf6 20), (uf6 21), (uf6 22), (uf6 23), (uf6 24), .bool true, .bool false, undef, undef, undef, undef, undef, undef, .int .i64 0, .bool false, .bool false, .pointer (some ⟨p, 0, none⟩), .bool false, .bool false, .pointer (some ⟨g2, 0, none⟩), .slice aL nl cL, .int .i64 ((nl : Nat) : Int), .int .i64 ((k4 : Nat) : Int), (uf7 5), (uf7 6), (uf7 7), (uf7 8), (uf7 9), (uf7 10), (uf7 11), (uf7 12), (uf7 13), (uf7 14), (uf7 15), (uf7 16), (uf7 17), (uf7 18), (uf7 19), (uf7 20), (uf7 21), (uf7 22)], defers := [] } ∧ Hs [] w0 w' [.blk g4 #[.int .i64 r, .int .i64 s, .int .i64 b, .int .i64 o, .int .i64 c] 67, .blk p #[.int .i64 r, .int .i64 s, .int .i64 b, .int .i64 o, .int .i64 c, .int .i64 y, .int .i64 z, .slice (some ⟨gl, 0, none⟩) sn cl, .slice (some ⟨gd, 0, none⟩) pg cd, .slice (some ⟨gs, 0, none⟩) ns cs, .int .i64 ((pn : Nat) : Int), .int .i64 ((rn : Nat) : Int)] 181, .row (.slice (some ⟨gl, 0, none⟩) sn cl) 3 1 sn (List.map (Value.int .i64) (setsL lL (iota sn) nl)), .row (.slice (some ⟨gd, 0, none⟩) pg cd) 4 1 pg (List.map Value.bool (marks pg lD nd)), .row (.slice (some ⟨gs, 0, none⟩) ns cs) 3 1 ns (List.map (Value.int .i64) (standL lS (List.replicate ns (-1)) nq)), .blk g2 #[.slice aL nl cL, .slice aD nd cD, .slice aS nq cS, .int .i64 ((pn : Nat) : Int), .int .i64 ((rn : Nat) : Int)] 142, .blk g1 #[.int .i64 r, .int .i64 s, .int .i64 b, .int .i64 o, .int .i64 c, .int .i64 y, .int .i64 z] 69] ∧ (k4 ≤ nl)) (fun (k4 : Nat) => nl - k4) 0 ⟨(nthV [.bool false, undef, undef, undef, undef, undef, undef, undef, undef, undef, undef, undef, undef, undef, undef, undef, undef, undef, undef, undef, undef, undef, undef]), (by kernel_rfl), H, (Nat.zero_le _)⟩ ?_
                    clear H
                    rintro k4 _ v28 ⟨uf7, rfl, H, r1⟩
                    refine x_seq ?_
                    refine x_region ?_
                    refine x_val (.bool (decide (((k4 : Nat) : Int) < ((nl : Nat) : Int)))) (by kernel_rfl) rfl (by kernel_rfl) ?_
                    refine x_nil ?_
                    refine x_then ?_
                    refine x_seq ?_
                    cases h24 : decide (((k4 : Nat) : Int) < ((nl : Nat) : Int))
                    · skip
                      have h24p := of_decide_eq_false h24
                      refine x_f (by kernel_rfl) ?_
                      refine x_exit ?_
                      refine x_then_exit ?_
                      refine x_then_exit ?_
                      refine x_blk_exit ?_
                      refine x_then ?_
                      refine x_seq ?_
                      refine x_region ?_
                      refine x_val (.bool true) (by kernel_rfl) rfl (by kernel_rfl) ?_
                      refine x_nil ?_
                      refine x_then ?_
                      refine x_retc ?_
                      refine x_ret (.bool true) (by kernel_rfl) (by kernel_rfl) ?_
                      exact ⟨rfl, H.below⟩
                    · skip
                      have h24p := of_decide_eq_true h24
                      refine x_t (by kernel_rfl) ?_
                      refine x_skipc ?_
                      refine x_then ?_
                      refine x_seq ?_
                      refine x_block ?_
                      refine x_seq ?_
                      refine x_region ?_
                      refine x_val (.int .i64 ((k4 : Nat) : Int)) (by kernel_rfl) rfl (by kernel_rfl) ?_
                      obtain ⟨gL, oL, hadL, hcL⟩ := hIL (by omega)
                      refine x_ixO (t := 106) hadL k4 nl cL 3 1 (oL + k4) (by omega) (by omega) (by kernel_rfl) (by kernel_rfl) (by kernel_rfl) rfl (by kernel_rfl) ?_
                      refine x_loadc gL (oL + k4) (.int .i64 (lL.getD k4 0)) (hcL _ H.below k4 (by omega)) (by kernel_rfl) rfl (by kernel_rfl) ?_
                      refine x_val (.int .i64 ((k4 : Nat) : Int)) (by kernel_rfl) rfl (by kernel_rfl) ?_
                      refine x_val (.int .i64 (lL.getD k4 0)) (by kernel_rfl) rfl (by kernel_rfl) ?_
                      refine x_nil ?_
                      refine x_then ?_
                      refine x_seq ?_
                      refine x_region ?_
                      refine x_val (.pointer (some ⟨p, 0, none⟩)) (by kernel_rfl) rfl (by kernel_rfl) ?_
                      refine x_val (.int .i64 ((k4 : Nat) : Int)) (by kernel_rfl) rfl (by kernel_rfl) ?_
                      refine x_callB (.tuple #[.int .i64 (lL.getD k4 0), .int .i64 0]) H (by kernel_rfl) rfl (by kernel_rfl) (by have h := Lives_in hL (L := setsL lL (iota sn) nl) ⟨by rw [setsL_len]; exact iota_len sn, marks_len _ _ _, by rw [standL_len]; exact List.length_replicate, by omega, by omega⟩ k4 (by omega) _ (H.roOf [1, 2, 3, 4] [.blk p #[.int .i64 r, .int .i64 s, .int .i64 b, .int .i64 o, .int .i64 c, .int .i64 y, .int .i64 z, .slice (some ⟨gl, 0, none⟩) sn cl, .slice (some ⟨gd, 0, none⟩) pg cd, .slice (some ⟨gs, 0, none⟩) ns cs, .int .i64 ((pn : Nat) : Int), .int .i64 ((rn : Nat) : Int)] 181, .row (.slice (some ⟨gl, 0, none⟩) sn cl) 3 1 sn (List.map (Value.int .i64) (setsL lL (iota sn) nl)), .row (.slice (some ⟨gd, 0, none⟩) pg cd) 4 1 pg (List.map Value.bool (marks pg lD nd)), .row (.slice (some ⟨gs, 0, none⟩) ns cs) 3 1 ns (List.map (Value.int .i64) (standL lS (List.replicate ns (-1)) nq))] (by kernel_rfl)); rw [setsL_get _ _ _ _ (by omega) (by rw [iota_len]; omega)] at h; exact h) ?_
                      clear H
                      intro v29 H
                      refine x_val (.tuple #[.int .i64 (lL.getD k4 0), .int .i64 0]) (by kernel_rfl) rfl (by kernel_rfl) ?_
                      refine x_val (.int .i64 (lL.getD k4 0)) (by kernel_rfl) rfl (by kernel_rfl) ?_
                      refine x_val (.int .i64 0) (by kernel_rfl) rfl (by kernel_rfl) ?_
                      refine x_val (.int .i64 (lL.getD k4 0)) (by kernel_rfl) rfl (by kernel_rfl) ?_
                      refine x_val (.int .i64 0) (by kernel_rfl) rfl (by kernel_rfl) ?_
                      refine x_nil ?_
                      refine x_then ?_
                      refine x_seq ?_
                      refine x_region ?_
                      refine x_val (.int .i64 (lL.getD k4 0)) (by kernel_rfl) rfl (by kernel_rfl) ?_
                      refine x_val (.int .i64 (lL.getD k4 0)) (by kernel_rfl) rfl (by kernel_rfl) ?_
                      refine x_eq (.bool false) (show Value.bool (!decide ((lL.getD k4 0) = (lL.getD k4 0))) = Value.bool false by simp) (by kernel_rfl) rfl (by kernel_rfl) ?_
                      refine x_val (.bool false) (by kernel_rfl) rfl (by kernel_rfl) ?_
                      refine x_val (.int .i64 0) (by kernel_rfl) rfl (by kernel_rfl) ?_
                      refine x_val (.bool false) (by kernel_rfl) rfl (by kernel_rfl) ?_
                      refine x_val (.bool false) (by kernel_rfl) rfl (by kernel_rfl) ?_
                      refine x_nil ?_
                      refine x_then ?_
                      refine x_f (by kernel_rfl) ?_
                      refine x_skipc ?_
                      refine x_blk ?_
                      refine x_then ?_
                      refine x_region ?_
                      refine x_ar (((k4 : Nat) : Int) + 1) ⟨by omega, by omega⟩ (by kernel_rfl) rfl (by kernel_rfl) ?_
                      refine x_val (.int .i64 (((k4 : Nat) : Int) + 1)) (by kernel_rfl) rfl (by kernel_rfl) ?_
                      refine x_nil ?_
                      refine x_then ?_
                      exact ⟨(k4 + 1), (by omega), (nthV [(uf7 0), .int .i64 ((k4 : Nat) : Int), .int .i64 (lL.getD k4 0), .int .i64 (lL.getD k4 0), .int .i64 0, .bool true, .int .i64 ((k4 : Nat) : Int), .pointer (some ⟨gL, oL + k4, none⟩), .int .i64 (lL.getD k4 0), .tuple #[.int .i64 (lL.getD k4 0), .int .i64 0], .pointer (some ⟨p, 0, none⟩), .int .i64 ((k4 : Nat) : Int), .tuple #[.int .i64 (lL.getD k4 0), .int .i64 0], .int .i64 (lL.getD k4 0), .int .i64 0, .int .i64 (lL.getD k4 0), .int .i64 (lL.getD k4 0), .bool false, .bool false, .int .i64 0, .bool false, .bool false, .int .i64 (((k4 : Nat) : Int) + 1)]), (by kernel_rfl), H, (by omega)⟩
                · skip
                  have h22p := of_decide_eq_true h22
                  refine x_t (by kernel_rfl) ?_
                  refine x_skipc ?_
                  refine x_then ?_
                  refine x_seq ?_
                  refine x_block ?_
                  refine x_seq ?_
                  refine x_region ?_
                  obtain ⟨gS, oS, hadS, hcS⟩ := hIS (by omega)
                  refine x_ixO (t := 106) hadS k3 nq cS 3 1 (oS + k3) (by omega) (by omega) (by kernel_rfl) (by kernel_rfl) (by kernel_rfl) rfl (by kernel_rfl) ?_
                  refine x_loadc gS (oS + k3) (.int .i64 (lS.getD k3 0)) (hcS _ H.below k3 (by omega)) (by kernel_rfl) rfl (by kernel_rfl) ?_
                  refine x_val (.int .i64 (lS.getD k3 0)) (by kernel_rfl) rfl (by kernel_rfl) ?_
                  refine x_nil ?_
                  refine x_then ?_
                  refine x_region ?_
                  refine x_val (.bool f3) (by kernel_rfl) rfl (by kernel_rfl) ?_
                  refine x_val (.bool f3) (by kernel_rfl) rfl (by kernel_rfl) ?_
                  cases h25 : f3
                  · skip
                    refine x_skip (by kernel_rfl) ?_
                    refine x_skip (by kernel_rfl) ?_
                    refine x_skip (by kernel_rfl) ?_
                    refine x_skip (by kernel_rfl) ?_
                    refine x_skip (by kernel_rfl) ?_
                    refine x_skip (by kernel_rfl) ?_
                    refine x_skip (by kernel_rfl) ?_
                    refine x_skip (by kernel_rfl) ?_
                    refine x_skip (by kernel_rfl) ?_
                    refine x_skip (by kernel_rfl) ?_
                    refine x_skip (by kernel_rfl) ?_
                    refine x_skip (by kernel_rfl) ?_
                    refine x_skip (by kernel_rfl) ?_
                    refine x_skip (by kernel_rfl) ?_
                    refine x_skip (by kernel_rfl) ?_
                    refine x_skip (by kernel_rfl) ?_
                    refine x_skip (by kernel_rfl) ?_
                    refine x_val (.bool false) (by kernel_rfl) rfl (by kernel_rfl) ?_
                    refine x_val (.bool false) (by kernel_rfl) rfl (by kernel_rfl) ?_
                    refine x_nil ?_
                    refine x_blk ?_
                    refine x_then ?_
                    refine x_region ?_
                    refine x_ar (((k3 : Nat) : Int) + 1) ⟨by omega, by omega⟩ (by kernel_rfl) rfl (by kernel_rfl) ?_
                    refine x_val (.int .i64 (((k3 : Nat) : Int) + 1)) (by kernel_rfl) rfl (by kernel_rfl) ?_
                    refine x_nil ?_
                    refine x_then ?_
                    exact ⟨(k3 + 1, false), (by dsimp only; omega), (nthV [.int .i64 (lS.getD k3 0), .bool true, .pointer (some ⟨gS, oS + k3, none⟩), .int .i64 (lS.getD k3 0), .bool false, .bool false, undef, undef, undef, undef, undef, undef, undef, undef, undef, undef, undef, undef, undef, undef, undef, undef, undef, .bool false, .int .i64 (((k3 : Nat) : Int) + 1)]), (by kernel_rfl), H, (by omega), (by rw [okT, ← Bool.and_assoc, ← r2, h25]; try rfl)⟩
                  · skip
                    refine x_val (.int .i64 (lS.getD k3 0)) (by kernel_rfl) rfl (by kernel_rfl) ?_
                    refine x_val (.bool (decide ((lS.getD k3 0) = 0))) (by kernel_rfl) rfl (by kernel_rfl) ?_
                    refine x_val (.bool (decide ((lS.getD k3 0) = 0))) (by kernel_rfl) rfl (by kernel_rfl) ?_
                    cases h26 : decide ((lS.getD k3 0) = 0)
                    · skip
                      have h26p := of_decide_eq_false h26
                      refine x_val (.int .i64 (lS.getD k3 0)) (by kernel_rfl) rfl (by kernel_rfl) ?_
                      refine x_val (.pointer (some ⟨g4, 0, none⟩)) (by kernel_rfl) rfl (by kernel_rfl) ?_
                      refine x_load1 H 0 g4 0 #[.int .i64 r, .int .i64 s, .int .i64 b, .int .i64 o, .int .i64 c] 67 (.int .i64 r) (by kernel_rfl) (by kernel_rfl) (by kernel_rfl) rfl (by kernel_rfl) ?_
                      refine x_val (.bool (decide (r ≤ (lS.getD k3 0)))) (by kernel_rfl) rfl (by kernel_rfl) ?_
                      refine x_val (.bool (decide (r ≤ (lS.getD k3 0)))) (by kernel_rfl) rfl (by kernel_rfl) ?_
                      cases h27 : decide (r ≤ (lS.getD k3 0))
                      · skip
                        have h27p := of_decide_eq_false h27
                        refine x_skip (by kernel_rfl) ?_
                        refine x_skip (by kernel_rfl) ?_
                        refine x_skip (by kernel_rfl) ?_
                        refine x_skip (by kernel_rfl) ?_
                        refine x_skip (by kernel_rfl) ?_
                        refine x_skip (by kernel_rfl) ?_
                        refine x_skip (by kernel_rfl) ?_
                        refine x_val (.bool false) (by kernel_rfl) rfl (by kernel_rfl) ?_
                        refine x_val (.bool false) (by kernel_rfl) rfl (by kernel_rfl) ?_
                        refine x_val (.bool false) (by kernel_rfl) rfl (by kernel_rfl) ?_
                        refine x_val (.bool false) (by kernel_rfl) rfl (by kernel_rfl) ?_
                        refine x_nil ?_
                        refine x_blk ?_
                        refine x_then ?_
                        refine x_region ?_
                        refine x_ar (((k3 : Nat) : Int) + 1) ⟨by omega, by omega⟩ (by kernel_rfl) rfl (by kernel_rfl) ?_
                        refine x_val (.int .i64 (((k3 : Nat) : Int) + 1)) (by kernel_rfl) rfl (by kernel_rfl) ?_
                        refine x_nil ?_
                        refine x_then ?_
                        exact ⟨(k3 + 1, false), (by dsimp only; omega), (nthV [.int .i64 (lS.getD k3 0), .bool true, .pointer (some ⟨gS, oS + k3, none⟩), .int .i64 (lS.getD k3 0), .bool true, .bool true, .int .i64 (lS.getD k3 0), .bool false, .bool false, .int .i64 (lS.getD k3 0), .pointer (some ⟨g4, 0, none⟩), .int .i64 r, .bool false, .bool false, undef, undef, undef, undef, undef, undef, undef, .bool false, .bool false, .bool false, .int .i64 (((k3 : Nat) : Int) + 1)]), (by kernel_rfl), H, (by omega), (by rw [okT, ← Bool.and_assoc, ← r2, h25, h26, h27]; try rfl)⟩
                      · skip
                        have h27p := of_decide_eq_true h27
                        refine x_val (.int .i64 (lS.getD k3 0)) (by kernel_rfl) rfl (by kernel_rfl) ?_
                        refine x_val (.pointer (some ⟨g4, 0, none⟩)) (by kernel_rfl) rfl (by kernel_rfl) ?_
                        refine x_load1 H 0 g4 0 #[.int .i64 r, .int .i64 s, .int .i64 b, .int .i64 o, .int .i64 c] 67 (.int .i64 r) (by kernel_rfl) (by kernel_rfl) (by kernel_rfl) rfl (by kernel_rfl) ?_
                        refine x_val (.pointer (some ⟨g2, 4, none⟩)) (by kernel_rfl) rfl (by kernel_rfl) ?_
                        refine x_load1 H 5 g2 4 #[.slice aL nl cL, .slice aD nd cD, .slice aS nq cS, .int .i64 ((pn : Nat) : Int), .int .i64 ((rn : Nat) : Int)] 142 (.int .i64 ((rn : Nat) : Int)) (by kernel_rfl) (by kernel_rfl) (by kernel_rfl) rfl (by kernel_rfl) ?_
                        refine x_ar (r + ((rn : Nat) : Int)) ⟨by omega, by omega⟩ (by kernel_rfl) rfl (by kernel_rfl) ?_
                        refine x_val (.bool (decide ((lS.getD k3 0) < (r + ((rn : Nat) : Int))))) (by kernel_rfl) rfl (by kernel_rfl) ?_
                        refine x_val (.bool (decide ((lS.getD k3 0) < (r + ((rn : Nat) : Int))))) (by kernel_rfl) rfl (by kernel_rfl) ?_
                        refine x_val (.bool (decide ((lS.getD k3 0) < (r + ((rn : Nat) : Int))))) (by kernel_rfl) rfl (by kernel_rfl) ?_
                        refine x_val (.bool (decide ((lS.getD k3 0) < (r + ((rn : Nat) : Int))))) (by kernel_rfl) rfl (by kernel_rfl) ?_
                        refine x_val (.bool (decide ((lS.getD k3 0) < (r + ((rn : Nat) : Int))))) (by kernel_rfl) rfl (by kernel_rfl) ?_
                        refine x_nil ?_
                        refine x_blk ?_
                        refine x_then ?_
                        refine x_region ?_
                        refine x_ar (((k3 : Nat) : Int) + 1) ⟨by omega, by omega⟩ (by kernel_rfl) rfl (by kernel_rfl) ?_
                        refine x_val (.int .i64 (((k3 : Nat) : Int) + 1)) (by kernel_rfl) rfl (by kernel_rfl) ?_
                        refine x_nil ?_
                        refine x_then ?_
                        exact ⟨(k3 + 1, (decide ((lS.getD k3 0) < (r + ((rn : Nat) : Int))))), (by dsimp only; omega), (nthV [.int .i64 (lS.getD k3 0), .bool true, .pointer (some ⟨gS, oS + k3, none⟩), .int .i64 (lS.getD k3 0), .bool true, .bool true, .int .i64 (lS.getD k3 0), .bool false, .bool false, .int .i64 (lS.getD k3 0), .pointer (some ⟨g4, 0, none⟩), .int .i64 r, .bool true, .bool true, .int .i64 (lS.getD k3 0), .pointer (some ⟨g4, 0, none⟩), .int .i64 r, .pointer (some ⟨g2, 4, none⟩), .int .i64 ((rn : Nat) : Int), .int .i64 (r + ((rn : Nat) : Int)), .bool (decide ((lS.getD k3 0) < (r + ((rn : Nat) : Int)))), .bool (decide ((lS.getD k3 0) < (r + ((rn : Nat) : Int)))), .bool (decide ((lS.getD k3 0) < (r + ((rn : Nat) : Int)))), .bool (decide ((lS.getD k3 0) < (r + ((rn : Nat) : Int)))), .int .i64 (((k3 : Nat) : Int) + 1)]), (by kernel_rfl), H, (by omega), (by rw [okT, ← Bool.and_assoc, ← r2, h25, h26, h27]; try rfl)⟩
                    · skip
                      have h26p := of_decide_eq_true h26
                      refine x_skip (by kernel_rfl) ?_
                      refine x_skip (by kernel_rfl) ?_
                      refine x_skip (by kernel_rfl) ?_
                      refine x_skip (by kernel_rfl) ?_
                      refine x_skip (by kernel_rfl) ?_
                      refine x_skip (by kernel_rfl) ?_
                      refine x_skip (by kernel_rfl) ?_
                      refine x_skip (by kernel_rfl) ?_
                      refine x_skip (by kernel_rfl) ?_
                      refine x_skip (by kernel_rfl) ?_
                      refine x_skip (by kernel_rfl) ?_
                      refine x_skip (by kernel_rfl) ?_
                      refine x_skip (by kernel_rfl) ?_
                      refine x_val (.bool true) (by kernel_rfl) rfl (by kernel_rfl) ?_
                      refine x_val (.bool true) (by kernel_rfl) rfl (by kernel_rfl) ?_
                      refine x_val (.bool true) (by kernel_rfl) rfl (by kernel_rfl) ?_
                      refine x_nil ?_
                      refine x_blk ?_
                      refine x_then ?_
                      refine x_region ?_
                      refine x_ar (((k3 : Nat) : Int) + 1) ⟨by omega, by omega⟩ (by kernel_rfl) rfl (by kernel_rfl) ?_
                      refine x_val (.int .i64 (((k3 : Nat) : Int) + 1)) (by kernel_rfl) rfl (by kernel_rfl) ?_
                      refine x_nil ?_
                      refine x_then ?_
                      exact ⟨(k3 + 1, true), (by dsimp only; omega), (nthV [.int .i64 (lS.getD k3 0), .bool true, .pointer (some ⟨gS, oS + k3, none⟩), .int .i64 (lS.getD k3 0), .bool true, .bool true, .int .i64 (lS.getD k3 0), .bool true, .bool true, undef, undef, undef, undef, undef, undef, undef, undef, undef, undef, undef, undef, undef, .bool true, .bool true, .int .i64 (((k3 : Nat) : Int) + 1)]), (by kernel_rfl), H, (by omega), (by rw [okT, ← Bool.and_assoc, ← r2, h25, h26]; try rfl)⟩
              · skip
                have h21p := of_decide_eq_true h21
                refine x_t (by kernel_rfl) ?_
                refine x_skipc ?_
                refine x_then ?_
                refine x_seq ?_
                refine x_block ?_
                refine x_seq ?_
                refine x_region ?_
                refine x_val (.int .i64 ((k2 : Nat) : Int)) (by kernel_rfl) rfl (by kernel_rfl) ?_
                obtain ⟨gL, oL, hadL, hcL⟩ := hIL (by omega)
                refine x_ixO (t := 106) hadL k2 nl cL 3 1 (oL + k2) (by omega) (by omega) (by kernel_rfl) (by kernel_rfl) (by kernel_rfl) rfl (by kernel_rfl) ?_
                refine x_loadc gL (oL + k2) (.int .i64 (lL.getD k2 0)) (hcL _ H.below k2 (by omega)) (by kernel_rfl) rfl (by kernel_rfl) ?_
                refine x_val (.int .i64 ((k2 : Nat) : Int)) (by kernel_rfl) rfl (by kernel_rfl) ?_
                refine x_val (.int .i64 (lL.getD k2 0)) (by kernel_rfl) rfl (by kernel_rfl) ?_
                refine x_nil ?_
                refine x_then ?_
                refine x_region_whole (fun w' => Hs [] w0 w' [.blk g4 #[.int .i64 r, .int .i64 s, .int .i64 b, .int .i64 o, .int .i64 c] 67, .blk p #[.int .i64 r, .int .i64 s, .int .i64 b, .int .i64 o, .int .i64 c, .int .i64 y, .int .i64 z, .slice (some ⟨gl, 0, none⟩) sn cl, .slice (some ⟨gd, 0, none⟩) pg cd, .slice (some ⟨gs, 0, none⟩) ns cs, .int .i64 ((pn : Nat) : Int), .int .i64 ((rn : Nat) : Int)] 181, .row (.slice (some ⟨gl, 0, none⟩) sn cl) 3 1 sn (List.map (Value.int .i64) (setsL lL (iota sn) nl)), .row (.slice (some ⟨gd, 0, none⟩) pg cd) 4 1 pg (List.map Value.bool (marks pg lD nd)), .row (.slice (some ⟨gs, 0, none⟩) ns cs) 3 1 ns (List.map (Value.int .i64) (standL lS (List.replicate ns (-1)) nq)), .blk g2 #[.slice aL nl cL, .slice aD nd cD, .slice aS nq cS, .int .i64 ((pn : Nat) : Int), .int .i64 ((rn : Nat) : Int)] 142, .blk g1 #[.int .i64 r, .int .i64 s, .int .i64 b, .int .i64 o, .int .i64 c, .int .i64 y, .int .i64 z] 69]) (by kernel_rfl) (by kernel_rfl) (by kernel_rfl) H.drew ?_
                refine q_val (.bool f2) (by kernel_rfl) (fun _ => by kernel_rfl) ?_
                refine q_val (.bool f2) (by kernel_rfl) (fun _ => by kernel_rfl) ?_
                cases h28 : f2
                · skip
                  refine q_skip (by kernel_rfl) ?_
                  refine q_skip (by kernel_rfl) ?_
                  refine q_val (.bool false) (by kernel_rfl) (fun _ => by kernel_rfl) ?_
                  refine q_val (.bool false) (by kernel_rfl) (fun _ => by kernel_rfl) ?_
                  refine q_skip (by kernel_rfl) ?_
                  refine q_skip (by kernel_rfl) ?_
                  refine q_skip (by kernel_rfl) ?_
                  refine q_skip (by kernel_rfl) ?_
                  refine q_skip (by kernel_rfl) ?_
                  refine q_skip (by kernel_rfl) ?_
                  refine q_skip (by kernel_rfl) ?_
                  refine q_val (.bool false) (by kernel_rfl) (fun _ => by kernel_rfl) ?_
                  refine q_val (.bool false) (by kernel_rfl) (fun _ => by kernel_rfl) ?_
                  refine q_skip (by kernel_rfl) ?_
                  refine q_skip (by kernel_rfl) ?_
                  refine q_skip (by kernel_rfl) ?_
                  refine q_skip (by kernel_rfl) ?_
                  refine q_skip (by kernel_rfl) ?_
                  refine q_val (.bool false) (by kernel_rfl) (fun _ => by kernel_rfl) ?_
                  refine q_val (.bool false) (by kernel_rfl) (fun _ => by kernel_rfl) ?_
                  refine q_skip (by kernel_rfl) ?_
                  refine q_skip (by kernel_rfl) ?_
                  refine q_skip (by kernel_rfl) ?_
                  refine q_skip (by kernel_rfl) ?_
                  refine q_skip (by kernel_rfl) ?_
                  refine q_skip (by kernel_rfl) ?_
                  refine q_skip (by kernel_rfl) ?_
                  refine q_skip (by kernel_rfl) ?_
                  refine q_skip (by kernel_rfl) ?_
                  refine q_val (.bool false) (by kernel_rfl) (fun _ => by kernel_rfl) ?_
                  refine q_val (.bool false) (by kernel_rfl) (fun _ => by kernel_rfl) ?_
                  refine q_nil ?_
                  clear H
                  intro v30 H
                  refine x_frame' { tmps := #[.agg #[.int .i64 r, .int .i64 s, .int .i64 b, .int .i64 o, .int .i64 c, .int .i64 y, .int .i64 z], .agg #[.slice aL nl cL, .slice aD nd cD, .slice aS nq cS, .int .i64 ((pn : Nat) : Int), .int .i64 ((rn : Nat) : Int)], .pointer (some ⟨g1, 0, none⟩), .pointer (some ⟨g2, 0, none⟩), .bool false, .pointer (some ⟨p, 0, none⟩), .int .i64 0, .pointer (some ⟨g4, 0, none⟩), .bool false, .int .i64 (lastD lD k1), undef, (uf4 0), .int .i64 ((k2 : Nat) : Int), .int .i64 (lL.getD k2 0), undef, undef, undef, undef, undef, undef, .bool true, .bool false, .agg #[.int .i64 r, .int .i64 s, .int .i64 b, .int .i64 o, .int .i64 c, .int .i64 y, .int .i64 z], .bool true, .bool false, .bool false, .pointer (some ⟨g2, 0, none⟩), .slice aL nl cL, .int .i64 ((nl : Nat) : Int), .bool false, .bool false, .bool false, .pointer (some ⟨g2, 1, none⟩), .slice aD nd cD, .int .i64 ((nd : Nat) : Int), .bool false, .bool false, .bool false, .pointer (some ⟨g2, 2, none⟩), .slice aS nq cS, .int .i64 ((nq : Nat) : Int), .bool false, .bool false, .tuple #[.pointer (some ⟨p, 0, none⟩), .int .i64 0], .agg #[.int .i64 r, .int .i64 s, .int .i64 b, .int .i64 o, .int .i64 c, .int .i64 y, .int .i64 z], .agg #[.slice aL nl cL, .slice aD nd cD, .slice aS nq cS, .int .i64 ((pn : Nat) : Int), .int .i64 ((rn : Nat) : Int)], .tuple #[.pointer (some ⟨p, 0, none⟩), .int .i64 0], .pointer (some ⟨p, 0, none⟩), .int .i64 0, .agg #[.int .i64 r, .int .i64 s, .int .i64 b, .int .i64 o, .int .i64 c, .int .i64 y, .int .i64 z], .bool true, .bool false, undef, undef, undef, undef, undef, undef, .pointer (some ⟨g1, 0, none⟩), .agg #[.int .i64 r, .int .i64 s, .int .i64 b, .int .i64 o, .int .i64 c], .pointer (some ⟨g2, 0, none⟩), .slice aL nl cL, .int .i64 ((nl : Nat) : Int), .agg #[.int .i64 r, .int .i64 s, .int .i64 b, .int .i64 o, .int .i64 c, .int .i64 y, .int .i64 z], .int .i64 ((sn : Nat) : Int), .bool true, .bool true, .pointer (some ⟨g2, 2, none⟩), .slice aS nq cS, .int .i64 ((nq : Nat) : Int), .pointer (some ⟨g4, 0, none⟩), .int .i64 r, .bool true, .bool true, .bool true, .pointer (some ⟨g2, 3, none⟩), .int .i64 ((pn : Nat) : Int), .bool true, .bool true, .bool true, .pointer (some ⟨g2, 3, none⟩), .int .i64 ((pn : Nat) : Int), .pointer (some ⟨g1, 6, none⟩), .int .i64 z, .bool true, .bool true, .bool true, .pointer (some ⟨g2, 4, none⟩), .int .i64 ((rn : Nat) : Int), .bool true, .bool true, .bool true, .pointer (some ⟨g2, 4, none⟩), .int .i64 ((rn : Nat) : Int), .pointer (some ⟨g4, 1, none⟩), .int .i64 s, .bool true, .bool true, .pointer (some ⟨g2, 1, none⟩), .slice aD nd cD, .int .i64 ((nd : Nat) : Int), .int .i64 ((k1 : Nat) : Int), .bool false, (uf4 2), (uf4 3), (uf4 4), (uf4 5), (uf4 6), (uf4 7), (uf4 8), (uf4 9), (uf4 10), (uf4 11), (uf4 12), (uf4 13), (uf4 14), (uf4 15), (uf4 16), (uf4 17), .pointer (some ⟨g2, 0, none⟩), .slice aL nl cL, .int .i64 ((nl : Nat) : Int), .int .i64 ((k2 : Nat) : Int), .bool true, .int .i64 ((k2 : Nat) : Int), .pointer (some ⟨gL, oL + k2, none⟩), .int .i64 (lL.getD k2 0), .bool false, .bool false, undef, undef, .bool false, .bool false, undef, undef, undef, undef, undef, undef, undef, .bool false, .bool false, undef, undef, undef, undef, undef, .bool false, .bool false, undef, undef, undef, undef, undef, undef, undef, undef, undef, .bool false, (uf5 38), undef, undef, undef, undef, undef, undef, undef, undef, undef, undef, undef, undef, undef, undef, undef, undef, undef, undef, undef, undef, undef, undef, undef, undef, undef, undef, undef, undef, undef, undef, undef, undef, undef, undef, undef, undef, undef, undef, undef, undef, undef, undef, undef, undef, undef, undef, undef, undef, undef, undef, undef, undef, undef, undef, undef, undef, undef, undef, undef, undef, undef, undef, undef, undef], defers := [] } (by kernel_rfl) ?_
                  refine x_blk ?_
                  refine x_then ?_
                  refine x_region ?_
                  refine x_ar (((k2 : Nat) : Int) + 1) ⟨by omega, by omega⟩ (by kernel_rfl) rfl (by kernel_rfl) ?_
                  refine x_val (.int .i64 (((k2 : Nat) : Int) + 1)) (by kernel_rfl) rfl (by kernel_rfl) ?_
                  refine x_nil ?_
                  refine x_then ?_
                  exact ⟨(k2 + 1, false), (by dsimp only; omega), (nthV [.int .i64 ((k2 : Nat) : Int), .int .i64 (lL.getD k2 0), .bool true, .int .i64 ((k2 : Nat) : Int), .pointer (some ⟨gL, oL + k2, none⟩), .int .i64 (lL.getD k2 0), .bool false, .bool false, undef, undef, .bool false, .bool false, undef, undef, undef, undef, undef, undef, undef, .bool false, .bool false, undef, undef, undef, undef, undef, .bool false, .bool false, undef, undef, undef, undef, undef, undef, undef, undef, undef, .bool false, .int .i64 (((k2 : Nat) : Int) + 1)]), (by kernel_rfl), H, (by omega), (by rw [okL, ← Bool.and_assoc, ← r2, h28]; try rfl)⟩
                · skip
                  refine q_val (.int .i64 (lL.getD k2 0)) (by kernel_rfl) (fun _ => by kernel_rfl) ?_
                  refine q_val (.bool (decide (0 ≤ (lL.getD k2 0)))) (by kernel_rfl) (fun _ => by kernel_rfl) ?_
                  refine q_val (.bool (decide (0 ≤ (lL.getD k2 0)))) (by kernel_rfl) (fun _ => by kernel_rfl) ?_
                  refine q_val (.bool (decide (0 ≤ (lL.getD k2 0)))) (by kernel_rfl) (fun _ => by kernel_rfl) ?_
                  cases h29 : decide (0 ≤ (lL.getD k2 0))
                  · skip
                    have h29p := of_decide_eq_false h29
                    refine q_skip (by kernel_rfl) ?_
                    refine q_skip (by kernel_rfl) ?_
                    refine q_skip (by kernel_rfl) ?_
                    refine q_skip (by kernel_rfl) ?_
                    refine q_skip (by kernel_rfl) ?_
                    refine q_skip (by kernel_rfl) ?_
                    refine q_skip (by kernel_rfl) ?_
                    refine q_val (.bool false) (by kernel_rfl) (fun _ => by kernel_rfl) ?_
                    refine q_val (.bool false) (by kernel_rfl) (fun _ => by kernel_rfl) ?_
                    refine q_skip (by kernel_rfl) ?_
                    refine q_skip (by kernel_rfl) ?_
                    refine q_skip (by kernel_rfl) ?_
                    refine q_skip (by kernel_rfl) ?_
                    refine q_skip (by kernel_rfl) ?_
                    refine q_val (.bool false) (by kernel_rfl) (fun _ => by kernel_rfl) ?_
                    refine q_val (.bool false) (by kernel_rfl) (fun _ => by kernel_rfl) ?_
                    refine q_skip (by kernel_rfl) ?_
                    refine q_skip (by kernel_rfl) ?_
                    refine q_skip (by kernel_rfl) ?_
                    refine q_skip (by kernel_rfl) ?_
                    refine q_skip (by kernel_rfl) ?_
                    refine q_skip (by kernel_rfl) ?_
                    refine q_skip (by kernel_rfl) ?_
                    refine q_skip (by kernel_rfl) ?_
                    refine q_skip (by kernel_rfl) ?_
                    refine q_val (.bool false) (by kernel_rfl) (fun _ => by kernel_rfl) ?_
                    refine q_val (.bool false) (by kernel_rfl) (fun _ => by kernel_rfl) ?_
                    refine q_nil ?_
                    clear H
                    intro v31 H
                    refine x_frame' { tmps := #[.agg #[.int .i64 r, .int .i64 s, .int .i64 b, .int .i64 o, .int .i64 c, .int .i64 y, .int .i64 z], .agg #[.slice aL nl cL, .slice aD nd cD, .slice aS nq cS, .int .i64 ((pn : Nat) : Int), .int .i64 ((rn : Nat) : Int)], .pointer (some ⟨g1, 0, none⟩), .pointer (some ⟨g2, 0, none⟩), .bool false, .pointer (some ⟨p, 0, none⟩), .int .i64 0, .pointer (some ⟨g4, 0, none⟩), .bool false, .int .i64 (lastD lD k1), undef, (uf4 0), .int .i64 ((k2 : Nat) : Int), .int .i64 (lL.getD k2 0), undef, undef, undef, undef, undef, undef, .bool true, .bool false, .agg #[.int .i64 r, .int .i64 s, .int .i64 b, .int .i64 o, .int .i64 c, .int .i64 y, .int .i64 z], .bool true, .bool false, .bool false, .pointer (some ⟨g2, 0, none⟩), .slice aL nl cL, .int .i64 ((nl : Nat) : Int), .bool false, .bool false, .bool false, .pointer (some ⟨g2, 1, none⟩), .slice aD nd cD, .int .i64 ((nd : Nat) : Int), .bool false, .bool false, .bool false, .pointer (some ⟨g2, 2, none⟩), .slice aS nq cS, .int .i64 ((nq : Nat) : Int), .bool false, .bool false, .tuple #[.pointer (some ⟨p, 0, none⟩), .int .i64 0], .agg #[.int .i64 r, .int .i64 s, .int .i64 b, .int .i64 o, .int .i64 c, .int .i64 y, .int .i64 z], .agg #[.slice aL nl cL, .slice aD nd cD, .slice aS nq cS, .int .i64 ((pn : Nat) : Int), .int .i64 ((rn : Nat) : Int)], .tuple #[.pointer (some ⟨p, 0, none⟩), .int .i64 0], .pointer (some ⟨p, 0, none⟩), .int .i64 0, .agg #[.int .i64 r, .int .i64 s, .int .i64 b, .int .i64 o, .int .i64 c, .int .i64 y, .int .i64 z], .bool true, .bool false, undef, undef, undef, undef, undef, undef, .pointer (some ⟨g1, 0, none⟩), .agg #[.int .i64 r, .int .i64 s, .int .i64 b, .int .i64 o, .int .i64 c], .pointer (some ⟨g2, 0, none⟩), .slice aL nl cL, .int .i64 ((nl : Nat) : Int), .agg #[.int .i64 r, .int .i64 s, .int .i64 b, .int .i64 o, .int .i64 c, .int .i64 y, .int .i64 z], .int .i64 ((sn : Nat) : Int), .bool true, .bool true, .pointer (some ⟨g2, 2, none⟩), .slice aS nq cS, .int .i64 ((nq : Nat) : Int), .pointer (some ⟨g4, 0, none⟩), .int .i64 r, .bool true, .bool true, .bool true, .pointer (some ⟨g2, 3, none⟩), .int .i64 ((pn : Nat) : Int), .bool true, .bool true, .bool true, .pointer (some ⟨g2, 3, none⟩), .int .i64 ((pn : Nat) : Int), .pointer (some ⟨g1, 6, none⟩), .int .i64 z, .bool true, .bool true, .bool true, .pointer (some ⟨g2, 4, none⟩), .int .i64 ((rn : Nat) : Int), .bool true, .bool true, .bool true, .pointer (some ⟨g2, 4, none⟩), .int .i64 ((rn : Nat) : Int), .pointer (some ⟨g4, 1, none⟩), .int .i64 s, .bool true, .bool true, .pointer (some ⟨g2, 1, none⟩), .slice aD nd cD, .int .i64 ((nd : Nat) : Int), .int .i64 ((k1 : Nat) : Int), .bool false, (uf4 2), (uf4 3), (uf4 4), (uf4 5), (uf4 6), (uf4 7), (uf4 8), (uf4 9), (uf4 10), (uf4 11), (uf4 12), (uf4 13), (uf4 14), (uf4 15), (uf4 16), (uf4 17), .pointer (some ⟨g2, 0, none⟩), .slice aL nl cL, .int .i64 ((nl : Nat) : Int), .int .i64 ((k2 : Nat) : Int), .bool true, .int .i64 ((k2 : Nat) : Int), .pointer (some ⟨gL, oL + k2, none⟩), .int .i64 (lL.getD k2 0), .bool true, .bool true, .int .i64 (lL.getD k2 0), .bool false, .bool false, .bool false, undef, undef, undef, undef, undef, undef, undef, .bool false, .bool false, undef, undef, undef, undef, undef, .bool false, .bool false, undef, undef, undef, undef, undef, undef, undef, undef, undef, .bool false, (uf5 38), undef, undef, undef, undef, undef, undef, undef, undef, undef, undef, undef, undef, undef, undef, undef, undef, undef, undef, undef, undef, undef, undef, undef, undef, undef, undef, undef, undef, undef, undef, undef, undef, undef, undef, undef, undef, undef, undef, undef, undef, undef, undef, undef, undef, undef, undef, undef, undef, undef, undef, undef, undef, undef, undef, undef, undef, undef, undef, undef, undef, undef, undef, undef, undef], defers := [] } (by kernel_rfl) ?_
                    refine x_blk ?_
                    refine x_then ?_
                    refine x_region ?_
                    refine x_ar (((k2 : Nat) : Int) + 1) ⟨by omega, by omega⟩ (by kernel_rfl) rfl (by kernel_rfl) ?_
                    refine x_val (.int .i64 (((k2 : Nat) : Int) + 1)) (by kernel_rfl) rfl (by kernel_rfl) ?_
                    refine x_nil ?_
                    refine x_then ?_
                    exact ⟨(k2 + 1, false), (by dsimp only; omega), (nthV [.int .i64 ((k2 : Nat) : Int), .int .i64 (lL.getD k2 0), .bool true, .int .i64 ((k2 : Nat) : Int), .pointer (some ⟨gL, oL + k2, none⟩), .int .i64 (lL.getD k2 0), .bool true, .bool true, .int .i64 (lL.getD k2 0), .bool false, .bool false, .bool false, undef, undef, undef, undef, undef, undef, undef, .bool false, .bool false, undef, undef, undef, undef, undef, .bool false, .bool false, undef, undef, undef, undef, undef, undef, undef, undef, undef, .bool false, .int .i64 (((k2 : Nat) : Int) + 1)]), (by kernel_rfl), H, (by omega), (by rw [okL, ← Bool.and_assoc, ← r2, h28, h29]; try rfl)⟩
                  · skip
                    have h29p := of_decide_eq_true h29
                    refine q_val (.int .i64 (lL.getD k2 0)) (by kernel_rfl) (fun _ => by kernel_rfl) ?_
                    refine q_loadn (t := 69) 6 g1 0 #[.int .i64 r, .int .i64 s, .int .i64 b, .int .i64 o, .int .i64 c, .int .i64 y, .int .i64 z] 69 [.int .i64 r, .int .i64 s, .int .i64 b, .int .i64 o, .int .i64 c, .int .i64 y, .int .i64 z] (by kernel_rfl) (by kernel_rfl) (by kernel_rfl) (by kernel_rfl) (by kernel_rfl) ?_
                    refine q_callB (.int .i64 ((sn : Nat) : Int)) (by kernel_rfl) (fun _ => by kernel_rfl) (fun _ => (seen_of hL _)) ?_
                    refine q_val (.pointer (some ⟨g2, 3, none⟩)) (by kernel_rfl) (fun _ => by kernel_rfl) ?_
                    refine q_load1 5 g2 3 #[.slice aL nl cL, .slice aD nd cD, .slice aS nq cS, .int .i64 ((pn : Nat) : Int), .int .i64 ((rn : Nat) : Int)] 142 (.int .i64 ((pn : Nat) : Int)) (by kernel_rfl) (by kernel_rfl) (by kernel_rfl) (fun _ => by kernel_rfl) ?_
                    refine q_ar (((sn : Nat) : Int) + ((pn : Nat) : Int)) ⟨by omega, by omega⟩ (by kernel_rfl) (fun _ => by kernel_rfl) ?_
                    refine q_val (.bool (decide ((lL.getD k2 0) < (((sn : Nat) : Int) + ((pn : Nat) : Int))))) (by kernel_rfl) (fun _ => by kernel_rfl) ?_
                    refine q_val (.bool (decide ((lL.getD k2 0) < (((sn : Nat) : Int) + ((pn : Nat) : Int))))) (by kernel_rfl) (fun _ => by kernel_rfl) ?_
                    refine q_val (.bool (decide ((lL.getD k2 0) < (((sn : Nat) : Int) + ((pn : Nat) : Int))))) (by kernel_rfl) (fun _ => by kernel_rfl) ?_
                    cases h30 : decide ((lL.getD k2 0) < (((sn : Nat) : Int) + ((pn : Nat) : Int)))
                    · skip
                      have h30p := of_decide_eq_false h30
                      refine q_skip (by kernel_rfl) ?_
                      refine q_skip (by kernel_rfl) ?_
                      refine q_skip (by kernel_rfl) ?_
                      refine q_skip (by kernel_rfl) ?_
                      refine q_skip (by kernel_rfl) ?_
                      refine q_val (.bool false) (by kernel_rfl) (fun _ => by kernel_rfl) ?_
                      refine q_val (.bool false) (by kernel_rfl) (fun _ => by kernel_rfl) ?_
                      refine q_skip (by kernel_rfl) ?_
                      refine q_skip (by kernel_rfl) ?_
                      refine q_skip (by kernel_rfl) ?_
                      refine q_skip (by kernel_rfl) ?_
                      refine q_skip (by kernel_rfl) ?_
                      refine q_skip (by kernel_rfl) ?_
                      refine q_skip (by kernel_rfl) ?_
                      refine q_skip (by kernel_rfl) ?_
                      refine q_skip (by kernel_rfl) ?_
                      refine q_val (.bool false) (by kernel_rfl) (fun _ => by kernel_rfl) ?_
                      refine q_val (.bool false) (by kernel_rfl) (fun _ => by kernel_rfl) ?_
                      refine q_nil ?_
                      clear H
                      intro v32 H
                      refine x_frame' { tmps := #[.agg #[.int .i64 r, .int .i64 s, .int .i64 b, .int .i64 o, .int .i64 c, .int .i64 y, .int .i64 z], .agg #[.slice aL nl cL, .slice aD nd cD, .slice aS nq cS, .int .i64 ((pn : Nat) : Int), .int .i64 ((rn : Nat) : Int)], .pointer (some ⟨g1, 0, none⟩), .pointer (some ⟨g2, 0, none⟩), .bool false, .pointer (some ⟨p, 0, none⟩), .int .i64 0, .pointer (some ⟨g4, 0, none⟩), .bool false, .int .i64 (lastD lD k1), undef, (uf4 0), .int .i64 ((k2 : Nat) : Int), .int .i64 (lL.getD k2 0), undef, undef, undef, undef, undef, undef, .bool true, .bool false, .agg #[.int .i64 r, .int .i64 s, .int .i64 b, .int .i64 o, .int .i64 c, .int .i64 y, .int .i64 z], .bool true, .bool false, .bool false, .pointer (some ⟨g2, 0, none⟩), .slice aL nl cL, .int .i64 ((nl : Nat) : Int), .bool false, .bool false, .bool false, .pointer (some ⟨g2, 1, none⟩), .slice aD nd cD, .int .i64 ((nd : Nat) : Int), .bool false, .bool false, .bool false, .pointer (some ⟨g2, 2, none⟩), .slice aS nq cS, .int .i64 ((nq : Nat) : Int), .bool false, .bool false, .tuple #[.pointer (some ⟨p, 0, none⟩), .int .i64 0], .agg #[.int .i64 r, .int .i64 s, .int .i64 b, .int .i64 o, .int .i64 c, .int .i64 y, .int .i64 z], .agg #[.slice aL nl cL, .slice aD nd cD, .slice aS nq cS, .int .i64 ((pn : Nat) : Int), .int .i64 ((rn : Nat) : Int)], .tuple #[.pointer (some ⟨p, 0, none⟩), .int .i64 0], .pointer (some ⟨p, 0, none⟩), .int .i64 0, .agg #[.int .i64 r, .int .i64 s, .int .i64 b, .int .i64 o, .int .i64 c, .int .i64 y, .int .i64 z], .bool true, .bool false, undef, undef, undef, undef, undef, undef, .pointer (some ⟨g1, 0, none⟩), .agg #[.int .i64 r, .int .i64 s, .int .i64 b, .int .i64 o, .int .i64 c], .pointer (some ⟨g2, 0, none⟩), .slice aL nl cL, .int .i64 ((nl : Nat) : Int), .agg #[.int .i64 r, .int .i64 s, .int .i64 b, .int .i64 o, .int .i64 c, .int .i64 y, .int .i64 z], .int .i64 ((sn : Nat) : Int), .bool true, .bool true, .pointer (some ⟨g2, 2, none⟩), .slice aS nq cS, .int .i64 ((nq : Nat) : Int), .pointer (some ⟨g4, 0, none⟩), .int .i64 r, .bool true, .bool true, .bool true, .pointer (some ⟨g2, 3, none⟩), .int .i64 ((pn : Nat) : Int), .bool true, .bool true, .bool true, .pointer (some ⟨g2, 3, none⟩), .int .i64 ((pn : Nat) : Int), .pointer (some ⟨g1, 6, none⟩), .int .i64 z, .bool true, .bool true, .bool true, .pointer (some ⟨g2, 4, none⟩), .int .i64 ((rn : Nat) : Int), .bool true, .bool true, .bool true, .pointer (some ⟨g2, 4, none⟩), .int .i64 ((rn : Nat) : Int), .pointer (some ⟨g4, 1, none⟩), .int .i64 s, .bool true, .bool true, .pointer (some ⟨g2, 1, none⟩), .slice aD nd cD, .int .i64 ((nd : Nat) : Int), .int .i64 ((k1 : Nat) : Int), .bool false, (uf4 2), (uf4 3), (uf4 4), (uf4 5), (uf4 6), (uf4 7), (uf4 8), (uf4 9), (uf4 10), (uf4 11), (uf4 12), (uf4 13), (uf4 14), (uf4 15), (uf4 16), (uf4 17), .pointer (some ⟨g2, 0, none⟩), .slice aL nl cL, .int .i64 ((nl : Nat) : Int), .int .i64 ((k2 : Nat) : Int), .bool true, .int .i64 ((k2 : Nat) : Int), .pointer (some ⟨gL, oL + k2, none⟩), .int .i64 (lL.getD k2 0), .bool true, .bool true, .int .i64 (lL.getD k2 0), .bool true, .bool true, .bool true, .int .i64 (lL.getD k2 0), .agg #[.int .i64 r, .int .i64 s, .int .i64 b, .int .i64 o, .int .i64 c, .int .i64 y, .int .i64 z], .int .i64 ((sn : Nat) : Int), .pointer (some ⟨g2, 3, none⟩), .int .i64 ((pn : Nat) : Int), .int .i64 (((sn : Nat) : Int) + ((pn : Nat) : Int)), .bool false, .bool false, .bool false, undef, undef, undef, undef, undef, .bool false, .bool false, undef, undef, undef, undef, undef, undef, undef, undef, undef, .bool false, (uf5 38), undef, undef, undef, undef, undef, undef, undef, undef, undef, undef, undef, undef, undef, undef, undef, undef, undef, undef, undef, undef, undef, undef, undef, undef, undef, undef, undef, undef, undef, undef, undef, undef, undef, undef, undef, undef, undef, undef, undef, undef, undef, undef, undef, undef, undef, undef, undef, undef, undef, undef, undef, undef, undef, undef, undef, undef, undef, undef, undef, undef, undef, undef, undef, undef], defers := [] } (by kernel_rfl) ?_
                      refine x_blk ?_
                      refine x_then ?_
                      refine x_region ?_
                      refine x_ar (((k2 : Nat) : Int) + 1) ⟨by omega, by omega⟩ (by kernel_rfl) rfl (by kernel_rfl) ?_
                      refine x_val (.int .i64 (((k2 : Nat) : Int) + 1)) (by kernel_rfl) rfl (by kernel_rfl) ?_
                      refine x_nil ?_
                      refine x_then ?_
                      exact ⟨(k2 + 1, false), (by dsimp only; omega), (nthV [.int .i64 ((k2 : Nat) : Int), .int .i64 (lL.getD k2 0), .bool true, .int .i64 ((k2 : Nat) : Int), .pointer (some ⟨gL, oL + k2, none⟩), .int .i64 (lL.getD k2 0), .bool true, .bool true, .int .i64 (lL.getD k2 0), .bool true, .bool true, .bool true, .int .i64 (lL.getD k2 0), .agg #[.int .i64 r, .int .i64 s, .int .i64 b, .int .i64 o, .int .i64 c, .int .i64 y, .int .i64 z], .int .i64 ((sn : Nat) : Int), .pointer (some ⟨g2, 3, none⟩), .int .i64 ((pn : Nat) : Int), .int .i64 (((sn : Nat) : Int) + ((pn : Nat) : Int)), .bool false, .bool false, .bool false, undef, undef, undef, undef, undef, .bool false, .bool false, undef, undef, undef, undef, undef, undef, undef, undef, undef, .bool false, .int .i64 (((k2 : Nat) : Int) + 1)]), (by kernel_rfl), H, (by omega), (by rw [okL, ← Bool.and_assoc, ← r2, h28, h29, h30]; try rfl)⟩
                    · skip
                      have h30p := of_decide_eq_true h30
                      refine q_val (.pointer (some ⟨g2, 1, none⟩)) (by kernel_rfl) (fun _ => by kernel_rfl) ?_
                      refine q_load1 5 g2 1 #[.slice aL nl cL, .slice aD nd cD, .slice aS nq cS, .int .i64 ((pn : Nat) : Int), .int .i64 ((rn : Nat) : Int)] 142 (.slice aD nd cD) (by kernel_rfl) (by kernel_rfl) (by kernel_rfl) (fun _ => by kernel_rfl) ?_
                      refine q_val (.int .i64 (lL.getD k2 0)) (by kernel_rfl) (fun _ => by kernel_rfl) ?_
                      refine q_callR (.bool (hasK lD nd (lL.getD k2 0))) (by kernel_rfl) (fun _ => by kernel_rfl) (fun _ H => (has_at aD nd cD lD (lL.getD k2 0) (by omega) _ (hID.at H.below))) ?_
                      refine q_val (.bool (!(hasK lD nd (lL.getD k2 0)))) (by kernel_rfl) (fun _ => by kernel_rfl) ?_
                      refine q_val (.bool (!(hasK lD nd (lL.getD k2 0)))) (by kernel_rfl) (fun _ => by kernel_rfl) ?_
                      refine q_val (.bool (!(hasK lD nd (lL.getD k2 0)))) (by kernel_rfl) (fun _ => by kernel_rfl) ?_
                      cases h31 : hasK lD nd (lL.getD k2 0)
                      · skip
                        refine q_val (.int .i64 (lL.getD k2 0)) (by kernel_rfl) (fun _ => by kernel_rfl) ?_
                        refine q_val (.int .i64 ((k2 : Nat) : Int)) (by kernel_rfl) (fun _ => by kernel_rfl) ?_
                        refine q_val (.bool (decide ((lL.getD k2 0) = ((k2 : Nat) : Int)))) (by kernel_rfl) (fun _ => by kernel_rfl) ?_
                        refine q_val (.bool (decide ((lL.getD k2 0) = ((k2 : Nat) : Int)))) (by kernel_rfl) (fun _ => by kernel_rfl) ?_
                        cases h32 : decide ((lL.getD k2 0) = ((k2 : Nat) : Int))
                        · skip
                          have h32p := of_decide_eq_false h32
                          refine q_val (.pointer (some ⟨g2, 1, none⟩)) (by kernel_rfl) (fun _ => by kernel_rfl) ?_
                          refine q_load1 5 g2 1 #[.slice aL nl cL, .slice aD nd cD, .slice aS nq cS, .int .i64 ((pn : Nat) : Int), .int .i64 ((rn : Nat) : Int)] 142 (.slice aD nd cD) (by kernel_rfl) (by kernel_rfl) (by kernel_rfl) (fun _ => by kernel_rfl) ?_
                          refine q_val (.int .i64 ((k2 : Nat) : Int)) (by kernel_rfl) (fun _ => by kernel_rfl) ?_
                          refine q_callR (.bool (hasK lD nd ((k2 : Nat) : Int))) (by kernel_rfl) (fun _ => by kernel_rfl) (fun _ H => (has_at aD nd cD lD ((k2 : Nat) : Int) (by omega) _ (hID.at H.below))) ?_
                          refine q_val (.bool (hasK lD nd ((k2 : Nat) : Int))) (by kernel_rfl) (fun _ => by kernel_rfl) ?_
                          refine q_val (.bool (hasK lD nd ((k2 : Nat) : Int))) (by kernel_rfl) (fun _ => by kernel_rfl) ?_
                          refine q_val (.bool (hasK lD nd ((k2 : Nat) : Int))) (by kernel_rfl) (fun _ => by kernel_rfl) ?_
                          refine q_nil ?_
                          clear H
                          intro v33 H
                          refine x_frame' { tmps := #[.agg #[.int .i64 r, .int .i64 s, .int .i64 b, .int .i64 o, .int .i64 c, .int .i64 y, .int .i64 z], .agg #[.slice aL nl cL, .slice aD nd cD, .slice aS nq cS, .int .i64 ((pn : Nat) : Int), .int .i64 ((rn : Nat) : Int)], .pointer (some ⟨g1, 0, none⟩), .pointer (some ⟨g2, 0, none⟩), .bool false, .pointer (some ⟨p, 0, none⟩), .int .i64 0, .pointer (some ⟨g4, 0, none⟩), .bool (hasK lD nd ((k2 : Nat) : Int)), .int .i64 (lastD lD k1), undef, (uf4 0), .int .i64 ((k2 : Nat) : Int), .int .i64 (lL.getD k2 0), undef, undef, undef, undef, undef, undef, .bool true, .bool false, .agg #[.int .i64 r, .int .i64 s, .int .i64 b, .int .i64 o, .int .i64 c, .int .i64 y, .int .i64 z], .bool true, .bool false, .bool false, .pointer (some ⟨g2, 0, none⟩), .slice aL nl cL, .int .i64 ((nl : Nat) : Int), .bool false, .bool false, .bool false, .pointer (some ⟨g2, 1, none⟩), .slice aD nd cD, .int .i64 ((nd : Nat) : Int), .bool false, .bool false, .bool false, .pointer (some ⟨g2, 2, none⟩), .slice aS nq cS, .int .i64 ((nq : Nat) : Int), .bool false, .bool false, .tuple #[.pointer (some ⟨p, 0, none⟩), .int .i64 0], .agg #[.int .i64 r, .int .i64 s, .int .i64 b, .int .i64 o, .int .i64 c, .int .i64 y, .int .i64 z], .agg #[.slice aL nl cL, .slice aD nd cD, .slice aS nq cS, .int .i64 ((pn : Nat) : Int), .int .i64 ((rn : Nat) : Int)], .tuple #[.pointer (some ⟨p, 0, none⟩), .int .i64 0], .pointer (some ⟨p, 0, none⟩), .int .i64 0, .agg #[.int .i64 r, .int .i64 s, .int .i64 b, .int .i64 o, .int .i64 c, .int .i64 y, .int .i64 z], .bool true, .bool false, undef, undef, undef, undef, undef, undef, .pointer (some ⟨g1, 0, none⟩), .agg #[.int .i64 r, .int .i64 s, .int .i64 b, .int .i64 o, .int .i64 c], .pointer (some ⟨g2, 0, none⟩), .slice aL nl cL, .int .i64 ((nl : Nat) : Int), .agg #[.int .i64 r, .int .i64 s, .int .i64 b, .int .i64 o, .int .i64 c, .int .i64 y, .int .i64 z], .int .i64 ((sn : Nat) : Int), .bool true, .bool true, .pointer (some ⟨g2, 2, none⟩), .slice aS nq cS, .int .i64 ((nq : Nat) : Int), .pointer (some ⟨g4, 0, none⟩), .int .i64 r, .bool true, .bool true, .bool true, .pointer (some ⟨g2, 3, none⟩), .int .i64 ((pn : Nat) : Int), .bool true, .bool true, .bool true, .pointer (some ⟨g2, 3, none⟩), .int .i64 ((pn : Nat) : Int), .pointer (some ⟨g1, 6, none⟩), .int .i64 z, .bool true, .bool true, .bool true, .pointer (some ⟨g2, 4, none⟩), .int .i64 ((rn : Nat) : Int), .bool true, .bool true, .bool true, .pointer (some ⟨g2, 4, none⟩), .int .i64 ((rn : Nat) : Int), .pointer (some ⟨g4, 1, none⟩), .int .i64 s, .bool true, .bool true, .pointer (some ⟨g2, 1, none⟩), .slice aD nd cD, .int .i64 ((nd : Nat) : Int), .int .i64 ((k1 : Nat) : Int), .bool false, (uf4 2), (uf4 3), (uf4 4), (uf4 5), (uf4 6), (uf4 7), (uf4 8), (uf4 9), (uf4 10), (uf4 11), (uf4 12), (uf4 13), (uf4 14), (uf4 15), (uf4 16), (uf4 17), .pointer (some ⟨g2, 0, none⟩), .slice aL nl cL, .int .i64 ((nl : Nat) : Int), .int .i64 ((k2 : Nat) : Int), .bool true, .int .i64 ((k2 : Nat) : Int), .pointer (some ⟨gL, oL + k2, none⟩), .int .i64 (lL.getD k2 0), .bool true, .bool true, .int .i64 (lL.getD k2 0), .bool true, .bool true, .bool true, .int .i64 (lL.getD k2 0), .agg #[.int .i64 r, .int .i64 s, .int .i64 b, .int .i64 o, .int .i64 c, .int .i64 y, .int .i64 z], .int .i64 ((sn : Nat) : Int), .pointer (some ⟨g2, 3, none⟩), .int .i64 ((pn : Nat) : Int), .int .i64 (((sn : Nat) : Int) + ((pn : Nat) : Int)), .bool true, .bool true, .bool true, .pointer (some ⟨g2, 1, none⟩), .slice aD nd cD, .int .i64 (lL.getD k2 0), .bool false, .bool true, .bool true, .bool true, .int .i64 (lL.getD k2 0), .int .i64 ((k2 : Nat) : Int), .bool false, .bool false, .pointer (some ⟨g2, 1, none⟩), .slice aD nd cD, .int .i64 ((k2 : Nat) : Int), .bool (hasK lD nd ((k2 : Nat) : Int)), .bool (hasK lD nd ((k2 : Nat) : Int)), .bool (hasK lD nd ((k2 : Nat) : Int)), (uf5 38), undef, undef, undef, undef, undef, undef, undef, undef, undef, undef, undef, undef, undef, undef, undef, undef, undef, undef, undef, undef, undef, undef, undef, undef, undef, undef, undef, undef, undef, undef, undef, undef, undef, undef, undef, undef, undef, undef, undef, undef, undef, undef, undef, undef, undef, undef, undef, undef, undef, undef, undef, undef, undef, undef, undef, undef, undef, undef, undef, undef, undef, undef, undef, undef], defers := [] } (by kernel_rfl) ?_
                          refine x_blk ?_
                          refine x_then ?_
                          refine x_region ?_
                          refine x_ar (((k2 : Nat) : Int) + 1) ⟨by omega, by omega⟩ (by kernel_rfl) rfl (by kernel_rfl) ?_
                          refine x_val (.int .i64 (((k2 : Nat) : Int) + 1)) (by kernel_rfl) rfl (by kernel_rfl) ?_
                          refine x_nil ?_
                          refine x_then ?_
                          exact ⟨(k2 + 1, (hasK lD nd ((k2 : Nat) : Int))), (by dsimp only; omega), (nthV [.int .i64 ((k2 : Nat) : Int), .int .i64 (lL.getD k2 0), .bool true, .int .i64 ((k2 : Nat) : Int), .pointer (some ⟨gL, oL + k2, none⟩), .int .i64 (lL.getD k2 0), .bool true, .bool true, .int .i64 (lL.getD k2 0), .bool true, .bool true, .bool true, .int .i64 (lL.getD k2 0), .agg #[.int .i64 r, .int .i64 s, .int .i64 b, .int .i64 o, .int .i64 c, .int .i64 y, .int .i64 z], .int .i64 ((sn : Nat) : Int), .pointer (some ⟨g2, 3, none⟩), .int .i64 ((pn : Nat) : Int), .int .i64 (((sn : Nat) : Int) + ((pn : Nat) : Int)), .bool true, .bool true, .bool true, .pointer (some ⟨g2, 1, none⟩), .slice aD nd cD, .int .i64 (lL.getD k2 0), .bool false, .bool true, .bool true, .bool true, .int .i64 (lL.getD k2 0), .int .i64 ((k2 : Nat) : Int), .bool false, .bool false, .pointer (some ⟨g2, 1, none⟩), .slice aD nd cD, .int .i64 ((k2 : Nat) : Int), .bool (hasK lD nd ((k2 : Nat) : Int)), .bool (hasK lD nd ((k2 : Nat) : Int)), .bool (hasK lD nd ((k2 : Nat) : Int)), .int .i64 (((k2 : Nat) : Int) + 1)]), (by kernel_rfl), H, (by omega), (by rw [okL, ← Bool.and_assoc, ← r2, h28, h29, h30, h31, h32]; try rfl)⟩
                        · skip
                          have h32p := of_decide_eq_true h32
                          refine q_skip (by kernel_rfl) ?_
                          refine q_skip (by kernel_rfl) ?_
                          refine q_skip (by kernel_rfl) ?_
                          refine q_skip (by kernel_rfl) ?_
                          refine q_val (.bool true) (by kernel_rfl) (fun _ => by kernel_rfl) ?_
                          refine q_val (.bool true) (by kernel_rfl) (fun _ => by kernel_rfl) ?_
                          refine q_val (.bool true) (by kernel_rfl) (fun _ => by kernel_rfl) ?_
                          refine q_nil ?_
                          clear H
                          intro v34 H
                          refine x_frame' { tmps := #[.agg #[.int .i64 r, .int .i64 s, .int .i64 b, .int .i64 o, .int .i64 c, .int .i64 y, .int .i64 z], .agg #[.slice aL nl cL, .slice aD nd cD, .slice aS nq cS, .int .i64 ((pn : Nat) : Int), .int .i64 ((rn : Nat) : Int)], .pointer (some ⟨g1, 0, none⟩), .pointer (some ⟨g2, 0, none⟩), .bool false, .pointer (some ⟨p, 0, none⟩), .int .i64 0, .pointer (some ⟨g4, 0, none⟩), .bool true, .int .i64 (lastD lD k1), undef, (uf4 0), .int .i64 ((k2 : Nat) : Int), .int .i64 (lL.getD k2 0), undef, undef, undef, undef, undef, undef, .bool true, .bool false, .agg #[.int .i64 r, .int .i64 s, .int .i64 b, .int .i64 o, .int .i64 c, .int .i64 y, .int .i64 z], .bool true, .bool false, .bool false, .pointer (some ⟨g2, 0, none⟩), .slice aL nl cL, .int .i64 ((nl : Nat) : Int), .bool false, .bool false, .bool false, .pointer (some ⟨g2, 1, none⟩), .slice aD nd cD, .int .i64 ((nd : Nat) : Int), .bool false, .bool false, .bool false, .pointer (some ⟨g2, 2, none⟩), .slice aS nq cS, .int .i64 ((nq : Nat) : Int), .bool false, .bool false, .tuple #[.pointer (some ⟨p, 0, none⟩), .int .i64 0], .agg #[.int .i64 r, .int .i64 s, .int .i64 b, .int .i64 o, .int .i64 c, .int .i64 y, .int .i64 z], .agg #[.slice aL nl cL, .slice aD nd cD, .slice aS nq cS, .int .i64 ((pn : Nat) : Int), .int .i64 ((rn : Nat) : Int)], .tuple #[.pointer (some ⟨p, 0, none⟩), .int .i64 0], .pointer (some ⟨p, 0, none⟩), .int .i64 0, .agg #[.int .i64 r, .int .i64 s, .int .i64 b, .int .i64 o, .int .i64 c, .int .i64 y, .int .i64 z], .bool true, .bool false, undef, undef, undef, undef, undef, undef, .pointer (some ⟨g1, 0, none⟩), .agg #[.int .i64 r, .int .i64 s, .int .i64 b, .int .i64 o, .int .i64 c], .pointer (some ⟨g2, 0, none⟩), .slice aL nl cL, .int .i64 ((nl : Nat) : Int), .agg #[.int .i64 r, .int .i64 s, .int .i64 b, .int .i64 o, .int .i64 c, .int .i64 y, .int .i64 z], .int .i64 ((sn : Nat) : Int), .bool true, .bool true, .pointer (some ⟨g2, 2, none⟩), .slice aS nq cS, .int .i64 ((nq : Nat) : Int), .pointer (some ⟨g4, 0, none⟩), .int .i64 r, .bool true, .bool true, .bool true, .pointer (some ⟨g2, 3, none⟩), .int .i64 ((pn : Nat) : Int), .bool true, .bool true, .bool true, .pointer (some ⟨g2, 3, none⟩), .int .i64 ((pn : Nat) : Int), .pointer (some ⟨g1, 6, none⟩), .int .i64 z, .bool true, .bool true, .bool true, .pointer (some ⟨g2, 4, none⟩), .int .i64 ((rn : Nat) : Int), .bool true, .bool true, .bool true, .pointer (some ⟨g2, 4, none⟩), .int .i64 ((rn : Nat) : Int), .pointer (some ⟨g4, 1, none⟩), .int .i64 s, .bool true, .bool true, .pointer (some ⟨g2, 1, none⟩), .slice aD nd cD, .int .i64 ((nd : Nat) : Int), .int .i64 ((k1 : Nat) : Int), .bool false, (uf4 2), (uf4 3), (uf4 4), (uf4 5), (uf4 6), (uf4 7), (uf4 8), (uf4 9), (uf4 10), (uf4 11), (uf4 12), (uf4 13), (uf4 14), (uf4 15), (uf4 16), (uf4 17), .pointer (some ⟨g2, 0, none⟩), .slice aL nl cL, .int .i64 ((nl : Nat) : Int), .int .i64 ((k2 : Nat) : Int), .bool true, .int .i64 ((k2 : Nat) : Int), .pointer (some ⟨gL, oL + k2, none⟩), .int .i64 (lL.getD k2 0), .bool true, .bool true, .int .i64 (lL.getD k2 0), .bool true, .bool true, .bool true, .int .i64 (lL.getD k2 0), .agg #[.int .i64 r, .int .i64 s, .int .i64 b, .int .i64 o, .int .i64 c, .int .i64 y, .int .i64 z], .int .i64 ((sn : Nat) : Int), .pointer (some ⟨g2, 3, none⟩), .int .i64 ((pn : Nat) : Int), .int .i64 (((sn : Nat) : Int) + ((pn : Nat) : Int)), .bool true, .bool true, .bool true, .pointer (some ⟨g2, 1, none⟩), .slice aD nd cD, .int .i64 (lL.getD k2 0), .bool false, .bool true, .bool true, .bool true, .int .i64 (lL.getD k2 0), .int .i64 ((k2 : Nat) : Int), .bool true, .bool true, undef, undef, undef, undef, .bool true, .bool true, (uf5 38), undef, undef, undef, undef, undef, undef, undef, undef, undef, undef, undef, undef, undef, undef, undef, undef, undef, undef, undef, undef, undef, undef, undef, undef, undef, undef, undef, undef, undef, undef, undef, undef, undef, undef, undef, undef, undef, undef, undef, undef, undef, undef, undef, undef, undef, undef, undef, undef, undef, undef, undef, undef, undef, undef, undef, undef, undef, undef, undef, undef, undef, undef, undef, undef], defers := [] } (by kernel_rfl) ?_
                          refine x_blk ?_
                          refine x_then ?_
                          refine x_region ?_
                          refine x_ar (((k2 : Nat) : Int) + 1) ⟨by omega, by omega⟩ (by kernel_rfl) rfl (by kernel_rfl) ?_
                          refine x_val (.int .i64 (((k2 : Nat) : Int) + 1)) (by kernel_rfl) rfl (by kernel_rfl) ?_
                          refine x_nil ?_
                          refine x_then ?_
                          exact ⟨(k2 + 1, true), (by dsimp only; omega), (nthV [.int .i64 ((k2 : Nat) : Int), .int .i64 (lL.getD k2 0), .bool true, .int .i64 ((k2 : Nat) : Int), .pointer (some ⟨gL, oL + k2, none⟩), .int .i64 (lL.getD k2 0), .bool true, .bool true, .int .i64 (lL.getD k2 0), .bool true, .bool true, .bool true, .int .i64 (lL.getD k2 0), .agg #[.int .i64 r, .int .i64 s, .int .i64 b, .int .i64 o, .int .i64 c, .int .i64 y, .int .i64 z], .int .i64 ((sn : Nat) : Int), .pointer (some ⟨g2, 3, none⟩), .int .i64 ((pn : Nat) : Int), .int .i64 (((sn : Nat) : Int) + ((pn : Nat) : Int)), .bool true, .bool true, .bool true, .pointer (some ⟨g2, 1, none⟩), .slice aD nd cD, .int .i64 (lL.getD k2 0), .bool false, .bool true, .bool true, .bool true, .int .i64 (lL.getD k2 0), .int .i64 ((k2 : Nat) : Int), .bool true, .bool true, undef, undef, undef, undef, .bool true, .bool true, .int .i64 (((k2 : Nat) : Int) + 1)]), (by kernel_rfl), H, (by omega), (by rw [okL, ← Bool.and_assoc, ← r2, h28, h29, h30, h31, h32]; try rfl)⟩
                      · skip
                        refine q_skip (by kernel_rfl) ?_
                        refine q_skip (by kernel_rfl) ?_
                        refine q_skip (by kernel_rfl) ?_
                        refine q_skip (by kernel_rfl) ?_
                        refine q_skip (by kernel_rfl) ?_
                        refine q_skip (by kernel_rfl) ?_
                        refine q_skip (by kernel_rfl) ?_
                        refine q_skip (by kernel_rfl) ?_
                        refine q_skip (by kernel_rfl) ?_
                        refine q_val (.bool false) (by kernel_rfl) (fun _ => by kernel_rfl) ?_
                        refine q_val (.bool false) (by kernel_rfl) (fun _ => by kernel_rfl) ?_
                        refine q_nil ?_
                        clear H
                        intro v35 H
                        refine x_frame' { tmps := #[.agg #[.int .i64 r, .int .i64 s, .int .i64 b, .int .i64 o, .int .i64 c, .int .i64 y, .int .i64 z], .agg #[.slice aL nl cL, .slice aD nd cD, .slice aS nq cS, .int .i64 ((pn : Nat) : Int), .int .i64 ((rn : Nat) : Int)], .pointer (some ⟨g1, 0, none⟩), .pointer (some ⟨g2, 0, none⟩), .bool false, .pointer (some ⟨p, 0, none⟩), .int .i64 0, .pointer (some ⟨g4, 0, none⟩), .bool false, .int .i64 (lastD lD k1), undef, (uf4 0), .int .i64 ((k2 : Nat) : Int), .int .i64 (lL.getD k2 0), undef, undef, undef, undef, undef, undef, .bool true, .bool false, .agg #[.int .i64 r, .int .i64 s, .int .i64 b, .int .i64 o, .int .i64 c, .int .i64 y, .int .i64 z], .bool true, .bool false, .bool false, .pointer (some ⟨g2, 0, none⟩), .slice aL nl cL, .int .i64 ((nl : Nat) : Int), .bool false, .bool false, .bool false, .pointer (some ⟨g2, 1, none⟩), .slice aD nd cD, .int .i64 ((nd : Nat) : Int), .bool false, .bool false, .bool false, .pointer (some ⟨g2, 2, none⟩), .slice aS nq cS, .int .i64 ((nq : Nat) : Int), .bool false, .bool false, .tuple #[.pointer (some ⟨p, 0, none⟩), .int .i64 0], .agg #[.int .i64 r, .int .i64 s, .int .i64 b, .int .i64 o, .int .i64 c, .int .i64 y, .int .i64 z], .agg #[.slice aL nl cL, .slice aD nd cD, .slice aS nq cS, .int .i64 ((pn : Nat) : Int), .int .i64 ((rn : Nat) : Int)], .tuple #[.pointer (some ⟨p, 0, none⟩), .int .i64 0], .pointer (some ⟨p, 0, none⟩), .int .i64 0, .agg #[.int .i64 r, .int .i64 s, .int .i64 b, .int .i64 o, .int .i64 c, .int .i64 y, .int .i64 z], .bool true, .bool false, undef, undef, undef, undef, undef, undef, .pointer (some ⟨g1, 0, none⟩), .agg #[.int .i64 r, .int .i64 s, .int .i64 b, .int .i64 o, .int .i64 c], .pointer (some ⟨g2, 0, none⟩), .slice aL nl cL, .int .i64 ((nl : Nat) : Int), .agg #[.int .i64 r, .int .i64 s, .int .i64 b, .int .i64 o, .int .i64 c, .int .i64 y, .int .i64 z], .int .i64 ((sn : Nat) : Int), .bool true, .bool true, .pointer (some ⟨g2, 2, none⟩), .slice aS nq cS, .int .i64 ((nq : Nat) : Int), .pointer (some ⟨g4, 0, none⟩), .int .i64 r, .bool true, .bool true, .bool true, .pointer (some ⟨g2, 3, none⟩), .int .i64 ((pn : Nat) : Int), .bool true, .bool true, .bool true, .pointer (some ⟨g2, 3, none⟩), .int .i64 ((pn : Nat) : Int), .pointer (some ⟨g1, 6, none⟩), .int .i64 z, .bool true, .bool true, .bool true, .pointer (some ⟨g2, 4, none⟩), .int .i64 ((rn : Nat) : Int), .bool true, .bool true, .bool true, .pointer (some ⟨g2, 4, none⟩), .int .i64 ((rn : Nat) : Int), .pointer (some ⟨g4, 1, none⟩), .int .i64 s, .bool true, .bool true, .pointer (some ⟨g2, 1, none⟩), .slice aD nd cD, .int .i64 ((nd : Nat) : Int), .int .i64 ((k1 : Nat) : Int), .bool false, (uf4 2), (uf4 3), (uf4 4), (uf4 5), (uf4 6), (uf4 7), (uf4 8), (uf4 9), (uf4 10), (uf4 11), (uf4 12), (uf4 13), (uf4 14), (uf4 15), (uf4 16), (uf4 17), .pointer (some ⟨g2, 0, none⟩), .slice aL nl cL, .int .i64 ((nl : Nat) : Int), .int .i64 ((k2 : Nat) : Int), .bool true, .int .i64 ((k2 : Nat) : Int), .pointer (some ⟨gL, oL + k2, none⟩), .int .i64 (lL.getD k2 0), .bool true, .bool true, .int .i64 (lL.getD k2 0), .bool true, .bool true, .bool true, .int .i64 (lL.getD k2 0), .agg #[.int .i64 r, .int .i64 s, .int .i64 b, .int .i64 o, .int .i64 c, .int .i64 y, .int .i64 z], .int .i64 ((sn : Nat) : Int), .pointer (some ⟨g2, 3, none⟩), .int .i64 ((pn : Nat) : Int), .int .i64 (((sn : Nat) : Int) + ((pn : Nat) : Int)), .bool true, .bool true, .bool true, .pointer (some ⟨g2, 1, none⟩), .slice aD nd cD, .int .i64 (lL.getD k2 0), .bool true, .bool false, .bool false, .bool false, undef, undef, undef, undef, undef, undef, undef, undef, undef, .bool false, (uf5 38), undef, undef, undef, undef, undef, undef, undef, undef, undef, undef, undef, undef, undef, undef, undef, undef, undef, undef, undef, undef, undef, undef, undef, undef, undef, undef, undef, undef, undef, undef, undef, undef, undef, undef, undef, undef, undef, undef, undef, undef, undef, undef, undef, undef, undef, undef, undef, undef, undef, undef, undef, undef, undef, undef, undef, undef, undef, undef, undef, undef, undef, undef, undef, undef], defers := [] } (by kernel_rfl) ?_
                        refine x_blk ?_
                        refine x_then ?_
                        refine x_region ?_
                        refine x_ar (((k2 : Nat) : Int) + 1) ⟨by omega, by omega⟩ (by kernel_rfl) rfl (by kernel_rfl) ?_
                        refine x_val (.int .i64 (((k2 : Nat) : Int) + 1)) (by kernel_rfl) rfl (by kernel_rfl) ?_
                        refine x_nil ?_
                        refine x_then ?_
                        exact ⟨(k2 + 1, false), (by dsimp only; omega), (nthV [.int .i64 ((k2 : Nat) : Int), .int .i64 (lL.getD k2 0), .bool true, .int .i64 ((k2 : Nat) : Int), .pointer (some ⟨gL, oL + k2, none⟩), .int .i64 (lL.getD k2 0), .bool true, .bool true, .int .i64 (lL.getD k2 0), .bool true, .bool true, .bool true, .int .i64 (lL.getD k2 0), .agg #[.int .i64 r, .int .i64 s, .int .i64 b, .int .i64 o, .int .i64 c, .int .i64 y, .int .i64 z], .int .i64 ((sn : Nat) : Int), .pointer (some ⟨g2, 3, none⟩), .int .i64 ((pn : Nat) : Int), .int .i64 (((sn : Nat) : Int) + ((pn : Nat) : Int)), .bool true, .bool true, .bool true, .pointer (some ⟨g2, 1, none⟩), .slice aD nd cD, .int .i64 (lL.getD k2 0), .bool true, .bool false, .bool false, .bool false, undef, undef, undef, undef, undef, undef, undef, undef, undef, .bool false, .int .i64 (((k2 : Nat) : Int) + 1)]), (by kernel_rfl), H, (by omega), (by rw [okL, ← Bool.and_assoc, ← r2, h28, h29, h30, h31]; try rfl)⟩
            · skip
              have h20p := of_decide_eq_true h20
              refine x_t (by kernel_rfl) ?_
              refine x_skipc ?_
              refine x_then ?_
              refine x_seq ?_
              refine x_block ?_
              refine x_seq ?_
              refine x_region ?_
              obtain ⟨gD, oD, hadD, hcD⟩ := hID (by omega)
              refine x_ixO (t := 106) hadD k1 nd cD 3 1 (oD + k1) (by omega) (by omega) (by kernel_rfl) (by kernel_rfl) (by kernel_rfl) rfl (by kernel_rfl) ?_
              refine x_loadc gD (oD + k1) (.int .i64 (lD.getD k1 0)) (hcD _ H.below k1 (by omega)) (by kernel_rfl) rfl (by kernel_rfl) ?_
              refine x_val (.int .i64 (lD.getD k1 0)) (by kernel_rfl) rfl (by kernel_rfl) ?_
              refine x_nil ?_
              refine x_then ?_
              refine x_seq ?_
              refine x_region ?_
              refine x_val (.bool f1) (by kernel_rfl) rfl (by kernel_rfl) ?_
              refine x_val (.bool f1) (by kernel_rfl) rfl (by kernel_rfl) ?_
              cases h33 : f1
              · skip
                refine x_skip (by kernel_rfl) ?_
                refine x_skip (by kernel_rfl) ?_
                refine x_skip (by kernel_rfl) ?_
                refine x_val (.bool false) (by kernel_rfl) rfl (by kernel_rfl) ?_
                refine x_val (.bool false) (by kernel_rfl) rfl (by kernel_rfl) ?_
                refine x_skip (by kernel_rfl) ?_
                refine x_skip (by kernel_rfl) ?_
                refine x_skip (by kernel_rfl) ?_
                refine x_skip (by kernel_rfl) ?_
                refine x_val (.bool false) (by kernel_rfl) rfl (by kernel_rfl) ?_
                refine x_val (.bool false) (by kernel_rfl) rfl (by kernel_rfl) ?_
                refine x_nil ?_
                refine x_then ?_
                refine x_region ?_
                refine x_val (.int .i64 (lD.getD k1 0)) (by kernel_rfl) rfl (by kernel_rfl) ?_
                refine x_val (.int .i64 (lD.getD k1 0)) (by kernel_rfl) rfl (by kernel_rfl) ?_
                refine x_nil ?_
                refine x_blk ?_
                refine x_then ?_
                refine x_region ?_
                refine x_ar (((k1 : Nat) : Int) + 1) ⟨by omega, by omega⟩ (by kernel_rfl) rfl (by kernel_rfl) ?_
                refine x_val (.int .i64 (((k1 : Nat) : Int) + 1)) (by kernel_rfl) rfl (by kernel_rfl) ?_
                refine x_nil ?_
                refine x_then ?_
                exact ⟨(k1 + 1, false), (by dsimp only; omega), (nthV [.int .i64 (lD.getD k1 0), .bool true, .pointer (some ⟨gD, oD + k1, none⟩), .int .i64 (lD.getD k1 0), .bool false, .bool false, undef, undef, undef, .bool false, .bool false, undef, undef, undef, undef, .bool false, .int .i64 (lD.getD k1 0), .int .i64 (((k1 : Nat) : Int) + 1)]), (by kernel_rfl), H, (by omega), (by rw [okD, ← r2, h33]; try rfl)⟩
              · skip
                refine x_val (.int .i64 (lD.getD k1 0)) (by kernel_rfl) rfl (by kernel_rfl) ?_
                refine x_val (.int .i64 (lastD lD k1)) (by kernel_rfl) rfl (by kernel_rfl) ?_
                refine x_val (.bool (decide ((lastD lD k1) < (lD.getD k1 0)))) (by kernel_rfl) rfl (by kernel_rfl) ?_
                refine x_val (.bool (decide ((lastD lD k1) < (lD.getD k1 0)))) (by kernel_rfl) rfl (by kernel_rfl) ?_
                refine x_val (.bool (decide ((lastD lD k1) < (lD.getD k1 0)))) (by kernel_rfl) rfl (by kernel_rfl) ?_
                cases h34 : decide ((lastD lD k1) < (lD.getD k1 0))
                · skip
                  have h34p := of_decide_eq_false h34
                  refine x_skip (by kernel_rfl) ?_
                  refine x_skip (by kernel_rfl) ?_
                  refine x_skip (by kernel_rfl) ?_
                  refine x_skip (by kernel_rfl) ?_
                  refine x_val (.bool false) (by kernel_rfl) rfl (by kernel_rfl) ?_
                  refine x_val (.bool false) (by kernel_rfl) rfl (by kernel_rfl) ?_
                  refine x_nil ?_
                  refine x_then ?_
                  refine x_region ?_
                  refine x_val (.int .i64 (lD.getD k1 0)) (by kernel_rfl) rfl (by kernel_rfl) ?_
                  refine x_val (.int .i64 (lD.getD k1 0)) (by kernel_rfl) rfl (by kernel_rfl) ?_
                  refine x_nil ?_
                  refine x_blk ?_
                  refine x_then ?_
                  refine x_region ?_
                  refine x_ar (((k1 : Nat) : Int) + 1) ⟨by omega, by omega⟩ (by kernel_rfl) rfl (by kernel_rfl) ?_
                  refine x_val (.int .i64 (((k1 : Nat) : Int) + 1)) (by kernel_rfl) rfl (by kernel_rfl) ?_
                  refine x_nil ?_
                  refine x_then ?_
                  exact ⟨(k1 + 1, false), (by dsimp only; omega), (nthV [.int .i64 (lD.getD k1 0), .bool true, .pointer (some ⟨gD, oD + k1, none⟩), .int .i64 (lD.getD k1 0), .bool true, .bool true, .int .i64 (lD.getD k1 0), .int .i64 (lastD lD k1), .bool false, .bool false, .bool false, undef, undef, undef, undef, .bool false, .int .i64 (lD.getD k1 0), .int .i64 (((k1 : Nat) : Int) + 1)]), (by kernel_rfl), H, (by omega), (by rw [okD, ← r2, h33, h34]; try rfl)⟩
                · skip
                  have h34p := of_decide_eq_true h34
                  refine x_val (.int .i64 (lD.getD k1 0)) (by kernel_rfl) rfl (by kernel_rfl) ?_
                  refine x_loadn (t := 67) H 0 g4 0 #[.int .i64 r, .int .i64 s, .int .i64 b, .int .i64 o, .int .i64 c] 67 [.int .i64 r, .int .i64 s, .int .i64 b, .int .i64 o, .int .i64 c] (by kernel_rfl) (by kernel_rfl) (by kernel_rfl) rfl (by kernel_rfl) (by kernel_rfl) ?_
                  refine x_callB (.int .i64 ((pg : Nat) : Int)) H (by kernel_rfl) rfl (by kernel_rfl) (pages_of hL _) ?_
                  clear H
                  intro v36 H
                  refine x_val (.bool (decide ((lD.getD k1 0) < ((pg : Nat) : Int)))) (by kernel_rfl) rfl (by kernel_rfl) ?_
                  refine x_val (.bool (decide ((lD.getD k1 0) < ((pg : Nat) : Int)))) (by kernel_rfl) rfl (by kernel_rfl) ?_
                  refine x_val (.bool (decide ((lD.getD k1 0) < ((pg : Nat) : Int)))) (by kernel_rfl) rfl (by kernel_rfl) ?_
                  refine x_nil ?_
                  refine x_then ?_
                  refine x_region ?_
                  refine x_val (.int .i64 (lD.getD k1 0)) (by kernel_rfl) rfl (by kernel_rfl) ?_
                  refine x_val (.int .i64 (lD.getD k1 0)) (by kernel_rfl) rfl (by kernel_rfl) ?_
                  refine x_nil ?_
                  refine x_blk ?_
                  refine x_then ?_
                  refine x_region ?_
                  refine x_ar (((k1 : Nat) : Int) + 1) ⟨by omega, by omega⟩ (by kernel_rfl) rfl (by kernel_rfl) ?_
                  refine x_val (.int .i64 (((k1 : Nat) : Int) + 1)) (by kernel_rfl) rfl (by kernel_rfl) ?_
                  refine x_nil ?_
                  refine x_then ?_
                  exact ⟨(k1 + 1, (decide ((lD.getD k1 0) < ((pg : Nat) : Int)))), (by dsimp only; omega), (nthV [.int .i64 (lD.getD k1 0), .bool true, .pointer (some ⟨gD, oD + k1, none⟩), .int .i64 (lD.getD k1 0), .bool true, .bool true, .int .i64 (lD.getD k1 0), .int .i64 (lastD lD k1), .bool true, .bool true, .bool true, .int .i64 (lD.getD k1 0), .agg #[.int .i64 r, .int .i64 s, .int .i64 b, .int .i64 o, .int .i64 c], .int .i64 ((pg : Nat) : Int), .bool (decide ((lD.getD k1 0) < ((pg : Nat) : Int))), .bool (decide ((lD.getD k1 0) < ((pg : Nat) : Int))), .int .i64 (lD.getD k1 0), .int .i64 (((k1 : Nat) : Int) + 1)]), (by kernel_rfl), H, (by omega), (by rw [okD, ← r2, h33, h34]; try rfl)⟩
        · skip
          have h4p := of_decide_eq_true h4
          refine x_t (by kernel_rfl) ?_
          refine x_seq ?_
          refine x_region ?_
          refine x_val (.bool true) (by kernel_rfl) rfl (by kernel_rfl) ?_
          refine x_nil ?_
          refine x_then ?_
          refine x_retc ?_
          refine x_then_ret ?_
          refine x_ret (.bool true) (by kernel_rfl) (by kernel_rfl) ?_
          exact ⟨rfl, H.below⟩
      · skip
        have h3p := of_decide_eq_true h3
        refine x_skip (by kernel_rfl) ?_
        refine x_skip (by kernel_rfl) ?_
        refine x_skip (by kernel_rfl) ?_
        refine x_skip (by kernel_rfl) ?_
        refine x_val (.bool true) (by kernel_rfl) rfl (by kernel_rfl) ?_
        refine x_nil ?_
        refine x_then ?_
        refine x_t (by kernel_rfl) ?_
        refine x_seq ?_
        refine x_region ?_
        refine x_val (.bool true) (by kernel_rfl) rfl (by kernel_rfl) ?_
        refine x_nil ?_
        refine x_then ?_
        refine x_retc ?_
        refine x_then_ret ?_
        refine x_ret (.bool true) (by kernel_rfl) (by kernel_rfl) ?_
        exact ⟨rfl, H.below⟩
    · skip
      have h2p := of_decide_eq_true h2
      refine x_skip (by kernel_rfl) ?_
      refine x_skip (by kernel_rfl) ?_
      refine x_skip (by kernel_rfl) ?_
      refine x_skip (by kernel_rfl) ?_
      refine x_val (.bool true) (by kernel_rfl) rfl (by kernel_rfl) ?_
      refine x_val (.bool true) (by kernel_rfl) rfl (by kernel_rfl) ?_
      refine x_skip (by kernel_rfl) ?_
      refine x_skip (by kernel_rfl) ?_
      refine x_skip (by kernel_rfl) ?_
      refine x_skip (by kernel_rfl) ?_
      refine x_val (.bool true) (by kernel_rfl) rfl (by kernel_rfl) ?_
      refine x_nil ?_
      refine x_then ?_
      refine x_t (by kernel_rfl) ?_
      refine x_seq ?_
      refine x_region ?_
      refine x_val (.bool true) (by kernel_rfl) rfl (by kernel_rfl) ?_
      refine x_nil ?_
      refine x_then ?_
      refine x_retc ?_
      refine x_then_ret ?_
      refine x_ret (.bool true) (by kernel_rfl) (by kernel_rfl) ?_
      exact ⟨rfl, H.below⟩

end Go.Proofs.Ytgpalgbdacoagaa
