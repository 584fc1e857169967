/- The law RemapRefuses, walked (what is refused at once). -/
import Derived.Test.YtgpalgbdacoagaaRemapL
import Derived.Test.YtgpalgbdacoagaaRemapD
namespace Go.Proofs.Ytgpalgbdacoagaa
open Go Go.RowKit
set_option linter.unusedVariables false
set_option linter.unusedSimpArgs false

set_option maxRecDepth 100000 in
set_option maxHeartbeats 4000000 in
theorem refuse_no (r s b o c y z : Int) (aL aD aS : Option Addr) (nl cL nd cD nq cS : Nat) (pu ru : Int) (hbd : r ≤ 9223372036854775807 ∧ b ≤ 9223372036854775807 ∧ o ≤ 9223372036854775807 ∧ c ≤ 9223372036854775807) (hok : layoutOk r s b o c y z = false) (w0 : World) :
    Calls Try.prog 12 #[.agg #[.int .i64 r, .int .i64 s, .int .i64 b, .int .i64 o, .int .i64 c, .int .i64 y, .int .i64 z], .agg #[.slice aL nl cL, .slice aD nd cD, .slice aS nq cS, .int .i64 pu, .int .i64 ru]] w0 fun e w' => e = .returned (.bool true) ∧ Below w0.heap.size w0 w' := by
  refine x_enter Try.func12 rfl #[.agg #[.int .i64 r, .int .i64 s, .int .i64 b, .int .i64 o, .int .i64 c, .int .i64 y, .int .i64 z], .agg #[.slice aL nl cL, .slice aD nd cD, .slice aS nq cS, .int .i64 pu, .int .i64 ru], undef, undef, undef, undef, undef, undef, undef, undef, undef, undef, undef, undef, undef, undef, undef, undef, undef, undef, undef, undef, undef, undef, undef, undef, undef, undef, undef, undef, undef, undef, undef, undef, undef, undef, undef, undef, undef, undef, undef, undef, undef, undef, undef, undef, undef, undef, undef, undef, undef, undef, undef, undef, undef, undef, undef, undef, undef, undef, undef, undef, undef, undef, undef, undef, undef, undef, undef, undef, undef, undef, undef, undef, undef, undef, undef, undef, undef, undef, undef, undef, undef, undef, undef, undef, undef, undef, undef, undef, undef, undef, undef, undef, undef, undef, undef, undef, undef, undef, undef, undef, undef, undef, undef, undef, undef, undef, undef, undef, undef, undef, undef, undef, undef, undef, undef, undef, undef, undef, undef, undef, undef, undef, undef, undef, undef, undef, undef, undef, undef, undef, undef, undef, undef, undef, undef, undef, undef, undef, undef, undef, undef, undef, undef, undef, undef, undef, undef, undef, undef, undef, undef, undef, undef, undef, undef, undef, undef, undef, undef, undef, undef, undef, undef, undef, undef, undef, undef, undef, undef, undef, undef, undef, undef, undef, undef, undef, undef, undef, undef, undef, undef, undef, undef, undef, undef, undef, undef, undef, undef, undef, undef, undef, undef, undef, undef, undef, undef, undef, undef, undef, undef, undef, undef, undef, undef, undef, undef, undef, undef, undef, undef, undef, undef, undef, undef, undef, undef, undef, undef, undef, undef, undef] (by kernel_rfl) ?_
  have H := Hs.nil w0
  obtain ⟨hb1, hb2, hb3, hb4⟩ := id hbd
  refine x_seq ?_
  refine x_region ?_
  refine x_box H #[.int .i64 r, .int .i64 s, .int .i64 b, .int .i64 o, .int .i64 c, .int .i64 y, .int .i64 z] 69 (by kernel_rfl) rfl (by kernel_rfl) ?_
  clear H
  intro v1 g1 H
  refine x_box H #[.slice aL nl cL, .slice aD nd cD, .slice aS nq cS, .int .i64 pu, .int .i64 ru] 142 (by kernel_rfl) rfl (by kernel_rfl) ?_
  clear H
  intro v2 g2 H
  refine x_val (.bool false) (by kernel_rfl) rfl (by kernel_rfl) ?_
  refine x_nil ?_
  refine x_then ?_
  refine x_seq ?_
  refine x_seq ?_
  refine x_region ?_
  refine x_callB (.bool true) H (by kernel_rfl) rfl (by kernel_rfl) (anchor19 _) ?_
  clear H
  intro v3 H
  refine x_val (.bool false) (by kernel_rfl) rfl (by kernel_rfl) ?_
  refine x_nil ?_
  refine x_then ?_
  refine x_f (by kernel_rfl) ?_
  refine x_skipc ?_
  refine x_then ?_
  refine x_seq ?_
  refine x_seq ?_
  refine x_region ?_
  refine x_loadn (t := 69) H 1 g1 0 #[.int .i64 r, .int .i64 s, .int .i64 b, .int .i64 o, .int .i64 c, .int .i64 y, .int .i64 z] 69 [.int .i64 r, .int .i64 s, .int .i64 b, .int .i64 o, .int .i64 c, .int .i64 y, .int .i64 z] (by kernel_rfl) (by kernel_rfl) (by kernel_rfl) rfl (by kernel_rfl) (by kernel_rfl) ?_
  refine x_call (by kernel_rfl) rfl (by kernel_rfl) (small_any r s b o c y z (by omega) (by omega) (by omega) (by omega) _) ?_
  rintro _ v4 ⟨tS, rfl, hB⟩
  refine ⟨_, rfl, ?_⟩
  replace H := H.via hB
  clear hB
  refine x_val (.bool (!tS)) (by kernel_rfl) rfl (by kernel_rfl) ?_
  refine x_val (.bool (!tS)) (by kernel_rfl) rfl (by kernel_rfl) ?_
  cases h1 : tS
  · skip
    refine x_skip (by kernel_rfl) ?_
    refine x_skip (by kernel_rfl) ?_
    refine x_skip (by kernel_rfl) ?_
    refine x_skip (by kernel_rfl) ?_
    refine x_val (.bool true) (by kernel_rfl) rfl (by kernel_rfl) ?_
    refine x_val (.bool true) (by kernel_rfl) rfl (by kernel_rfl) ?_
    refine x_skip (by kernel_rfl) ?_
    refine x_skip (by kernel_rfl) ?_
    refine x_skip (by kernel_rfl) ?_
    refine x_skip (by kernel_rfl) ?_
    refine x_val (.bool true) (by kernel_rfl) rfl (by kernel_rfl) ?_
    refine x_val (.bool true) (by kernel_rfl) rfl (by kernel_rfl) ?_
    refine x_skip (by kernel_rfl) ?_
    refine x_skip (by kernel_rfl) ?_
    refine x_skip (by kernel_rfl) ?_
    refine x_skip (by kernel_rfl) ?_
    refine x_val (.bool true) (by kernel_rfl) rfl (by kernel_rfl) ?_
    refine x_nil ?_
    refine x_then ?_
    refine x_t (by kernel_rfl) ?_
    refine x_seq ?_
    refine x_region ?_
    refine x_val (.bool true) (by kernel_rfl) rfl (by kernel_rfl) ?_
    refine x_nil ?_
    refine x_then ?_
    refine x_retc ?_
    refine x_then_ret ?_
    refine x_ret (.bool true) (by kernel_rfl) (by kernel_rfl) ?_
    exact ⟨rfl, H.below⟩
  · skip
    refine x_val (.pointer (some ⟨g2, 0, none⟩)) (by kernel_rfl) rfl (by kernel_rfl) ?_
    refine x_load1 H 0 g2 0 #[.slice aL nl cL, .slice aD nd cD, .slice aS nq cS, .int .i64 pu, .int .i64 ru] 142 (.slice aL nl cL) (by kernel_rfl) (by kernel_rfl) (by kernel_rfl) rfl (by kernel_rfl) ?_
    refine x_val (.int .i64 ((nl : Nat) : Int)) (by kernel_rfl) rfl (by kernel_rfl) ?_
    refine x_val (.bool (decide (300 < ((nl : Nat) : Int)))) (by kernel_rfl) rfl (by kernel_rfl) ?_
    refine x_val (.bool (decide (300 < ((nl : Nat) : Int)))) (by kernel_rfl) rfl (by kernel_rfl) ?_
    refine x_val (.bool (decide (300 < ((nl : Nat) : Int)))) (by kernel_rfl) rfl (by kernel_rfl) ?_
    cases h2 : decide (300 < ((nl : Nat) : Int))
    · skip
      have h2p := of_decide_eq_false h2
      refine x_val (.pointer (some ⟨g2, 1, none⟩)) (by kernel_rfl) rfl (by kernel_rfl) ?_
      refine x_load1 H 0 g2 1 #[.slice aL nl cL, .slice aD nd cD, .slice aS nq cS, .int .i64 pu, .int .i64 ru] 142 (.slice aD nd cD) (by kernel_rfl) (by kernel_rfl) (by kernel_rfl) rfl (by kernel_rfl) ?_
      refine x_val (.int .i64 ((nd : Nat) : Int)) (by kernel_rfl) rfl (by kernel_rfl) ?_
      refine x_val (.bool (decide (300 < ((nd : Nat) : Int)))) (by kernel_rfl) rfl (by kernel_rfl) ?_
      refine x_val (.bool (decide (300 < ((nd : Nat) : Int)))) (by kernel_rfl) rfl (by kernel_rfl) ?_
      refine x_val (.bool (decide (300 < ((nd : Nat) : Int)))) (by kernel_rfl) rfl (by kernel_rfl) ?_
      cases h3 : decide (300 < ((nd : Nat) : Int))
      · skip
        have h3p := of_decide_eq_false h3
        refine x_val (.pointer (some ⟨g2, 2, none⟩)) (by kernel_rfl) rfl (by kernel_rfl) ?_
        refine x_load1 H 0 g2 2 #[.slice aL nl cL, .slice aD nd cD, .slice aS nq cS, .int .i64 pu, .int .i64 ru] 142 (.slice aS nq cS) (by kernel_rfl) (by kernel_rfl) (by kernel_rfl) rfl (by kernel_rfl) ?_
        refine x_val (.int .i64 ((nq : Nat) : Int)) (by kernel_rfl) rfl (by kernel_rfl) ?_
        refine x_val (.bool (decide (300 < ((nq : Nat) : Int)))) (by kernel_rfl) rfl (by kernel_rfl) ?_
        refine x_val (.bool (decide (300 < ((nq : Nat) : Int)))) (by kernel_rfl) rfl (by kernel_rfl) ?_
        refine x_nil ?_
        refine x_then ?_
        cases h4 : decide (300 < ((nq : Nat) : Int))
        · skip
          have h4p := of_decide_eq_false h4
          refine x_f (by kernel_rfl) ?_
          refine x_skipc ?_
          refine x_then ?_
          refine x_seq ?_
          refine x_region ?_
          refine x_loadn (t := 69) H 1 g1 0 #[.int .i64 r, .int .i64 s, .int .i64 b, .int .i64 o, .int .i64 c, .int .i64 y, .int .i64 z] 69 [.int .i64 r, .int .i64 s, .int .i64 b, .int .i64 o, .int .i64 c, .int .i64 y, .int .i64 z] (by kernel_rfl) (by kernel_rfl) (by kernel_rfl) rfl (by kernel_rfl) (by kernel_rfl) ?_
          refine x_loadn (t := 142) H 0 g2 0 #[.slice aL nl cL, .slice aD nd cD, .slice aS nq cS, .int .i64 pu, .int .i64 ru] 142 [.slice aL nl cL, .slice aD nd cD, .slice aS nq cS, .int .i64 pu, .int .i64 ru] (by kernel_rfl) (by kernel_rfl) (by kernel_rfl) rfl (by kernel_rfl) (by kernel_rfl) ?_
          refine x_callB (.tuple #[.pointer none, .int .i64 22]) H (by kernel_rfl) rfl (by kernel_rfl) (Restore_no r s b o c y z aL aD aS nl cL nd cD nq cS pu ru hbd hok _) ?_
          clear H
          intro v5 H
          refine x_val (.tuple #[.pointer none, .int .i64 22]) (by kernel_rfl) rfl (by kernel_rfl) ?_
          refine x_val (.pointer none) (by kernel_rfl) rfl (by kernel_rfl) ?_
          refine x_val (.int .i64 22) (by kernel_rfl) rfl (by kernel_rfl) ?_
          refine x_val (.pointer none) (by kernel_rfl) rfl (by kernel_rfl) ?_
          refine x_val (.int .i64 22) (by kernel_rfl) rfl (by kernel_rfl) ?_
          refine x_nil ?_
          refine x_frame' { tmps := #[.agg #[.int .i64 r, .int .i64 s, .int .i64 b, .int .i64 o, .int .i64 c, .int .i64 y, .int .i64 z], .agg #[.slice aL nl cL, .slice aD nd cD, .slice aS nq cS, .int .i64 pu, .int .i64 ru], .pointer (some ⟨g1, 0, none⟩), .pointer (some ⟨g2, 0, none⟩), .bool false, .pointer none, .int .i64 22, undef, undef, undef, undef, undef, undef, undef, undef, undef, undef, undef, undef, undef, .bool true, .bool false, .agg #[.int .i64 r, .int .i64 s, .int .i64 b, .int .i64 o, .int .i64 c, .int .i64 y, .int .i64 z], .bool true, .bool false, .bool false, .pointer (some ⟨g2, 0, none⟩), .slice aL nl cL, .int .i64 ((nl : Nat) : Int), .bool false, .bool false, .bool false, .pointer (some ⟨g2, 1, none⟩), .slice aD nd cD, .int .i64 ((nd : Nat) : Int), .bool false, .bool false, .bool false, .pointer (some ⟨g2, 2, none⟩), .slice aS nq cS, .int .i64 ((nq : Nat) : Int), .bool false, .bool false, .tuple #[.pointer none, .int .i64 22], .agg #[.int .i64 r, .int .i64 s, .int .i64 b, .int .i64 o, .int .i64 c, .int .i64 y, .int .i64 z], .agg #[.slice aL nl cL, .slice aD nd cD, .slice aS nq cS, .int .i64 pu, .int .i64 ru], .tuple #[.pointer none, .int .i64 22], .pointer none, .int .i64 22, undef, undef, undef, undef, undef, undef, undef, undef, undef, undef, undef, undef, undef, undef, undef, undef, undef, undef, undef, undef, undef, undef, undef, undef, undef, undef, undef, undef, undef, undef, undef, undef, undef, undef, undef, undef, undef, undef, undef, undef, undef, undef, undef, undef, undef, undef, undef, undef, undef, undef, undef, undef, undef, undef, undef, undef, undef, undef, undef, undef, undef, undef, undef, undef, undef, undef, undef, undef, undef, undef, undef, undef, undef, undef, undef, undef, undef, undef, undef, undef, undef, undef, undef, undef, undef, undef, undef, undef, undef, undef, undef, undef, undef, undef, undef, undef, undef, undef, undef, undef, undef, undef, undef, undef, undef, undef, undef, undef, undef, undef, undef, undef, undef, undef, undef, undef, undef, undef, undef, undef, undef, undef, undef, undef, undef, undef, undef, undef, undef, undef, undef, undef, undef, undef, undef, undef, undef, undef, undef, undef, undef, undef, undef, undef, undef, undef, undef, undef, undef, undef, undef, undef, undef, undef, undef, undef, undef, undef, undef, undef, undef, undef, undef, undef, undef, undef, undef, undef, undef, undef, undef, undef, undef, undef, undef], defers := [] } (by kernel_rfl) ?_
          refine x_then ?_
          refine x_seq ?_
          refine x_seq ?_
          refine x_region ?_
          refine x_loadn (t := 69) H 1 g1 0 #[.int .i64 r, .int .i64 s, .int .i64 b, .int .i64 o, .int .i64 c, .int .i64 y, .int .i64 z] 69 [.int .i64 r, .int .i64 s, .int .i64 b, .int .i64 o, .int .i64 c, .int .i64 y, .int .i64 z] (by kernel_rfl) (by kernel_rfl) (by kernel_rfl) rfl (by kernel_rfl) (by kernel_rfl) ?_
          refine x_callB (.bool (layoutOk r s b o c y z)) H (by kernel_rfl) rfl (by kernel_rfl) (lRight_any _ _ _ _ _ _ _ (by omega) (by omega) (by omega) (by omega) _) ?_
          clear H
          intro v6 H
          refine x_val (.bool (!(layoutOk r s b o c y z))) (by kernel_rfl) rfl (by kernel_rfl) ?_
          refine x_nil ?_
          refine x_then ?_
          rw [hok]
          refine x_t (by kernel_rfl) ?_
          refine x_seq ?_
          refine x_region ?_
          refine x_val (.int .i64 22) (by kernel_rfl) rfl (by kernel_rfl) ?_
          refine x_val (.bool true) (by kernel_rfl) rfl (by kernel_rfl) ?_
          refine x_val (.bool true) (by kernel_rfl) rfl (by kernel_rfl) ?_
          refine x_val (.pointer none) (by kernel_rfl) rfl (by kernel_rfl) ?_
          refine x_val (.bool true) (by kernel_rfl) rfl (by kernel_rfl) ?_
          refine x_val (.bool true) (by kernel_rfl) rfl (by kernel_rfl) ?_
          refine x_val (.bool true) (by kernel_rfl) rfl (by kernel_rfl) ?_
          refine x_nil ?_
          refine x_then ?_
          refine x_retc ?_
          refine x_then_ret ?_
          refine x_ret (.bool true) (by kernel_rfl) (by kernel_rfl) ?_
          exact ⟨rfl, H.below⟩
        · skip
          have h4p := of_decide_eq_true h4
          refine x_t (by kernel_rfl) ?_
          refine x_seq ?_
          refine x_region ?_
          refine x_val (.bool true) (by kernel_rfl) rfl (by kernel_rfl) ?_
          refine x_nil ?_
          refine x_then ?_
          refine x_retc ?_
          refine x_then_ret ?_
          refine x_ret (.bool true) (by kernel_rfl) (by kernel_rfl) ?_
          exact ⟨rfl, H.below⟩
      · skip
        have h3p := of_decide_eq_true h3
        refine x_skip (by kernel_rfl) ?_
        refine x_skip (by kernel_rfl) ?_
        refine x_skip (by kernel_rfl) ?_
        refine x_skip (by kernel_rfl) ?_
        refine x_val (.bool true) (by kernel_rfl) rfl (by kernel_rfl) ?_
        refine x_nil ?_
        refine x_then ?_
        refine x_t (by kernel_rfl) ?_
        refine x_seq ?_
        refine x_region ?_
        refine x_val (.bool true) (by kernel_rfl) rfl (by kernel_rfl) ?_
        refine x_nil ?_
        refine x_then ?_
        refine x_retc ?_
        refine x_then_ret ?_
        refine x_ret (.bool true) (by kernel_rfl) (by kernel_rfl) ?_
        exact ⟨rfl, H.below⟩
    · skip
      have h2p := of_decide_eq_true h2
      refine x_skip (by kernel_rfl) ?_
      refine x_skip (by kernel_rfl) ?_
      refine x_skip (by kernel_rfl) ?_
      refine x_skip (by kernel_rfl) ?_
      refine x_val (.bool true) (by kernel_rfl) rfl (by kernel_rfl) ?_
      refine x_val (.bool true) (by kernel_rfl) rfl (by kernel_rfl) ?_
      refine x_skip (by kernel_rfl) ?_
      refine x_skip (by kernel_rfl) ?_
      refine x_skip (by kernel_rfl) ?_
      refine x_skip (by kernel_rfl) ?_
      refine x_val (.bool true) (by kernel_rfl) rfl (by kernel_rfl) ?_
      refine x_nil ?_
      refine x_then ?_
      refine x_t (by kernel_rfl) ?_
      refine x_seq ?_
      refine x_region ?_
      refine x_val (.bool true) (by kernel_rfl) rfl (by kernel_rfl) ?_
      refine x_nil ?_
      refine x_then ?_
      refine x_retc ?_
      refine x_then_ret ?_
      refine x_ret (.bool true) (by kernel_rfl) (by kernel_rfl) ?_
      exact ⟨rfl, H.below⟩

set_option maxRecDepth 100000 in
set_option maxHeartbeats 4000000 in
theorem refuse_form {r s b o c y z : Int} {pg sn ns : Nat} (hL : Lay r s b o c y z pg sn ns) (aL aD aS : Option Addr) (nl cL nd cD nq cS : Nat) (pu ru : Int) (lL lD lS : List Int) (hf : fitsB nl sn nq r z s pu ru = false) (w0 : World) (hIL : IntsAt w0 aL nl lL) (hID : IntsAt w0 aD nd lD) (hIS : IntsAt w0 aS nq lS) :
    Calls Try.prog 12 #[.agg #[.int .i64 r, .int .i64 s, .int .i64 b, .int .i64 o, .int .i64 c, .int .i64 y, .int .i64 z], .agg #[.slice aL nl cL, .slice aD nd cD, .slice aS nq cS, .int .i64 pu, .int .i64 ru]] w0 fun e w' => e = .returned (.bool true) ∧ Below w0.heap.size w0 w' := by
  refine x_enter Try.func12 rfl #[.agg #[.int .i64 r, .int .i64 s, .int .i64 b, .int .i64 o, .int .i64 c, .int .i64 y, .int .i64 z], .agg #[.slice aL nl cL, .slice aD nd cD, .slice aS nq cS, .int .i64 pu, .int .i64 ru], undef, undef, undef, undef, undef, undef, undef, undef, undef, undef, undef, undef, undef, undef, undef, undef, undef, undef, undef, undef, undef, undef, undef, undef, undef, undef, undef, undef, undef, undef, undef, undef, undef, undef, undef, undef, undef, undef, undef, undef, undef, undef, undef, undef, undef, undef, undef, undef, undef, undef, undef, undef, undef, undef, undef, undef, undef, undef, undef, undef, undef, undef, undef, undef, undef, undef, undef, undef, undef, undef, undef, undef, undef, undef, undef, undef, undef, undef, undef, undef, undef, undef, undef, undef, undef, undef, undef, undef, undef, undef, undef, undef, undef, undef, undef, undef, undef, undef, undef, undef, undef, undef, undef, undef, undef, undef, undef, undef, undef, undef, undef, undef, undef, undef, undef, undef, undef, undef, undef, undef, undef, undef, undef, undef, undef, undef, undef, undef, undef, undef, undef, undef, undef, undef, undef, undef, undef, undef, undef, undef, undef, undef, undef, undef, undef, undef, undef, undef, undef, undef, undef, undef, undef, undef, undef, undef, undef, undef, undef, undef, undef, undef, undef, undef, undef, undef, undef, undef, undef, undef, undef, undef, undef, undef, undef, undef, undef, undef, undef, undef, undef, undef, undef, undef, undef, undef, undef, undef, undef, undef, undef, undef, undef, undef, undef, undef, undef, undef, undef, undef, undef, undef, undef, undef, undef, undef, undef, undef, undef, undef, undef, undef, undef, undef, undef, undef, undef, undef, undef, undef, undef, undef] (by kernel_rfl) ?_
  have H := Hs.nil w0
  have hok := hL.ok
  obtain ⟨-, r1, r8, s0, s8, b1, b2, o1, o2, c1, c2, y0, y4, z0, z2, hpg, hsn, hns, sn1, pg2, ln0, ln2⟩ := id hL
  have r1' := r1
  refine x_seq ?_
  refine x_region ?_
  refine x_box H #[.int .i64 r, .int .i64 s, .int .i64 b, .int .i64 o, .int .i64 c, .int .i64 y, .int .i64 z] 69 (by kernel_rfl) rfl (by kernel_rfl) ?_
  clear H
  intro v1 g1 H
  refine x_box H #[.slice aL nl cL, .slice aD nd cD, .slice aS nq cS, .int .i64 pu, .int .i64 ru] 142 (by kernel_rfl) rfl (by kernel_rfl) ?_
  clear H
  intro v2 g2 H
  refine x_val (.bool false) (by kernel_rfl) rfl (by kernel_rfl) ?_
  refine x_nil ?_
  refine x_then ?_
  refine x_seq ?_
  refine x_seq ?_
  refine x_region ?_
  refine x_callB (.bool true) H (by kernel_rfl) rfl (by kernel_rfl) (anchor19 _) ?_
  clear H
  intro v3 H
  refine x_val (.bool false) (by kernel_rfl) rfl (by kernel_rfl) ?_
  refine x_nil ?_
  refine x_then ?_
  refine x_f (by kernel_rfl) ?_
  refine x_skipc ?_
  refine x_then ?_
  refine x_seq ?_
  refine x_seq ?_
  refine x_region ?_
  refine x_loadn (t := 69) H 1 g1 0 #[.int .i64 r, .int .i64 s, .int .i64 b, .int .i64 o, .int .i64 c, .int .i64 y, .int .i64 z] 69 [.int .i64 r, .int .i64 s, .int .i64 b, .int .i64 o, .int .i64 c, .int .i64 y, .int .i64 z] (by kernel_rfl) (by kernel_rfl) (by kernel_rfl) rfl (by kernel_rfl) (by kernel_rfl) ?_
  refine x_call (by kernel_rfl) rfl (by kernel_rfl) (small_any r s b o c y z (by omega) (by omega) (by omega) (by omega) _) ?_
  rintro _ v4 ⟨tS, rfl, hB⟩
  refine ⟨_, rfl, ?_⟩
  replace H := H.via hB
  clear hB
  refine x_val (.bool (!tS)) (by kernel_rfl) rfl (by kernel_rfl) ?_
  refine x_val (.bool (!tS)) (by kernel_rfl) rfl (by kernel_rfl) ?_
  cases h1 : tS
  · skip
    refine x_skip (by kernel_rfl) ?_
    refine x_skip (by kernel_rfl) ?_
    refine x_skip (by kernel_rfl) ?_
    refine x_skip (by kernel_rfl) ?_
    refine x_val (.bool true) (by kernel_rfl) rfl (by kernel_rfl) ?_
    refine x_val (.bool true) (by kernel_rfl) rfl (by kernel_rfl) ?_
    refine x_skip (by kernel_rfl) ?_
    refine x_skip (by kernel_rfl) ?_
    refine x_skip (by kernel_rfl) ?_
    refine x_skip (by kernel_rfl) ?_
    refine x_val (.bool true) (by kernel_rfl) rfl (by kernel_rfl) ?_
    refine x_val (.bool true) (by kernel_rfl) rfl (by kernel_rfl) ?_
    refine x_skip (by kernel_rfl) ?_
    refine x_skip (by kernel_rfl) ?_
    refine x_skip (by kernel_rfl) ?_
    refine x_skip (by kernel_rfl) ?_
    refine x_val (.bool true) (by kernel_rfl) rfl (by kernel_rfl) ?_
    refine x_nil ?_
    refine x_then ?_
    refine x_t (by kernel_rfl) ?_
    refine x_seq ?_
    refine x_region ?_
    refine x_val (.bool true) (by kernel_rfl) rfl (by kernel_rfl) ?_
    refine x_nil ?_
    refine x_then ?_
    refine x_retc ?_
    refine x_then_ret ?_
    refine x_ret (.bool true) (by kernel_rfl) (by kernel_rfl) ?_
    exact ⟨rfl, H.below⟩
  · skip
    refine x_val (.pointer (some ⟨g2, 0, none⟩)) (by kernel_rfl) rfl (by kernel_rfl) ?_
    refine x_load1 H 0 g2 0 #[.slice aL nl cL, .slice aD nd cD, .slice aS nq cS, .int .i64 pu, .int .i64 ru] 142 (.slice aL nl cL) (by kernel_rfl) (by kernel_rfl) (by kernel_rfl) rfl (by kernel_rfl) ?_
    refine x_val (.int .i64 ((nl : Nat) : Int)) (by kernel_rfl) rfl (by kernel_rfl) ?_
    refine x_val (.bool (decide (300 < ((nl : Nat) : Int)))) (by kernel_rfl) rfl (by kernel_rfl) ?_
    refine x_val (.bool (decide (300 < ((nl : Nat) : Int)))) (by kernel_rfl) rfl (by kernel_rfl) ?_
    refine x_val (.bool (decide (300 < ((nl : Nat) : Int)))) (by kernel_rfl) rfl (by kernel_rfl) ?_
    cases h2 : decide (300 < ((nl : Nat) : Int))
    · skip
      have h2p := of_decide_eq_false h2
      refine x_val (.pointer (some ⟨g2, 1, none⟩)) (by kernel_rfl) rfl (by kernel_rfl) ?_
      refine x_load1 H 0 g2 1 #[.slice aL nl cL, .slice aD nd cD, .slice aS nq cS, .int .i64 pu, .int .i64 ru] 142 (.slice aD nd cD) (by kernel_rfl) (by kernel_rfl) (by kernel_rfl) rfl (by kernel_rfl) ?_
      refine x_val (.int .i64 ((nd : Nat) : Int)) (by kernel_rfl) rfl (by kernel_rfl) ?_
      refine x_val (.bool (decide (300 < ((nd : Nat) : Int)))) (by kernel_rfl) rfl (by kernel_rfl) ?_
      refine x_val (.bool (decide (300 < ((nd : Nat) : Int)))) (by kernel_rfl) rfl (by kernel_rfl) ?_
      refine x_val (.bool (decide (300 < ((nd : Nat) : Int)))) (by kernel_rfl) rfl (by kernel_rfl) ?_
      cases h3 : decide (300 < ((nd : Nat) : Int))
      · skip
        have h3p := of_decide_eq_false h3
        refine x_val (.pointer (some ⟨g2, 2, none⟩)) (by kernel_rfl) rfl (by kernel_rfl) ?_
        refine x_load1 H 0 g2 2 #[.slice aL nl cL, .slice aD nd cD, .slice aS nq cS, .int .i64 pu, .int .i64 ru] 142 (.slice aS nq cS) (by kernel_rfl) (by kernel_rfl) (by kernel_rfl) rfl (by kernel_rfl) ?_
        refine x_val (.int .i64 ((nq : Nat) : Int)) (by kernel_rfl) rfl (by kernel_rfl) ?_
        refine x_val (.bool (decide (300 < ((nq : Nat) : Int)))) (by kernel_rfl) rfl (by kernel_rfl) ?_
        refine x_val (.bool (decide (300 < ((nq : Nat) : Int)))) (by kernel_rfl) rfl (by kernel_rfl) ?_
        refine x_nil ?_
        refine x_then ?_
        cases h4 : decide (300 < ((nq : Nat) : Int))
        · skip
          have h4p := of_decide_eq_false h4
          refine x_f (by kernel_rfl) ?_
          refine x_skipc ?_
          refine x_then ?_
          refine x_seq ?_
          refine x_region ?_
          refine x_loadn (t := 69) H 1 g1 0 #[.int .i64 r, .int .i64 s, .int .i64 b, .int .i64 o, .int .i64 c, .int .i64 y, .int .i64 z] 69 [.int .i64 r, .int .i64 s, .int .i64 b, .int .i64 o, .int .i64 c, .int .i64 y, .int .i64 z] (by kernel_rfl) (by kernel_rfl) (by kernel_rfl) rfl (by kernel_rfl) (by kernel_rfl) ?_
          refine x_loadn (t := 142) H 0 g2 0 #[.slice aL nl cL, .slice aD nd cD, .slice aS nq cS, .int .i64 pu, .int .i64 ru] 142 [.slice aL nl cL, .slice aD nd cD, .slice aS nq cS, .int .i64 pu, .int .i64 ru] (by kernel_rfl) (by kernel_rfl) (by kernel_rfl) rfl (by kernel_rfl) (by kernel_rfl) ?_
          refine x_callB (.tuple #[.pointer none, .int .i64 10]) H (by kernel_rfl) rfl (by kernel_rfl) (Restore_form hL aL aD aS nl cL nd cD nq cS pu ru hf _) ?_
          clear H
          intro v5 H
          refine x_val (.tuple #[.pointer none, .int .i64 10]) (by kernel_rfl) rfl (by kernel_rfl) ?_
          refine x_val (.pointer none) (by kernel_rfl) rfl (by kernel_rfl) ?_
          refine x_val (.int .i64 10) (by kernel_rfl) rfl (by kernel_rfl) ?_
          refine x_val (.pointer none) (by kernel_rfl) rfl (by kernel_rfl) ?_
          refine x_val (.int .i64 10) (by kernel_rfl) rfl (by kernel_rfl) ?_
          refine x_nil ?_
          refine x_frame' { tmps := #[.agg #[.int .i64 r, .int .i64 s, .int .i64 b, .int .i64 o, .int .i64 c, .int .i64 y, .int .i64 z], .agg #[.slice aL nl cL, .slice aD nd cD, .slice aS nq cS, .int .i64 pu, .int .i64 ru], .pointer (some ⟨g1, 0, none⟩), .pointer (some ⟨g2, 0, none⟩), .bool false, .pointer none, .int .i64 10, undef, undef, undef, undef, undef, undef, undef, undef, undef, undef, undef, undef, undef, .bool true, .bool false, .agg #[.int .i64 r, .int .i64 s, .int .i64 b, .int .i64 o, .int .i64 c, .int .i64 y, .int .i64 z], .bool true, .bool false, .bool false, .pointer (some ⟨g2, 0, none⟩), .slice aL nl cL, .int .i64 ((nl : Nat) : Int), .bool false, .bool false, .bool false, .pointer (some ⟨g2, 1, none⟩), .slice aD nd cD, .int .i64 ((nd : Nat) : Int), .bool false, .bool false, .bool false, .pointer (some ⟨g2, 2, none⟩), .slice aS nq cS, .int .i64 ((nq : Nat) : Int), .bool false, .bool false, .tuple #[.pointer none, .int .i64 10], .agg #[.int .i64 r, .int .i64 s, .int .i64 b, .int .i64 o, .int .i64 c, .int .i64 y, .int .i64 z], .agg #[.slice aL nl cL, .slice aD nd cD, .slice aS nq cS, .int .i64 pu, .int .i64 ru], .tuple #[.pointer none, .int .i64 10], .pointer none, .int .i64 10, undef, undef, undef, undef, undef, undef, undef, undef, undef, undef, undef, undef, undef, undef, undef, undef, undef, undef, undef, undef, undef, undef, undef, undef, undef, undef, undef, undef, undef, undef, undef, undef, undef, undef, undef, undef, undef, undef, undef, undef, undef, undef, undef, undef, undef, undef, undef, undef, undef, undef, undef, undef, undef, undef, undef, undef, undef, undef, undef, undef, undef, undef, undef, undef, undef, undef, undef, undef, undef, undef, undef, undef, undef, undef, undef, undef, undef, undef, undef, undef, undef, undef, undef, undef, undef, undef, undef, undef, undef, undef, undef, undef, undef, undef, undef, undef, undef, undef, undef, undef, undef, undef, undef, undef, undef, undef, undef, undef, undef, undef, undef, undef, undef, undef, undef, undef, undef, undef, undef, undef, undef, undef, undef, undef, undef, undef, undef, undef, undef, undef, undef, undef, undef, undef, undef, undef, undef, undef, undef, undef, undef, undef, undef, undef, undef, undef, undef, undef, undef, undef, undef, undef, undef, undef, undef, undef, undef, undef, undef, undef, undef, undef, undef, undef, undef, undef, undef, undef, undef, undef, undef, undef, undef, undef, undef], defers := [] } (by kernel_rfl) ?_
          refine x_then ?_
          refine x_seq ?_
          refine x_seq ?_
          refine x_region ?_
          refine x_loadn (t := 69) H 1 g1 0 #[.int .i64 r, .int .i64 s, .int .i64 b, .int .i64 o, .int .i64 c, .int .i64 y, .int .i64 z] 69 [.int .i64 r, .int .i64 s, .int .i64 b, .int .i64 o, .int .i64 c, .int .i64 y, .int .i64 z] (by kernel_rfl) (by kernel_rfl) (by kernel_rfl) rfl (by kernel_rfl) (by kernel_rfl) ?_
          refine x_callB (.bool (layoutOk r s b o c y z)) H (by kernel_rfl) rfl (by kernel_rfl) (lRight_any _ _ _ _ _ _ _ (by omega) (by omega) (by omega) (by omega) _) ?_
          clear H
          intro v6 H
          refine x_val (.bool (!(layoutOk r s b o c y z))) (by kernel_rfl) rfl (by kernel_rfl) ?_
          refine x_nil ?_
          refine x_then ?_
          rw [hok]
          refine x_f (by kernel_rfl) ?_
          refine x_skipc ?_
          refine x_then ?_
          refine x_seq ?_
          refine x_region ?_
          refine x_val (.pointer (some ⟨g1, 0, none⟩)) (by kernel_rfl) rfl (by kernel_rfl) ?_
          refine x_loadn (t := 67) H 1 g1 0 #[.int .i64 r, .int .i64 s, .int .i64 b, .int .i64 o, .int .i64 c, .int .i64 y, .int .i64 z] 69 [.int .i64 r, .int .i64 s, .int .i64 b, .int .i64 o, .int .i64 c] (by kernel_rfl) (by kernel_rfl) (by kernel_rfl) rfl (by kernel_rfl) (by kernel_rfl) ?_
          refine x_box H #[.int .i64 0, .int .i64 0, .int .i64 0, .int .i64 0, .int .i64 0] 67 (by kernel_rfl) rfl (by kernel_rfl) ?_
          clear H
          intro v7 g3 H
          refine x_store (t := 67) (v := .agg #[.int .i64 r, .int .i64 s, .int .i64 b, .int .i64 o, .int .i64 c]) H 0 g3 0 #[.int .i64 0, .int .i64 0, .int .i64 0, .int .i64 0, .int .i64 0] #[.int .i64 r, .int .i64 s, .int .i64 b, .int .i64 o, .int .i64 c] 67 [.int .i64 r, .int .i64 s, .int .i64 b, .int .i64 o, .int .i64 c] [.blk g3 #[.int .i64 r, .int .i64 s, .int .i64 b, .int .i64 o, .int .i64 c] 67, .blk g2 #[.slice aL nl cL, .slice aD nd cD, .slice aS nq cS, .int .i64 pu, .int .i64 ru] 142, .blk g1 #[.int .i64 r, .int .i64 s, .int .i64 b, .int .i64 o, .int .i64 c, .int .i64 y, .int .i64 z] 69] (by kernel_rfl) rfl (by kernel_rfl) (by kernel_rfl) (by kernel_rfl) (by kernel_rfl) (by kernel_rfl) (by kernel_rfl) (by kernel_rfl) (by kernel_rfl) ?_
          clear H
          intro v8 H
          refine x_nil ?_
          refine x_then ?_
          refine x_seq ?_
          refine x_cut (fun a w' => ∃ uf1 : Nat → Value, a = { tmps := #[.agg #[.int .i64 r, .int .i64 s, .int .i64 b, .int .i64 o, .int .i64 c, .int .i64 y, .int .i64 z], .agg #[.slice aL nl cL, .slice aD nd cD, .slice aS nq cS, .int .i64 pu, .int .i64 ru], .pointer (some ⟨g1, 0, none⟩), .pointer (some ⟨g2, 0, none⟩), .bool false, .pointer none, .int .i64 10, .pointer (some ⟨g3, 0, none⟩), .bool false, undef, undef, undef, undef, undef, undef, undef, undef, undef, undef, undef, .bool true, .bool false, .agg #[.int .i64 r, .int .i64 s, .int .i64 b, .int .i64 o, .int .i64 c, .int .i64 y, .int .i64 z], .bool true, .bool false, .bool false, .pointer (some ⟨g2, 0, none⟩), .slice aL nl cL, .int .i64 ((nl : Nat) : Int), .bool false, .bool false, .bool false, .pointer (some ⟨g2, 1, none⟩), .slice aD nd cD, .int .i64 ((nd : Nat) : Int), .bool false, .bool false, .bool false, .pointer (some ⟨g2, 2, none⟩), .slice aS nq cS, .int .i64 ((nq : Nat) : Int), .bool false, .bool false, .tuple #[.pointer none, .int .i64 10], .agg #[.int .i64 r, .int .i64 s, .int .i64 b, .int .i64 o, .int .i64 c, .int .i64 y, .int .i64 z], .agg #[.slice aL nl cL, .slice aD nd cD, .slice aS nq cS, .int .i64 pu, .int .i64 ru], .tuple #[.pointer none, .int .i64 10], .pointer none, .int .i64 10, .agg #[.int .i64 r, .int .i64 s, .int .i64 b, .int .i64 o, .int .i64 c, .int .i64 y, .int .i64 z], .bool true, .bool false, undef, undef, undef, undef, undef, undef, .pointer (some ⟨g1, 0, none⟩), .agg #[.int .i64 r, .int .i64 s, .int .i64 b, .int .i64 o, .int .i64 c], (uf1 0), (uf1 1), (uf1 2), (uf1 3), (uf1 4), (uf1 5), (uf1 6), (uf1 7), (uf1 8), (uf1 9), (uf1 10), (uf1 11), (uf1 12), (uf1 13), (uf1 14), (uf1 15), (uf1 16), (uf1 17), (uf1 18), (uf1 19), (uf1 20), (uf1 21), (uf1 22), (uf1 23), (uf1 24), (uf1 25), (uf1 26), (uf1 27), (uf1 28), (uf1 29), (uf1 30), (uf1 31), (uf1 32), (uf1 33), (uf1 34), (uf1 35), (uf1 36), (uf1 37), undef, undef, undef, undef, undef, undef, undef, undef, undef, undef, undef, undef, undef, undef, undef, undef, undef, undef, undef, undef, undef, undef, undef, undef, undef, undef, undef, undef, undef, undef, undef, undef, undef, undef, undef, undef, undef, undef, undef, undef, undef, undef, undef, undef, undef, undef, undef, undef, undef, undef, undef, undef, undef, undef, undef, undef, undef, undef, undef, undef, undef, undef, undef, undef, undef, undef, undef, undef, undef, undef, undef, undef, undef, undef, undef, undef, undef, undef, undef, undef, undef, undef, undef, undef, undef, undef, undef, undef, undef, undef, undef, undef, undef, undef, undef, undef, undef, undef, undef, undef, undef, undef, undef, undef, undef, undef, undef, undef, undef, undef, undef, undef, undef, undef, undef, undef, undef, undef, undef, undef, undef, undef, undef, undef, undef, undef], defers := [] } ∧ Hs [] w0 w' [.blk g3 #[.int .i64 r, .int .i64 s, .int .i64 b, .int .i64 o, .int .i64 c] 67, .blk g2 #[.slice aL nl cL, .slice aD nd cD, .slice aS nq cS, .int .i64 pu, .int .i64 ru] 142, .blk g1 #[.int .i64 r, .int .i64 s, .int .i64 b, .int .i64 o, .int .i64 c, .int .i64 y, .int .i64 z] 69]) ?_ ?_
          · skip
            refine x_region_whole (fun w' => Hs [] w0 w' [.blk g3 #[.int .i64 r, .int .i64 s, .int .i64 b, .int .i64 o, .int .i64 c] 67, .blk g2 #[.slice aL nl cL, .slice aD nd cD, .slice aS nq cS, .int .i64 pu, .int .i64 ru] 142, .blk g1 #[.int .i64 r, .int .i64 s, .int .i64 b, .int .i64 o, .int .i64 c, .int .i64 y, .int .i64 z] 69]) (by kernel_rfl) (by kernel_rfl) (by kernel_rfl) H.drew ?_
            refine q_val (.pointer (some ⟨g2, 0, none⟩)) (by kernel_rfl) (fun _ => by kernel_rfl) ?_
            refine q_load1 1 g2 0 #[.slice aL nl cL, .slice aD nd cD, .slice aS nq cS, .int .i64 pu, .int .i64 ru] 142 (.slice aL nl cL) (by kernel_rfl) (by kernel_rfl) (by kernel_rfl) (fun _ => by kernel_rfl) ?_
            refine q_val (.int .i64 ((nl : Nat) : Int)) (by kernel_rfl) (fun _ => by kernel_rfl) ?_
            refine q_loadn (t := 69) 2 g1 0 #[.int .i64 r, .int .i64 s, .int .i64 b, .int .i64 o, .int .i64 c, .int .i64 y, .int .i64 z] 69 [.int .i64 r, .int .i64 s, .int .i64 b, .int .i64 o, .int .i64 c, .int .i64 y, .int .i64 z] (by kernel_rfl) (by kernel_rfl) (by kernel_rfl) (by kernel_rfl) (by kernel_rfl) ?_
            refine q_callB (.int .i64 ((sn : Nat) : Int)) (by kernel_rfl) (fun _ => by kernel_rfl) (fun _ => (seen_of hL _)) ?_
            refine q_val (.bool (decide (((nl : Nat) : Int) = ((sn : Nat) : Int)))) (by kernel_rfl) (fun _ => by kernel_rfl) ?_
            refine q_val (.bool (decide (((nl : Nat) : Int) = ((sn : Nat) : Int)))) (by kernel_rfl) (fun _ => by kernel_rfl) ?_
            cases h5 : decide (((nl : Nat) : Int) = ((sn : Nat) : Int))
            · skip
              have h5p := of_decide_eq_false h5
              refine q_skip (by kernel_rfl) ?_
              refine q_skip (by kernel_rfl) ?_
              refine q_skip (by kernel_rfl) ?_
              refine q_skip (by kernel_rfl) ?_
              refine q_skip (by kernel_rfl) ?_
              refine q_skip (by kernel_rfl) ?_
              refine q_val (.bool false) (by kernel_rfl) (fun _ => by kernel_rfl) ?_
              refine q_val (.bool false) (by kernel_rfl) (fun _ => by kernel_rfl) ?_
              refine q_skip (by kernel_rfl) ?_
              refine q_skip (by kernel_rfl) ?_
              refine q_skip (by kernel_rfl) ?_
              refine q_val (.bool false) (by kernel_rfl) (fun _ => by kernel_rfl) ?_
              refine q_val (.bool false) (by kernel_rfl) (fun _ => by kernel_rfl) ?_
              refine q_skip (by kernel_rfl) ?_
              refine q_skip (by kernel_rfl) ?_
              refine q_skip (by kernel_rfl) ?_
              refine q_skip (by kernel_rfl) ?_
              refine q_skip (by kernel_rfl) ?_
              refine q_val (.bool false) (by kernel_rfl) (fun _ => by kernel_rfl) ?_
              refine q_val (.bool false) (by kernel_rfl) (fun _ => by kernel_rfl) ?_
              refine q_skip (by kernel_rfl) ?_
              refine q_skip (by kernel_rfl) ?_
              refine q_skip (by kernel_rfl) ?_
              refine q_val (.bool false) (by kernel_rfl) (fun _ => by kernel_rfl) ?_
              refine q_val (.bool false) (by kernel_rfl) (fun _ => by kernel_rfl) ?_
              refine q_skip (by kernel_rfl) ?_
              refine q_skip (by kernel_rfl) ?_
              refine q_skip (by kernel_rfl) ?_
              refine q_skip (by kernel_rfl) ?_
              refine q_skip (by kernel_rfl) ?_
              refine q_val (.bool false) (by kernel_rfl) (fun _ => by kernel_rfl) ?_
              refine q_val (.bool false) (by kernel_rfl) (fun _ => by kernel_rfl) ?_
              refine q_nil ?_
              clear H
              intro v9 H
              refine x_frame' { tmps := #[.agg #[.int .i64 r, .int .i64 s, .int .i64 b, .int .i64 o, .int .i64 c, .int .i64 y, .int .i64 z], .agg #[.slice aL nl cL, .slice aD nd cD, .slice aS nq cS, .int .i64 pu, .int .i64 ru], .pointer (some ⟨g1, 0, none⟩), .pointer (some ⟨g2, 0, none⟩), .bool false, .pointer none, .int .i64 10, .pointer (some ⟨g3, 0, none⟩), .bool false, undef, undef, undef, undef, undef, undef, undef, undef, undef, undef, undef, .bool true, .bool false, .agg #[.int .i64 r, .int .i64 s, .int .i64 b, .int .i64 o, .int .i64 c, .int .i64 y, .int .i64 z], .bool true, .bool false, .bool false, .pointer (some ⟨g2, 0, none⟩), .slice aL nl cL, .int .i64 ((nl : Nat) : Int), .bool false, .bool false, .bool false, .pointer (some ⟨g2, 1, none⟩), .slice aD nd cD, .int .i64 ((nd : Nat) : Int), .bool false, .bool false, .bool false, .pointer (some ⟨g2, 2, none⟩), .slice aS nq cS, .int .i64 ((nq : Nat) : Int), .bool false, .bool false, .tuple #[.pointer none, .int .i64 10], .agg #[.int .i64 r, .int .i64 s, .int .i64 b, .int .i64 o, .int .i64 c, .int .i64 y, .int .i64 z], .agg #[.slice aL nl cL, .slice aD nd cD, .slice aS nq cS, .int .i64 pu, .int .i64 ru], .tuple #[.pointer none, .int .i64 10], .pointer none, .int .i64 10, .agg #[.int .i64 r, .int .i64 s, .int .i64 b, .int .i64 o, .int .i64 c, .int .i64 y, .int .i64 z], .bool true, .bool false, undef, undef, undef, undef, undef, undef, .pointer (some ⟨g1, 0, none⟩), .agg #[.int .i64 r, .int .i64 s, .int .i64 b, .int .i64 o, .int .i64 c], .pointer (some ⟨g2, 0, none⟩), .slice aL nl cL, .int .i64 ((nl : Nat) : Int), .agg #[.int .i64 r, .int .i64 s, .int .i64 b, .int .i64 o, .int .i64 c, .int .i64 y, .int .i64 z], .int .i64 ((sn : Nat) : Int), .bool false, .bool false, undef, undef, undef, undef, undef, undef, .bool false, .bool false, undef, undef, undef, .bool false, .bool false, undef, undef, undef, undef, undef, .bool false, .bool false, undef, undef, undef, .bool false, .bool false, undef, undef, undef, undef, undef, .bool false, undef, undef, undef, undef, undef, undef, undef, undef, undef, undef, undef, undef, undef, undef, undef, undef, undef, undef, undef, undef, undef, undef, undef, undef, undef, undef, undef, undef, undef, undef, undef, undef, undef, undef, undef, undef, undef, undef, undef, undef, undef, undef, undef, undef, undef, undef, undef, undef, undef, undef, undef, undef, undef, undef, undef, undef, undef, undef, undef, undef, undef, undef, undef, undef, undef, undef, undef, undef, undef, undef, undef, undef, undef, undef, undef, undef, undef, undef, undef, undef, undef, undef, undef, undef, undef, undef, undef, undef, undef, undef, undef, undef, undef, undef, undef, undef, undef, undef, undef, undef, undef, undef, undef, undef, undef, undef, undef, undef, undef, undef, undef, undef, undef, undef, undef, undef, undef, undef, undef, undef, undef, undef, undef, undef, undef, undef], defers := [] } (by kernel_rfl) ?_
              refine x_then ?_
              exact ⟨(nthV [.pointer (some ⟨g2, 0, none⟩), .slice aL nl cL, .int .i64 ((nl : Nat) : Int), .agg #[.int .i64 r, .int .i64 s, .int .i64 b, .int .i64 o, .int .i64 c, .int .i64 y, .int .i64 z], .int .i64 ((sn : Nat) : Int), .bool false, .bool false, undef, undef, undef, undef, undef, undef, .bool false, .bool false, undef, undef, undef, .bool false, .bool false, undef, undef, undef, undef, undef, .bool false, .bool false, undef, undef, undef, .bool false, .bool false, undef, undef, undef, undef, undef, .bool false]), (by kernel_rfl), H⟩
            · skip
              have h5p := of_decide_eq_true h5
              refine q_val (.pointer (some ⟨g2, 2, none⟩)) (by kernel_rfl) (fun _ => by kernel_rfl) ?_
              refine q_load1 1 g2 2 #[.slice aL nl cL, .slice aD nd cD, .slice aS nq cS, .int .i64 pu, .int .i64 ru] 142 (.slice aS nq cS) (by kernel_rfl) (by kernel_rfl) (by kernel_rfl) (fun _ => by kernel_rfl) ?_
              refine q_val (.int .i64 ((nq : Nat) : Int)) (by kernel_rfl) (fun _ => by kernel_rfl) ?_
              refine q_val (.pointer (some ⟨g3, 0, none⟩)) (by kernel_rfl) (fun _ => by kernel_rfl) ?_
              refine q_load1 0 g3 0 #[.int .i64 r, .int .i64 s, .int .i64 b, .int .i64 o, .int .i64 c] 67 (.int .i64 r) (by kernel_rfl) (by kernel_rfl) (by kernel_rfl) (fun _ => by kernel_rfl) ?_
              refine q_val (.bool (decide (((nq : Nat) : Int) = r))) (by kernel_rfl) (fun _ => by kernel_rfl) ?_
              refine q_val (.bool (decide (((nq : Nat) : Int) = r))) (by kernel_rfl) (fun _ => by kernel_rfl) ?_
              refine q_val (.bool (decide (((nq : Nat) : Int) = r))) (by kernel_rfl) (fun _ => by kernel_rfl) ?_
              cases h6 : decide (((nq : Nat) : Int) = r)
              · skip
                have h6p := of_decide_eq_false h6
                refine q_skip (by kernel_rfl) ?_
                refine q_skip (by kernel_rfl) ?_
                refine q_skip (by kernel_rfl) ?_
                refine q_val (.bool false) (by kernel_rfl) (fun _ => by kernel_rfl) ?_
                refine q_val (.bool false) (by kernel_rfl) (fun _ => by kernel_rfl) ?_
                refine q_skip (by kernel_rfl) ?_
                refine q_skip (by kernel_rfl) ?_
                refine q_skip (by kernel_rfl) ?_
                refine q_skip (by kernel_rfl) ?_
                refine q_skip (by kernel_rfl) ?_
                refine q_val (.bool false) (by kernel_rfl) (fun _ => by kernel_rfl) ?_
                refine q_val (.bool false) (by kernel_rfl) (fun _ => by kernel_rfl) ?_
                refine q_skip (by kernel_rfl) ?_
                refine q_skip (by kernel_rfl) ?_
                refine q_skip (by kernel_rfl) ?_
                refine q_val (.bool false) (by kernel_rfl) (fun _ => by kernel_rfl) ?_
                refine q_val (.bool false) (by kernel_rfl) (fun _ => by kernel_rfl) ?_
                refine q_skip (by kernel_rfl) ?_
                refine q_skip (by kernel_rfl) ?_
                refine q_skip (by kernel_rfl) ?_
                refine q_skip (by kernel_rfl) ?_
                refine q_skip (by kernel_rfl) ?_
                refine q_val (.bool false) (by kernel_rfl) (fun _ => by kernel_rfl) ?_
                refine q_val (.bool false) (by kernel_rfl) (fun _ => by kernel_rfl) ?_
                refine q_nil ?_
                clear H
                intro v10 H
                refine x_frame' { tmps := #[.agg #[.int .i64 r, .int .i64 s, .int .i64 b, .int .i64 o, .int .i64 c, .int .i64 y, .int .i64 z], .agg #[.slice aL nl cL, .slice aD nd cD, .slice aS nq cS, .int .i64 pu, .int .i64 ru], .pointer (some ⟨g1, 0, none⟩), .pointer (some ⟨g2, 0, none⟩), .bool false, .pointer none, .int .i64 10, .pointer (some ⟨g3, 0, none⟩), .bool false, undef, undef, undef, undef, undef, undef, undef, undef, undef, undef, undef, .bool true, .bool false, .agg #[.int .i64 r, .int .i64 s, .int .i64 b, .int .i64 o, .int .i64 c, .int .i64 y, .int .i64 z], .bool true, .bool false, .bool false, .pointer (some ⟨g2, 0, none⟩), .slice aL nl cL, .int .i64 ((nl : Nat) : Int), .bool false, .bool false, .bool false, .pointer (some ⟨g2, 1, none⟩), .slice aD nd cD, .int .i64 ((nd : Nat) : Int), .bool false, .bool false, .bool false, .pointer (some ⟨g2, 2, none⟩), .slice aS nq cS, .int .i64 ((nq : Nat) : Int), .bool false, .bool false, .tuple #[.pointer none, .int .i64 10], .agg #[.int .i64 r, .int .i64 s, .int .i64 b, .int .i64 o, .int .i64 c, .int .i64 y, .int .i64 z], .agg #[.slice aL nl cL, .slice aD nd cD, .slice aS nq cS, .int .i64 pu, .int .i64 ru], .tuple #[.pointer none, .int .i64 10], .pointer none, .int .i64 10, .agg #[.int .i64 r, .int .i64 s, .int .i64 b, .int .i64 o, .int .i64 c, .int .i64 y, .int .i64 z], .bool true, .bool false, undef, undef, undef, undef, undef, undef, .pointer (some ⟨g1, 0, none⟩), .agg #[.int .i64 r, .int .i64 s, .int .i64 b, .int .i64 o, .int .i64 c], .pointer (some ⟨g2, 0, none⟩), .slice aL nl cL, .int .i64 ((nl : Nat) : Int), .agg #[.int .i64 r, .int .i64 s, .int .i64 b, .int .i64 o, .int .i64 c, .int .i64 y, .int .i64 z], .int .i64 ((sn : Nat) : Int), .bool true, .bool true, .pointer (some ⟨g2, 2, none⟩), .slice aS nq cS, .int .i64 ((nq : Nat) : Int), .pointer (some ⟨g3, 0, none⟩), .int .i64 r, .bool false, .bool false, .bool false, undef, undef, undef, .bool false, .bool false, undef, undef, undef, undef, undef, .bool false, .bool false, undef, undef, undef, .bool false, .bool false, undef, undef, undef, undef, undef, .bool false, undef, undef, undef, undef, undef, undef, undef, undef, undef, undef, undef, undef, undef, undef, undef, undef, undef, undef, undef, undef, undef, undef, undef, undef, undef, undef, undef, undef, undef, undef, undef, undef, undef, undef, undef, undef, undef, undef, undef, undef, undef, undef, undef, undef, undef, undef, undef, undef, undef, undef, undef, undef, undef, undef, undef, undef, undef, undef, undef, undef, undef, undef, undef, undef, undef, undef, undef, undef, undef, undef, undef, undef, undef, undef, undef, undef, undef, undef, undef, undef, undef, undef, undef, undef, undef, undef, undef, undef, undef, undef, undef, undef, undef, undef, undef, undef, undef, undef, undef, undef, undef, undef, undef, undef, undef, undef, undef, undef, undef, undef, undef, undef, undef, undef, undef, undef, undef, undef, undef, undef, undef, undef, undef, undef, undef, undef], defers := [] } (by kernel_rfl) ?_
                refine x_then ?_
                exact ⟨(nthV [.pointer (some ⟨g2, 0, none⟩), .slice aL nl cL, .int .i64 ((nl : Nat) : Int), .agg #[.int .i64 r, .int .i64 s, .int .i64 b, .int .i64 o, .int .i64 c, .int .i64 y, .int .i64 z], .int .i64 ((sn : Nat) : Int), .bool true, .bool true, .pointer (some ⟨g2, 2, none⟩), .slice aS nq cS, .int .i64 ((nq : Nat) : Int), .pointer (some ⟨g3, 0, none⟩), .int .i64 r, .bool false, .bool false, .bool false, undef, undef, undef, .bool false, .bool false, undef, undef, undef, undef, undef, .bool false, .bool false, undef, undef, undef, .bool false, .bool false, undef, undef, undef, undef, undef, .bool false]), (by kernel_rfl), H⟩
              · skip
                have h6p := of_decide_eq_true h6
                refine q_val (.pointer (some ⟨g2, 3, none⟩)) (by kernel_rfl) (fun _ => by kernel_rfl) ?_
                refine q_load1 1 g2 3 #[.slice aL nl cL, .slice aD nd cD, .slice aS nq cS, .int .i64 pu, .int .i64 ru] 142 (.int .i64 pu) (by kernel_rfl) (by kernel_rfl) (by kernel_rfl) (fun _ => by kernel_rfl) ?_
                refine q_val (.bool (decide (0 ≤ pu))) (by kernel_rfl) (fun _ => by kernel_rfl) ?_
                refine q_val (.bool (decide (0 ≤ pu))) (by kernel_rfl) (fun _ => by kernel_rfl) ?_
                refine q_val (.bool (decide (0 ≤ pu))) (by kernel_rfl) (fun _ => by kernel_rfl) ?_
                cases h7 : decide (0 ≤ pu)
                · skip
                  have h7p := of_decide_eq_false h7
                  refine q_skip (by kernel_rfl) ?_
                  refine q_skip (by kernel_rfl) ?_
                  refine q_skip (by kernel_rfl) ?_
                  refine q_skip (by kernel_rfl) ?_
                  refine q_skip (by kernel_rfl) ?_
                  refine q_val (.bool false) (by kernel_rfl) (fun _ => by kernel_rfl) ?_
                  refine q_val (.bool false) (by kernel_rfl) (fun _ => by kernel_rfl) ?_
                  refine q_skip (by kernel_rfl) ?_
                  refine q_skip (by kernel_rfl) ?_
                  refine q_skip (by kernel_rfl) ?_
                  refine q_val (.bool false) (by kernel_rfl) (fun _ => by kernel_rfl) ?_
                  refine q_val (.bool false) (by kernel_rfl) (fun _ => by kernel_rfl) ?_
                  refine q_skip (by kernel_rfl) ?_
                  refine q_skip (by kernel_rfl) ?_
                  refine q_skip (by kernel_rfl) ?_
                  refine q_skip (by kernel_rfl) ?_
                  refine q_skip (by kernel_rfl) ?_
                  refine q_val (.bool false) (by kernel_rfl) (fun _ => by kernel_rfl) ?_
                  refine q_val (.bool false) (by kernel_rfl) (fun _ => by kernel_rfl) ?_
                  refine q_nil ?_
                  clear H
                  intro v11 H
                  refine x_frame' { tmps := #[.agg #[.int .i64 r, .int .i64 s, .int .i64 b, .int .i64 o, .int .i64 c, .int .i64 y, .int .i64 z], .agg #[.slice aL nl cL, .slice aD nd cD, .slice aS nq cS, .int .i64 pu, .int .i64 ru], .pointer (some ⟨g1, 0, none⟩), .pointer (some ⟨g2, 0, none⟩), .bool false, .pointer none, .int .i64 10, .pointer (some ⟨g3, 0, none⟩), .bool false, undef, undef, undef, undef, undef, undef, undef, undef, undef, undef, undef, .bool true, .bool false, .agg #[.int .i64 r, .int .i64 s, .int .i64 b, .int .i64 o, .int .i64 c, .int .i64 y, .int .i64 z], .bool true, .bool false, .bool false, .pointer (some ⟨g2, 0, none⟩), .slice aL nl cL, .int .i64 ((nl : Nat) : Int), .bool false, .bool false, .bool false, .pointer (some ⟨g2, 1, none⟩), .slice aD nd cD, .int .i64 ((nd : Nat) : Int), .bool false, .bool false, .bool false, .pointer (some ⟨g2, 2, none⟩), .slice aS nq cS, .int .i64 ((nq : Nat) : Int), .bool false, .bool false, .tuple #[.pointer none, .int .i64 10], .agg #[.int .i64 r, .int .i64 s, .int .i64 b, .int .i64 o, .int .i64 c, .int .i64 y, .int .i64 z], .agg #[.slice aL nl cL, .slice aD nd cD, .slice aS nq cS, .int .i64 pu, .int .i64 ru], .tuple #[.pointer none, .int .i64 10], .pointer none, .int .i64 10, .agg #[.int .i64 r, .int .i64 s, .int .i64 b, .int .i64 o, .int .i64 c, .int .i64 y, .int .i64 z], .bool true, .bool false, undef, undef, undef, undef, undef, undef, .pointer (some ⟨g1, 0, none⟩), .agg #[.int .i64 r, .int .i64 s, .int .i64 b, .int .i64 o, .int .i64 c], .pointer (some ⟨g2, 0, none⟩), .slice aL nl cL, .int .i64 ((nl : Nat) : Int), .agg #[.int .i64 r, .int .i64 s, .int .i64 b, .int .i64 o, .int .i64 c, .int .i64 y, .int .i64 z], .int .i64 ((sn : Nat) : Int), .bool true, .bool true, .pointer (some ⟨g2, 2, none⟩), .slice aS nq cS, .int .i64 ((nq : Nat) : Int), .pointer (some ⟨g3, 0, none⟩), .int .i64 r, .bool true, .bool true, .bool true, .pointer (some ⟨g2, 3, none⟩), .int .i64 pu, .bool false, .bool false, .bool false, undef, undef, undef, undef, undef, .bool false, .bool false, undef, undef, undef, .bool false, .bool false, undef, undef, undef, undef, undef, .bool false, undef, undef, undef, undef, undef, undef, undef, undef, undef, undef, undef, undef, undef, undef, undef, undef, undef, undef, undef, undef, undef, undef, undef, undef, undef, undef, undef, undef, undef, undef, undef, undef, undef, undef, undef, undef, undef, undef, undef, undef, undef, undef, undef, undef, undef, undef, undef, undef, undef, undef, undef, undef, undef, undef, undef, undef, undef, undef, undef, undef, undef, undef, undef, undef, undef, undef, undef, undef, undef, undef, undef, undef, undef, undef, undef, undef, undef, undef, undef, undef, undef, undef, undef, undef, undef, undef, undef, undef, undef, undef, undef, undef, undef, undef, undef, undef, undef, undef, undef, undef, undef, undef, undef, undef, undef, undef, undef, undef, undef, undef, undef, undef, undef, undef, undef, undef, undef, undef, undef, undef, undef, undef, undef, undef, undef, undef], defers := [] } (by kernel_rfl) ?_
                  refine x_then ?_
                  exact ⟨(nthV [.pointer (some ⟨g2, 0, none⟩), .slice aL nl cL, .int .i64 ((nl : Nat) : Int), .agg #[.int .i64 r, .int .i64 s, .int .i64 b, .int .i64 o, .int .i64 c, .int .i64 y, .int .i64 z], .int .i64 ((sn : Nat) : Int), .bool true, .bool true, .pointer (some ⟨g2, 2, none⟩), .slice aS nq cS, .int .i64 ((nq : Nat) : Int), .pointer (some ⟨g3, 0, none⟩), .int .i64 r, .bool true, .bool true, .bool true, .pointer (some ⟨g2, 3, none⟩), .int .i64 pu, .bool false, .bool false, .bool false, undef, undef, undef, undef, undef, .bool false, .bool false, undef, undef, undef, .bool false, .bool false, undef, undef, undef, undef, undef, .bool false]), (by kernel_rfl), H⟩
                · skip
                  have h7p := of_decide_eq_true h7
                  refine q_val (.pointer (some ⟨g2, 3, none⟩)) (by kernel_rfl) (fun _ => by kernel_rfl) ?_
                  refine q_load1 1 g2 3 #[.slice aL nl cL, .slice aD nd cD, .slice aS nq cS, .int .i64 pu, .int .i64 ru] 142 (.int .i64 pu) (by kernel_rfl) (by kernel_rfl) (by kernel_rfl) (fun _ => by kernel_rfl) ?_
                  refine q_val (.pointer (some ⟨g1, 6, none⟩)) (by kernel_rfl) (fun _ => by kernel_rfl) ?_
                  refine q_load1 2 g1 6 #[.int .i64 r, .int .i64 s, .int .i64 b, .int .i64 o, .int .i64 c, .int .i64 y, .int .i64 z] 69 (.int .i64 z) (by kernel_rfl) (by kernel_rfl) (by kernel_rfl) (fun _ => by kernel_rfl) ?_
                  refine q_val (.bool (decide (pu ≤ z))) (by kernel_rfl) (fun _ => by kernel_rfl) ?_
                  refine q_val (.bool (decide (pu ≤ z))) (by kernel_rfl) (fun _ => by kernel_rfl) ?_
                  refine q_val (.bool (decide (pu ≤ z))) (by kernel_rfl) (fun _ => by kernel_rfl) ?_
                  cases h8 : decide (pu ≤ z)
                  · skip
                    have h8p := of_decide_eq_false h8
                    refine q_skip (by kernel_rfl) ?_
                    refine q_skip (by kernel_rfl) ?_
                    refine q_skip (by kernel_rfl) ?_
                    refine q_val (.bool false) (by kernel_rfl) (fun _ => by kernel_rfl) ?_
                    refine q_val (.bool false) (by kernel_rfl) (fun _ => by kernel_rfl) ?_
                    refine q_skip (by kernel_rfl) ?_
                    refine q_skip (by kernel_rfl) ?_
                    refine q_skip (by kernel_rfl) ?_
                    refine q_skip (by kernel_rfl) ?_
                    refine q_skip (by kernel_rfl) ?_
                    refine q_val (.bool false) (by kernel_rfl) (fun _ => by kernel_rfl) ?_
                    refine q_val (.bool false) (by kernel_rfl) (fun _ => by kernel_rfl) ?_
                    refine q_nil ?_
                    clear H
                    intro v12 H
                    refine x_frame' { tmps := #[.agg #[.int .i64 r, .int .i64 s, .int .i64 b, .int .i64 o, .int .i64 c, .int .i64 y, .int .i64 z], .agg #[.slice aL nl cL, .slice aD nd cD, .slice aS nq cS, .int .i64 pu, .int .i64 ru], .pointer (some ⟨g1, 0, none⟩), .pointer (some ⟨g2, 0, none⟩), .bool false, .pointer none, .int .i64 10, .pointer (some ⟨g3, 0, none⟩), .bool false, undef, undef, undef, undef, undef, undef, undef, undef, undef, undef, undef, .bool true, .bool false, .agg #[.int .i64 r, .int .i64 s, .int .i64 b, .int .i64 o, .int .i64 c, .int .i64 y, .int .i64 z], .bool true, .bool false, .bool false, .pointer (some ⟨g2, 0, none⟩), .slice aL nl cL, .int .i64 ((nl : Nat) : Int), .bool false, .bool false, .bool false, .pointer (some ⟨g2, 1, none⟩), .slice aD nd cD, .int .i64 ((nd : Nat) : Int), .bool false, .bool false, .bool false, .pointer (some ⟨g2, 2, none⟩), .slice aS nq cS, .int .i64 ((nq : Nat) : Int), .bool false, .bool false, .tuple #[.pointer none, .int .i64 10], .agg #[.int .i64 r, .int .i64 s, .int .i64 b, .int .i64 o, .int .i64 c, .int .i64 y, .int .i64 z], .agg #[.slice aL nl cL, .slice aD nd cD, .slice aS nq cS, .int .i64 pu, .int .i64 ru], .tuple #[.pointer none, .int .i64 10], .pointer none, .int .i64 10, .agg #[.int .i64 r, .int .i64 s, .int .i64 b, .int .i64 o, .int .i64 c, .int .i64 y, .int .i64 z], .bool true, .bool false, undef, undef, undef, undef, undef, undef, .pointer (some ⟨g1, 0, none⟩), .agg #[.int .i64 r, .int .i64 s, .int .i64 b, .int .i64 o, .int .i64 c], .pointer (some ⟨g2, 0, none⟩), .slice aL nl cL, .int .i64 ((nl : Nat) : Int), .agg #[.int .i64 r, .int .i64 s, .int .i64 b, .int .i64 o, .int .i64 c, .int .i64 y, .int .i64 z], .int .i64 ((sn : Nat) : Int), .bool true, .bool true, .pointer (some ⟨g2, 2, none⟩), .slice aS nq cS, .int .i64 ((nq : Nat) : Int), .pointer (some ⟨g3, 0, none⟩), .int .i64 r, .bool true, .bool true, .bool true, .pointer (some ⟨g2, 3, none⟩), .int .i64 pu, .bool true, .bool true, .bool true, .pointer (some ⟨g2, 3, none⟩), .int .i64 pu, .pointer (some ⟨g1, 6, none⟩), .int .i64 z, .bool false, .bool false, .bool false, undef, undef, undef, .bool false, .bool false, undef, undef, undef, undef, undef, .bool false, undef, undef, undef, undef, undef, undef, undef, undef, undef, undef, undef, undef, undef, undef, undef, undef, undef, undef, undef, undef, undef, undef, undef, undef, undef, undef, undef, undef, undef, undef, undef, undef, undef, undef, undef, undef, undef, undef, undef, undef, undef, undef, undef, undef, undef, undef, undef, undef, undef, undef, undef, undef, undef, undef, undef, undef, undef, undef, undef, undef, undef, undef, undef, undef, undef, undef, undef, undef, undef, undef, undef, undef, undef, undef, undef, undef, undef, undef, undef, undef, undef, undef, undef, undef, undef, undef, undef, undef, undef, undef, undef, undef, undef, undef, undef, undef, undef, undef, undef, undef, undef, undef, undef, undef, undef, undef, undef, undef, undef, undef, undef, undef, undef, undef, undef, undef, undef, undef, undef, undef, undef, undef, undef, undef, undef, undef], defers := [] } (by kernel_rfl) ?_
                    refine x_then ?_
                    exact ⟨(nthV [.pointer (some ⟨g2, 0, none⟩), .slice aL nl cL, .int .i64 ((nl : Nat) : Int), .agg #[.int .i64 r, .int .i64 s, .int .i64 b, .int .i64 o, .int .i64 c, .int .i64 y, .int .i64 z], .int .i64 ((sn : Nat) : Int), .bool true, .bool true, .pointer (some ⟨g2, 2, none⟩), .slice aS nq cS, .int .i64 ((nq : Nat) : Int), .pointer (some ⟨g3, 0, none⟩), .int .i64 r, .bool true, .bool true, .bool true, .pointer (some ⟨g2, 3, none⟩), .int .i64 pu, .bool true, .bool true, .bool true, .pointer (some ⟨g2, 3, none⟩), .int .i64 pu, .pointer (some ⟨g1, 6, none⟩), .int .i64 z, .bool false, .bool false, .bool false, undef, undef, undef, .bool false, .bool false, undef, undef, undef, undef, undef, .bool false]), (by kernel_rfl), H⟩
                  · skip
                    have h8p := of_decide_eq_true h8
                    refine q_val (.pointer (some ⟨g2, 4, none⟩)) (by kernel_rfl) (fun _ => by kernel_rfl) ?_
                    refine q_load1 1 g2 4 #[.slice aL nl cL, .slice aD nd cD, .slice aS nq cS, .int .i64 pu, .int .i64 ru] 142 (.int .i64 ru) (by kernel_rfl) (by kernel_rfl) (by kernel_rfl) (fun _ => by kernel_rfl) ?_
                    refine q_val (.bool (decide (0 ≤ ru))) (by kernel_rfl) (fun _ => by kernel_rfl) ?_
                    refine q_val (.bool (decide (0 ≤ ru))) (by kernel_rfl) (fun _ => by kernel_rfl) ?_
                    refine q_val (.bool (decide (0 ≤ ru))) (by kernel_rfl) (fun _ => by kernel_rfl) ?_
                    cases h9 : decide (0 ≤ ru)
                    · skip
                      have h9p := of_decide_eq_false h9
                      refine q_skip (by kernel_rfl) ?_
                      refine q_skip (by kernel_rfl) ?_
                      refine q_skip (by kernel_rfl) ?_
                      refine q_skip (by kernel_rfl) ?_
                      refine q_skip (by kernel_rfl) ?_
                      refine q_val (.bool false) (by kernel_rfl) (fun _ => by kernel_rfl) ?_
                      refine q_val (.bool false) (by kernel_rfl) (fun _ => by kernel_rfl) ?_
                      refine q_nil ?_
                      clear H
                      intro v13 H
                      refine x_frame' { tmps := #[.agg #[.int .i64 r, .int .i64 s, .int .i64 b, .int .i64 o, .int .i64 c, .int .i64 y, .int .i64 z], .agg #[.slice aL nl cL, .slice aD nd cD, .slice aS nq cS, .int .i64 pu, .int .i64 ru], .pointer (some ⟨g1, 0, none⟩), .pointer (some ⟨g2, 0, none⟩), .bool false, .pointer none, .int .i64 10, .pointer (some ⟨g3, 0, none⟩), .bool false, undef, undef, undef, undef, undef, undef, undef, undef, undef, undef, undef, .bool true, .bool false, .agg #[.int .i64 r, .int .i64 s, .int .i64 b, .int .i64 o, .int .i64 c, .int .i64 y, .int .i64 z], .bool true, .bool false, .bool false, .pointer (some ⟨g2, 0, none⟩), .slice aL nl cL, .int .i64 ((nl : Nat) : Int), .bool false, .bool false, .bool false, .pointer (some ⟨g2, 1, none⟩), .slice aD nd cD, .int .i64 ((nd : Nat) : Int), .bool false, .bool false, .bool false, .pointer (some ⟨g2, 2, none⟩), .slice aS nq cS, .int .i64 ((nq : Nat) : Int), .bool false, .bool false, .tuple #[.pointer none, .int .i64 10], .agg #[.int .i64 r, .int .i64 s, .int .i64 b, .int .i64 o, .int .i64 c, .int .i64 y, .int .i64 z], .agg #[.slice aL nl cL, .slice aD nd cD, .slice aS nq cS, .int .i64 pu, .int .i64 ru], .tuple #[.pointer none, .int .i64 10], .pointer none, .int .i64 10, .agg #[.int .i64 r, .int .i64 s, .int .i64 b, .int .i64 o, .int .i64 c, .int .i64 y, .int .i64 z], .bool true, .bool false, undef, undef, undef, undef, undef, undef, .pointer (some ⟨g1, 0, none⟩), .agg #[.int .i64 r, .int .i64 s, .int .i64 b, .int .i64 o, .int .i64 c], .pointer (some ⟨g2, 0, none⟩), .slice aL nl cL, .int .i64 ((nl : Nat) : Int), .agg #[.int .i64 r, .int .i64 s, .int .i64 b, .int .i64 o, .int .i64 c, .int .i64 y, .int .i64 z], .int .i64 ((sn : Nat) : Int), .bool true, .bool true, .pointer (some ⟨g2, 2, none⟩), .slice aS nq cS, .int .i64 ((nq : Nat) : Int), .pointer (some ⟨g3, 0, none⟩), .int .i64 r, .bool true, .bool true, .bool true, .pointer (some ⟨g2, 3, none⟩), .int .i64 pu, .bool true, .bool true, .bool true, .pointer (some ⟨g2, 3, none⟩), .int .i64 pu, .pointer (some ⟨g1, 6, none⟩), .int .i64 z, .bool true, .bool true, .bool true, .pointer (some ⟨g2, 4, none⟩), .int .i64 ru, .bool false, .bool false, .bool false, undef, undef, undef, undef, undef, .bool false, undef, undef, undef, undef, undef, undef, undef, undef, undef, undef, undef, undef, undef, undef, undef, undef, undef, undef, undef, undef, undef, undef, undef, undef, undef, undef, undef, undef, undef, undef, undef, undef, undef, undef, undef, undef, undef, undef, undef, undef, undef, undef, undef, undef, undef, undef, undef, undef, undef, undef, undef, undef, undef, undef, undef, undef, undef, undef, undef, undef, undef, undef, undef, undef, undef, undef, undef, undef, undef, undef, undef, undef, undef, undef, undef, undef, undef, undef, undef, undef, undef, undef, undef, undef, undef, undef, undef, undef, undef, undef, undef, undef, undef, undef, undef, undef, undef, undef, undef, undef, undef, undef, undef, undef, undef, undef, undef, undef, undef, undef, undef, undef, undef, undef, undef, undef, undef, undef, undef, undef, undef, undef, undef, undef, undef, undef], defers := [] } (by kernel_rfl) ?_
                      refine x_then ?_
                      exact ⟨(nthV [.pointer (some ⟨g2, 0, none⟩), .slice aL nl cL, .int .i64 ((nl : Nat) : Int), .agg #[.int .i64 r, .int .i64 s, .int .i64 b, .int .i64 o, .int .i64 c, .int .i64 y, .int .i64 z], .int .i64 ((sn : Nat) : Int), .bool true, .bool true, .pointer (some ⟨g2, 2, none⟩), .slice aS nq cS, .int .i64 ((nq : Nat) : Int), .pointer (some ⟨g3, 0, none⟩), .int .i64 r, .bool true, .bool true, .bool true, .pointer (some ⟨g2, 3, none⟩), .int .i64 pu, .bool true, .bool true, .bool true, .pointer (some ⟨g2, 3, none⟩), .int .i64 pu, .pointer (some ⟨g1, 6, none⟩), .int .i64 z, .bool true, .bool true, .bool true, .pointer (some ⟨g2, 4, none⟩), .int .i64 ru, .bool false, .bool false, .bool false, undef, undef, undef, undef, undef, .bool false]), (by kernel_rfl), H⟩
                    · skip
                      have h9p := of_decide_eq_true h9
                      refine q_val (.pointer (some ⟨g2, 4, none⟩)) (by kernel_rfl) (fun _ => by kernel_rfl) ?_
                      refine q_load1 1 g2 4 #[.slice aL nl cL, .slice aD nd cD, .slice aS nq cS, .int .i64 pu, .int .i64 ru] 142 (.int .i64 ru) (by kernel_rfl) (by kernel_rfl) (by kernel_rfl) (fun _ => by kernel_rfl) ?_
                      refine q_val (.pointer (some ⟨g3, 1, none⟩)) (by kernel_rfl) (fun _ => by kernel_rfl) ?_
                      refine q_load1 0 g3 1 #[.int .i64 r, .int .i64 s, .int .i64 b, .int .i64 o, .int .i64 c] 67 (.int .i64 s) (by kernel_rfl) (by kernel_rfl) (by kernel_rfl) (fun _ => by kernel_rfl) ?_
                      refine q_val (.bool (decide (ru ≤ s))) (by kernel_rfl) (fun _ => by kernel_rfl) ?_
                      cases h10 : decide (ru ≤ s)
                      · skip
                        have h10p := of_decide_eq_false h10
                        refine q_val (.bool false) (by kernel_rfl) (fun _ => by kernel_rfl) ?_
                        refine q_val (.bool false) (by kernel_rfl) (fun _ => by kernel_rfl) ?_
                        refine q_nil ?_
                        clear H
                        intro v14 H
                        refine x_frame' { tmps := #[.agg #[.int .i64 r, .int .i64 s, .int .i64 b, .int .i64 o, .int .i64 c, .int .i64 y, .int .i64 z], .agg #[.slice aL nl cL, .slice aD nd cD, .slice aS nq cS, .int .i64 pu, .int .i64 ru], .pointer (some ⟨g1, 0, none⟩), .pointer (some ⟨g2, 0, none⟩), .bool false, .pointer none, .int .i64 10, .pointer (some ⟨g3, 0, none⟩), .bool false, undef, undef, undef, undef, undef, undef, undef, undef, undef, undef, undef, .bool true, .bool false, .agg #[.int .i64 r, .int .i64 s, .int .i64 b, .int .i64 o, .int .i64 c, .int .i64 y, .int .i64 z], .bool true, .bool false, .bool false, .pointer (some ⟨g2, 0, none⟩), .slice aL nl cL, .int .i64 ((nl : Nat) : Int), .bool false, .bool false, .bool false, .pointer (some ⟨g2, 1, none⟩), .slice aD nd cD, .int .i64 ((nd : Nat) : Int), .bool false, .bool false, .bool false, .pointer (some ⟨g2, 2, none⟩), .slice aS nq cS, .int .i64 ((nq : Nat) : Int), .bool false, .bool false, .tuple #[.pointer none, .int .i64 10], .agg #[.int .i64 r, .int .i64 s, .int .i64 b, .int .i64 o, .int .i64 c, .int .i64 y, .int .i64 z], .agg #[.slice aL nl cL, .slice aD nd cD, .slice aS nq cS, .int .i64 pu, .int .i64 ru], .tuple #[.pointer none, .int .i64 10], .pointer none, .int .i64 10, .agg #[.int .i64 r, .int .i64 s, .int .i64 b, .int .i64 o, .int .i64 c, .int .i64 y, .int .i64 z], .bool true, .bool false, undef, undef, undef, undef, undef, undef, .pointer (some ⟨g1, 0, none⟩), .agg #[.int .i64 r, .int .i64 s, .int .i64 b, .int .i64 o, .int .i64 c], .pointer (some ⟨g2, 0, none⟩), .slice aL nl cL, .int .i64 ((nl : Nat) : Int), .agg #[.int .i64 r, .int .i64 s, .int .i64 b, .int .i64 o, .int .i64 c, .int .i64 y, .int .i64 z], .int .i64 ((sn : Nat) : Int), .bool true, .bool true, .pointer (some ⟨g2, 2, none⟩), .slice aS nq cS, .int .i64 ((nq : Nat) : Int), .pointer (some ⟨g3, 0, none⟩), .int .i64 r, .bool true, .bool true, .bool true, .pointer (some ⟨g2, 3, none⟩), .int .i64 pu, .bool true, .bool true, .bool true, .pointer (some ⟨g2, 3, none⟩), .int .i64 pu, .pointer (some ⟨g1, 6, none⟩), .int .i64 z, .bool true, .bool true, .bool true, .pointer (some ⟨g2, 4, none⟩), .int .i64 ru, .bool true, .bool true, .bool true, .pointer (some ⟨g2, 4, none⟩), .int .i64 ru, .pointer (some ⟨g3, 1, none⟩), .int .i64 s, .bool false, .bool false, undef, undef, undef, undef, undef, undef, undef, undef, undef, undef, undef, undef, undef, undef, undef, undef, undef, undef, undef, undef, undef, undef, undef, undef, undef, undef, undef, undef, undef, undef, undef, undef, undef, undef, undef, undef, undef, undef, undef, undef, undef, undef, undef, undef, undef, undef, undef, undef, undef, undef, undef, undef, undef, undef, undef, undef, undef, undef, undef, undef, undef, undef, undef, undef, undef, undef, undef, undef, undef, undef, undef, undef, undef, undef, undef, undef, undef, undef, undef, undef, undef, undef, undef, undef, undef, undef, undef, undef, undef, undef, undef, undef, undef, undef, undef, undef, undef, undef, undef, undef, undef, undef, undef, undef, undef, undef, undef, undef, undef, undef, undef, undef, undef, undef, undef, undef, undef, undef, undef, undef, undef, undef, undef, undef, undef, undef], defers := [] } (by kernel_rfl) ?_
                        refine x_then ?_
                        exact ⟨(nthV [.pointer (some ⟨g2, 0, none⟩), .slice aL nl cL, .int .i64 ((nl : Nat) : Int), .agg #[.int .i64 r, .int .i64 s, .int .i64 b, .int .i64 o, .int .i64 c, .int .i64 y, .int .i64 z], .int .i64 ((sn : Nat) : Int), .bool true, .bool true, .pointer (some ⟨g2, 2, none⟩), .slice aS nq cS, .int .i64 ((nq : Nat) : Int), .pointer (some ⟨g3, 0, none⟩), .int .i64 r, .bool true, .bool true, .bool true, .pointer (some ⟨g2, 3, none⟩), .int .i64 pu, .bool true, .bool true, .bool true, .pointer (some ⟨g2, 3, none⟩), .int .i64 pu, .pointer (some ⟨g1, 6, none⟩), .int .i64 z, .bool true, .bool true, .bool true, .pointer (some ⟨g2, 4, none⟩), .int .i64 ru, .bool true, .bool true, .bool true, .pointer (some ⟨g2, 4, none⟩), .int .i64 ru, .pointer (some ⟨g3, 1, none⟩), .int .i64 s, .bool false, .bool false]), (by kernel_rfl), H⟩
                      · skip
                        have h10p := of_decide_eq_true h10
                        exact absurd hf (by rw [fitsB_mk (by omega) (by omega) (by omega) (by omega) (by omega) (by omega)]; decide)
          · skip
            clear H
            rintro _ v15 ⟨uf1, rfl, H⟩
            refine x_then ?_
            refine x_seq ?_
            refine x_region ?_
            refine x_val (.int .i64 (-1)) (by kernel_rfl) rfl (by kernel_rfl) ?_
            refine x_nil ?_
            refine x_then ?_
            refine x_seq ?_
            refine x_seq ?_
            refine x_region ?_
            refine x_val (.pointer (some ⟨g2, 1, none⟩)) (by kernel_rfl) rfl (by kernel_rfl) ?_
            refine x_load1 H 1 g2 1 #[.slice aL nl cL, .slice aD nd cD, .slice aS nq cS, .int .i64 pu, .int .i64 ru] 142 (.slice aD nd cD) (by kernel_rfl) (by kernel_rfl) (by kernel_rfl) rfl (by kernel_rfl) ?_
            refine x_val (.int .i64 ((nd : Nat) : Int)) (by kernel_rfl) rfl (by kernel_rfl) ?_
            refine x_val (.int .i64 0) (by kernel_rfl) rfl (by kernel_rfl) ?_
            refine x_nil ?_
            refine x_then ?_
            refine x_block ?_
            refine x_loop (G := Nat) (fun (k1 : Nat) a w' => ∃ uf2 : Nat → Value, a = { tmps := #[.agg #[.int .i64 r, .int .i64 s, .int .i64 b, .int .i64 o, .int .i64 c, .int .i64 y, .int .i64 z], .agg #[.slice aL nl cL, .slice aD nd cD, .slice aS nq cS, .int .i64 pu, .int .i64 ru], .pointer (some ⟨g1, 0, none⟩), .pointer (some ⟨g2, 0, none⟩), .bool false, .pointer none, .int .i64 10, .pointer (some ⟨g3, 0, none⟩), .bool false, (uf2 0), undef, (uf2 1), undef, undef, undef, undef, undef, undef, undef, undef, .bool true, .bool false, .agg #[.int .i64 r, .int .i64 s, .int .i64 b, .int .i64 o, .int .i64 c, .int .i64 y, .int .i64 z], .bool true, .bool false, .bool false, .pointer (some ⟨g2, 0, none⟩), .slice aL nl cL, .int .i64 ((nl : Nat) : Int), .bool false, .bool false, .bool false, .pointer (some ⟨g2, 1, none⟩), .slice aD nd cD, .int .i64 ((nd : Nat) : Int), .bool false, .bool false, .bool false, .pointer (some ⟨g2, 2, none⟩), .slice aS nq cS, .int .i64 ((nq : Nat) : Int), .bool false, .bool false, .tuple #[.pointer none, .int .i64 10], .agg #[.int .i64 r, .int .i64 s, .int .i64 b, .int .i64 o, .int .i64 c, .int .i64 y, .int .i64 z], .agg #[.slice aL nl cL, .slice aD nd cD, .slice aS nq cS, .int .i64 pu, .int .i64 ru], .tuple #[.pointer none, .int .i64 10], .pointer none, .int .i64 10, .agg #[.int .i64 r, .int .i64 s, .int .i64 b, .int .i64 o, .int .i64 c, .int .i64 y, .int .i64 z], .bool true, .bool false, undef, undef, undef, undef, undef, undef, .pointer (some ⟨g1, 0, none⟩), .agg #[.int .i64 r, .int .i64 s, .int .i64 b, .int .i64 o, .int .i64 c], (uf1 0), (uf1 1), (uf1 2), (uf1 3), (uf1 4), (uf1 5), (uf1 6), (uf1 7), (uf1 8), (uf1 9), (uf1 10), (uf1 11), (uf1 12), (uf1 13), (uf1 14), (uf1 15), (uf1 16), (uf1 17), (uf1 18), (uf1 19), (uf1 20), (uf1 21), (uf1 22), (uf1 23), (uf1 24), (uf1 25), (uf1 26), (uf1 27), (uf1 28), (uf1 29), (uf1 30), (uf1 31), (uf1 32), (uf1 33), (uf1 34), (uf1 35), (uf1 36), (uf1 37), .pointer (some ⟨g2, 1, none⟩), .slice aD nd cD, .int .i64 ((nd : Nat) : Int), .int .i64 ((k1 : Nat) : Int), (uf2 2), (uf2 3), (uf2 4), (uf2 5), (uf2 6), (uf2 7), (uf2 8), (uf2 9), (uf2 10), (uf2 11), (uf2 12), (uf2 13), (uf2 14), (uf2 15), (uf2 16), (uf2 17), (uf2 18), undef, undef, undef, undef, undef, undef, undef, undef, undef, undef, undef, undef, undef, undef, undef, undef, undef, undef, undef, undef, undef, undef, undef, undef, undef, undef, undef, undef, undef, undef, undef, undef, undef, undef, undef, undef, undef, undef, undef, undef, undef, undef, undef, undef, undef, undef, undef, undef, undef, undef, undef, undef, undef, undef, undef, undef, undef, undef, undef, undef, undef, undef, undef, undef, undef, undef, undef, undef, undef, undef, undef, undef, undef, undef, undef, undef, undef, undef, undef, undef, undef, undef, undef, undef, undef, undef, undef, undef, undef, undef, undef, undef, undef, undef, undef, undef, undef, undef, undef, undef, undef, undef, undef, undef, undef], defers := [] } ∧ Hs [] w0 w' [.blk g3 #[.int .i64 r, .int .i64 s, .int .i64 b, .int .i64 o, .int .i64 c] 67, .blk g2 #[.slice aL nl cL, .slice aD nd cD, .slice aS nq cS, .int .i64 pu, .int .i64 ru] 142, .blk g1 #[.int .i64 r, .int .i64 s, .int .i64 b, .int .i64 o, .int .i64 c, .int .i64 y, .int .i64 z] 69] ∧ (k1 ≤ nd)) (fun (k1 : Nat) => nd - k1) 0 ⟨(nthV [.int .i64 (-1), undef, undef, undef, undef, undef, undef, undef, undef, undef, undef, undef, undef, undef, undef, undef, undef, undef, undef]), (by kernel_rfl), H, (Nat.zero_le _)⟩ ?_
            clear H
            rintro k1 _ v16 ⟨uf2, rfl, H, r1⟩
            refine x_seq ?_
            refine x_region ?_
            refine x_val (.bool (decide (((k1 : Nat) : Int) < ((nd : Nat) : Int)))) (by kernel_rfl) rfl (by kernel_rfl) ?_
            refine x_nil ?_
            refine x_then ?_
            refine x_seq ?_
            cases h11 : decide (((k1 : Nat) : Int) < ((nd : Nat) : Int))
            · skip
              have h11p := of_decide_eq_false h11
              refine x_f (by kernel_rfl) ?_
              refine x_exit ?_
              refine x_then_exit ?_
              refine x_then_exit ?_
              refine x_blk_exit ?_
              refine x_then ?_
              refine x_seq ?_
              refine x_seq ?_
              refine x_region ?_
              refine x_val (.pointer (some ⟨g2, 0, none⟩)) (by kernel_rfl) rfl (by kernel_rfl) ?_
              refine x_load1 H 1 g2 0 #[.slice aL nl cL, .slice aD nd cD, .slice aS nq cS, .int .i64 pu, .int .i64 ru] 142 (.slice aL nl cL) (by kernel_rfl) (by kernel_rfl) (by kernel_rfl) rfl (by kernel_rfl) ?_
              refine x_val (.int .i64 ((nl : Nat) : Int)) (by kernel_rfl) rfl (by kernel_rfl) ?_
              refine x_val (.int .i64 0) (by kernel_rfl) rfl (by kernel_rfl) ?_
              refine x_nil ?_
              refine x_then ?_
              refine x_block ?_
              refine x_loop (G := Nat) (fun (k2 : Nat) a w' => ∃ uf3 : Nat → Value, a = { tmps := #[.agg #[.int .i64 r, .int .i64 s, .int .i64 b, .int .i64 o, .int .i64 c, .int .i64 y, .int .i64 z], .agg #[.slice aL nl cL, .slice aD nd cD, .slice aS nq cS, .int .i64 pu, .int .i64 ru], .pointer (some ⟨g1, 0, none⟩), .pointer (some ⟨g2, 0, none⟩), .bool false, .pointer none, .int .i64 10, .pointer (some ⟨g3, 0, none⟩), .bool false, (uf2 0), undef, (uf2 1), (uf3 0), (uf3 1), undef, undef, undef, undef, undef, undef, .bool true, .bool false, .agg #[.int .i64 r, .int .i64 s, .int .i64 b, .int .i64 o, .int .i64 c, .int .i64 y, .int .i64 z], .bool true, .bool false, .bool false, .pointer (some ⟨g2, 0, none⟩), .slice aL nl cL, .int .i64 ((nl : Nat) : Int), .bool false, .bool false, .bool false, .pointer (some ⟨g2, 1, none⟩), .slice aD nd cD, .int .i64 ((nd : Nat) : Int), .bool false, .bool false, .bool false, .pointer (some ⟨g2, 2, none⟩), .slice aS nq cS, .int .i64 ((nq : Nat) : Int), .bool false, .bool false, .tuple #[.pointer none, .int .i64 10], .agg #[.int .i64 r, .int .i64 s, .int .i64 b, .int .i64 o, .int .i64 c, .int .i64 y, .int .i64 z], .agg #[.slice aL nl cL, .slice aD nd cD, .slice aS nq cS, .int .i64 pu, .int .i64 ru], .tuple #[.pointer none, .int .i64 10], .pointer none, .int .i64 10, .agg #[.int .i64 r, .int .i64 s, .int .i64 b, .int .i64 o, .int .i64 c, .int .i64 y, .int .i64 z], .bool true, .bool false, undef, undef, undef, undef, undef, undef, .pointer (some ⟨g1, 0, none⟩), .agg #[.int .i64 r, .int .i64 s, .int .i64 b, .int .i64 o, .int .i64 c], (uf1 0), (uf1 1), (uf1 2), (uf1 3), (uf1 4), (uf1 5), (uf1 6), (uf1 7), (uf1 8), (uf1 9), (uf1 10), (uf1 11), (uf1 12), (uf1 13), (uf1 14), (uf1 15), (uf1 16), (uf1 17), (uf1 18), (uf1 19), (uf1 20), (uf1 21), (uf1 22), (uf1 23), (uf1 24), (uf1 25), (uf1 26), (uf1 27), (uf1 28), (uf1 29), (uf1 30), (uf1 31), (uf1 32), (uf1 33), (uf1 34), (uf1 35), (uf1 36), (uf1 37), .pointer (some ⟨g2, 1, none⟩), .slice aD nd cD, .int .i64 ((nd : Nat) : Int), .int .i64 ((k1 : Nat) : Int), .bool false, (uf2 3), (uf2 4), (uf2 5), (uf2 6), (uf2 7), (uf2 8), (uf2 9), (uf2 10), (uf2 11), (uf2 12), (uf2 13), (uf2 14), (uf2 15), (uf2 16), (uf2 17), (uf2 18), .pointer (some ⟨g2, 0, none⟩), .slice aL nl cL, .int .i64 ((nl : Nat) : Int), .int .i64 ((k2 : Nat) : Int), (uf3 2), (uf3 3), (uf3 4), (uf3 5), (uf3 6), (uf3 7), (uf3 8), (uf3 9), (uf3 10), (uf3 11), (uf3 12), (uf3 13), (uf3 14), (uf3 15), (uf3 16), (uf3 17), (uf3 18), (uf3 19), (uf3 20), (uf3 21), (uf3 22), (uf3 23), (uf3 24), (uf3 25), (uf3 26), (uf3 27), (uf3 28), (uf3 29), (uf3 30), (uf3 31), (uf3 32), (uf3 33), (uf3 34), (uf3 35), (uf3 36), (uf3 37), (uf3 38), undef, undef, undef, undef, undef, undef, undef, undef, undef, undef, undef, undef, undef, undef, undef, undef, undef, undef, undef, undef, undef, undef, undef, undef, undef, undef, undef, undef, undef, undef, undef, undef, undef, undef, undef, undef, undef, undef, undef, undef, undef, undef, undef, undef, undef, undef, undef, undef, undef, undef, undef, undef, undef, undef, undef, undef, undef, undef, undef, undef, undef, undef, undef, undef], defers := [] } ∧ Hs [] w0 w' [.blk g3 #[.int .i64 r, .int .i64 s, .int .i64 b, .int .i64 o, .int .i64 c] 67, .blk g2 #[.slice aL nl cL, .slice aD nd cD, .slice aS nq cS, .int .i64 pu, .int .i64 ru] 142, .blk g1 #[.int .i64 r, .int .i64 s, .int .i64 b, .int .i64 o, .int .i64 c, .int .i64 y, .int .i64 z] 69] ∧ (k2 ≤ nl)) (fun (k2 : Nat) => nl - k2) 0 ⟨(nthV [undef, undef, undef, undef, undef, undef, undef, undef, undef, undef, undef, undef, undef, undef, undef, undef, undef, undef, undef, undef, undef, undef, undef, undef, undef, undef, undef, undef, undef, undef, undef, undef, undef, undef, undef, undef, undef, undef, undef]), (by kernel_rfl), H, (Nat.zero_le _)⟩ ?_
              clear H
              rintro k2 _ v17 ⟨uf3, rfl, H, r1⟩
              refine x_seq ?_
              refine x_region ?_
              refine x_val (.bool (decide (((k2 : Nat) : Int) < ((nl : Nat) : Int)))) (by kernel_rfl) rfl (by kernel_rfl) ?_
              refine x_nil ?_
              refine x_then ?_
              refine x_seq ?_
              cases h12 : decide (((k2 : Nat) : Int) < ((nl : Nat) : Int))
              · skip
                have h12p := of_decide_eq_false h12
                refine x_f (by kernel_rfl) ?_
                refine x_exit ?_
                refine x_then_exit ?_
                refine x_then_exit ?_
                refine x_blk_exit ?_
                refine x_then ?_
                refine x_seq ?_
                refine x_seq ?_
                refine x_region ?_
                refine x_val (.pointer (some ⟨g2, 2, none⟩)) (by kernel_rfl) rfl (by kernel_rfl) ?_
                refine x_load1 H 1 g2 2 #[.slice aL nl cL, .slice aD nd cD, .slice aS nq cS, .int .i64 pu, .int .i64 ru] 142 (.slice aS nq cS) (by kernel_rfl) (by kernel_rfl) (by kernel_rfl) rfl (by kernel_rfl) ?_
                refine x_val (.int .i64 ((nq : Nat) : Int)) (by kernel_rfl) rfl (by kernel_rfl) ?_
                refine x_val (.int .i64 0) (by kernel_rfl) rfl (by kernel_rfl) ?_
                refine x_nil ?_
                refine x_then ?_
                refine x_block ?_
                refine x_loop (G := Nat) (fun (k3 : Nat) a w' => ∃ uf4 : Nat → Value, a = { tmps := #[.agg #[.int .i64 r, .int .i64 s, .int .i64 b, .int .i64 o, .int .i64 c, .int .i64 y, .int .i64 z], .agg #[.slice aL nl cL, .slice aD nd cD, .slice aS nq cS, .int .i64 pu, .int .i64 ru], .pointer (some ⟨g1, 0, none⟩), .pointer (some ⟨g2, 0, none⟩), .bool false, .pointer none, .int .i64 10, .pointer (some ⟨g3, 0, none⟩), .bool false, (uf2 0), undef, (uf2 1), (uf3 0), (uf3 1), undef, (uf4 0), undef, undef, undef, undef, .bool true, .bool false, .agg #[.int .i64 r, .int .i64 s, .int .i64 b, .int .i64 o, .int .i64 c, .int .i64 y, .int .i64 z], .bool true, .bool false, .bool false, .pointer (some ⟨g2, 0, none⟩), .slice aL nl cL, .int .i64 ((nl : Nat) : Int), .bool false, .bool false, .bool false, .pointer (some ⟨g2, 1, none⟩), .slice aD nd cD, .int .i64 ((nd : Nat) : Int), .bool false, .bool false, .bool false, .pointer (some ⟨g2, 2, none⟩), .slice aS nq cS, .int .i64 ((nq : Nat) : Int), .bool false, .bool false, .tuple #[.pointer none, .int .i64 10], .agg #[.int .i64 r, .int .i64 s, .int .i64 b, .int .i64 o, .int .i64 c, .int .i64 y, .int .i64 z], .agg #[.slice aL nl cL, .slice aD nd cD, .slice aS nq cS, .int .i64 pu, .int .i64 ru], .tuple #[.pointer none, .int .i64 10], .pointer none, .int .i64 10, .agg #[.int .i64 r, .int .i64 s, .int .i64 b, .int .i64 o, .int .i64 c, .int .i64 y, .int .i64 z], .bool true, .bool false, undef, undef, undef, undef, undef, undef, .pointer (some ⟨g1, 0, none⟩), .agg #[.int .i64 r, .int .i64 s, .int .i64 b, .int .i64 o, .int .i64 c], (uf1 0), (uf1 1), (uf1 2), (uf1 3), (uf1 4), (uf1 5), (uf1 6), (uf1 7), (uf1 8), (uf1 9), (uf1 10), (uf1 11), (uf1 12), (uf1 13), (uf1 14), (uf1 15), (uf1 16), (uf1 17), (uf1 18), (uf1 19), (uf1 20), (uf1 21), (uf1 22), (uf1 23), (uf1 24), (uf1 25), (uf1 26), (uf1 27), (uf1 28), (uf1 29), (uf1 30), (uf1 31), (uf1 32), (uf1 33), (uf1 34), (uf1 35), (uf1 36), (uf1 37), .pointer (some ⟨g2, 1, none⟩), .slice aD nd cD, .int .i64 ((nd : Nat) : Int), .int .i64 ((k1 : Nat) : Int), .bool false, (uf2 3), (uf2 4), (uf2 5), (uf2 6), (uf2 7), (uf2 8), (uf2 9), (uf2 10), (uf2 11), (uf2 12), (uf2 13), (uf2 14), (uf2 15), (uf2 16), (uf2 17), (uf2 18), .pointer (some ⟨g2, 0, none⟩), .slice aL nl cL, .int .i64 ((nl : Nat) : Int), .int .i64 ((k2 : Nat) : Int), .bool false, (uf3 3), (uf3 4), (uf3 5), (uf3 6), (uf3 7), (uf3 8), (uf3 9), (uf3 10), (uf3 11), (uf3 12), (uf3 13), (uf3 14), (uf3 15), (uf3 16), (uf3 17), (uf3 18), (uf3 19), (uf3 20), (uf3 21), (uf3 22), (uf3 23), (uf3 24), (uf3 25), (uf3 26), (uf3 27), (uf3 28), (uf3 29), (uf3 30), (uf3 31), (uf3 32), (uf3 33), (uf3 34), (uf3 35), (uf3 36), (uf3 37), (uf3 38), .pointer (some ⟨g2, 2, none⟩), .slice aS nq cS, .int .i64 ((nq : Nat) : Int), .int .i64 ((k3 : Nat) : Int), (uf4 1), (uf4 2), (uf4 3), (uf4 4), (uf4 5), (uf4 6), (uf4 7), (uf4 8), (uf4 9), (uf4 10), (uf4 11), (uf4 12), (uf4 13), (uf4 14), (uf4 15), (uf4 16), (uf4 17), (uf4 18), (uf4 19), (uf4 20), (uf4 21), (uf4 22), (uf4 23), (uf4 24), undef, undef, undef, undef, undef, undef, undef, undef, undef, undef, undef, undef, undef, undef, undef, undef, undef, undef, undef, undef, undef, undef, undef, undef, undef, undef, undef, undef, undef, undef, undef, undef, undef, undef, undef, undef], defers := [] } ∧ Hs [] w0 w' [.blk g3 #[.int .i64 r, .int .i64 s, .int .i64 b, .int .i64 o, .int .i64 c] 67, .blk g2 #[.slice aL nl cL, .slice aD nd cD, .slice aS nq cS, .int .i64 pu, .int .i64 ru] 142, .blk g1 #[.int .i64 r, .int .i64 s, .int .i64 b, .int .i64 o, .int .i64 c, .int .i64 y, .int .i64 z] 69] ∧ (k3 ≤ nq)) (fun (k3 : Nat) => nq - k3) 0 ⟨(nthV [undef, undef, undef, undef, undef, undef, undef, undef, undef, undef, undef, undef, undef, undef, undef, undef, undef, undef, undef, undef, undef, undef, undef, undef, undef]), (by kernel_rfl), H, (Nat.zero_le _)⟩ ?_
                clear H
                rintro k3 _ v18 ⟨uf4, rfl, H, r1⟩
                refine x_seq ?_
                refine x_region ?_
                refine x_val (.bool (decide (((k3 : Nat) : Int) < ((nq : Nat) : Int)))) (by kernel_rfl) rfl (by kernel_rfl) ?_
                refine x_nil ?_
                refine x_then ?_
                refine x_seq ?_
                cases h13 : decide (((k3 : Nat) : Int) < ((nq : Nat) : Int))
                · skip
                  have h13p := of_decide_eq_false h13
                  refine x_f (by kernel_rfl) ?_
                  refine x_exit ?_
                  refine x_then_exit ?_
                  refine x_then_exit ?_
                  refine x_blk_exit ?_
                  refine x_then ?_
                  refine x_seq ?_
                  refine x_seq ?_
                  refine x_region ?_
                  refine x_val (.bool false) (by kernel_rfl) rfl (by kernel_rfl) ?_
                  refine x_val (.bool true) (by kernel_rfl) rfl (by kernel_rfl) ?_
                  refine x_nil ?_
                  refine x_then ?_
                  refine x_t (by kernel_rfl) ?_
                  refine x_seq ?_
                  refine x_region ?_
                  refine x_val (.int .i64 10) (by kernel_rfl) rfl (by kernel_rfl) ?_
                  refine x_val (.bool true) (by kernel_rfl) rfl (by kernel_rfl) ?_
                  refine x_val (.bool true) (by kernel_rfl) rfl (by kernel_rfl) ?_
                  refine x_val (.pointer none) (by kernel_rfl) rfl (by kernel_rfl) ?_
                  refine x_val (.bool true) (by kernel_rfl) rfl (by kernel_rfl) ?_
                  refine x_val (.bool true) (by kernel_rfl) rfl (by kernel_rfl) ?_
                  refine x_val (.bool true) (by kernel_rfl) rfl (by kernel_rfl) ?_
                  refine x_nil ?_
                  refine x_then ?_
                  refine x_retc ?_
                  refine x_then_ret ?_
                  refine x_ret (.bool true) (by kernel_rfl) (by kernel_rfl) ?_
                  exact ⟨rfl, H.below⟩
                · skip
                  have h13p := of_decide_eq_true h13
                  refine x_t (by kernel_rfl) ?_
                  refine x_skipc ?_
                  refine x_then ?_
                  refine x_seq ?_
                  refine x_block ?_
                  refine x_seq ?_
                  refine x_region ?_
                  obtain ⟨gS, oS, hadS, hcS⟩ := hIS (by omega)
                  refine x_ixO (t := 106) hadS k3 nq cS 3 1 (oS + k3) (by omega) (by omega) (by kernel_rfl) (by kernel_rfl) (by kernel_rfl) rfl (by kernel_rfl) ?_
                  refine x_loadc gS (oS + k3) (.int .i64 (lS.getD k3 0)) (hcS _ H.below k3 (by omega)) (by kernel_rfl) rfl (by kernel_rfl) ?_
                  refine x_val (.int .i64 (lS.getD k3 0)) (by kernel_rfl) rfl (by kernel_rfl) ?_
                  refine x_nil ?_
                  refine x_then ?_
                  refine x_region ?_
                  refine x_val (.bool false) (by kernel_rfl) rfl (by kernel_rfl) ?_
                  refine x_val (.bool false) (by kernel_rfl) rfl (by kernel_rfl) ?_
                  refine x_skip (by kernel_rfl) ?_
                  refine x_skip (by kernel_rfl) ?_
                  refine x_skip (by kernel_rfl) ?_
                  refine x_skip (by kernel_rfl) ?_
                  refine x_skip (by kernel_rfl) ?_
                  refine x_skip (by kernel_rfl) ?_
                  refine x_skip (by kernel_rfl) ?_
                  refine x_skip (by kernel_rfl) ?_
                  refine x_skip (by kernel_rfl) ?_
                  refine x_skip (by kernel_rfl) ?_
                  refine x_skip (by kernel_rfl) ?_
                  refine x_skip (by kernel_rfl) ?_
                  refine x_skip (by kernel_rfl) ?_
                  refine x_skip (by kernel_rfl) ?_
                  refine x_skip (by kernel_rfl) ?_
                  refine x_skip (by kernel_rfl) ?_
                  refine x_skip (by kernel_rfl) ?_
                  refine x_val (.bool false) (by kernel_rfl) rfl (by kernel_rfl) ?_
                  refine x_val (.bool false) (by kernel_rfl) rfl (by kernel_rfl) ?_
                  refine x_nil ?_
                  refine x_blk ?_
                  refine x_then ?_
                  refine x_region ?_
                  refine x_ar (((k3 : Nat) : Int) + 1) ⟨by omega, by omega⟩ (by kernel_rfl) rfl (by kernel_rfl) ?_
                  refine x_val (.int .i64 (((k3 : Nat) : Int) + 1)) (by kernel_rfl) rfl (by kernel_rfl) ?_
                  refine x_nil ?_
                  refine x_then ?_
                  exact ⟨(k3 + 1), (by omega), (nthV [.int .i64 (lS.getD k3 0), .bool true, .pointer (some ⟨gS, oS + k3, none⟩), .int .i64 (lS.getD k3 0), .bool false, .bool false, undef, undef, undef, undef, undef, undef, undef, undef, undef, undef, undef, undef, undef, undef, undef, undef, undef, .bool false, .int .i64 (((k3 : Nat) : Int) + 1)]), (by kernel_rfl), H, (by omega)⟩
              · skip
                have h12p := of_decide_eq_true h12
                refine x_t (by kernel_rfl) ?_
                refine x_skipc ?_
                refine x_then ?_
                refine x_seq ?_
                refine x_block ?_
                refine x_seq ?_
                refine x_region ?_
                refine x_val (.int .i64 ((k2 : Nat) : Int)) (by kernel_rfl) rfl (by kernel_rfl) ?_
                obtain ⟨gL, oL, hadL, hcL⟩ := hIL (by omega)
                refine x_ixO (t := 106) hadL k2 nl cL 3 1 (oL + k2) (by omega) (by omega) (by kernel_rfl) (by kernel_rfl) (by kernel_rfl) rfl (by kernel_rfl) ?_
                refine x_loadc gL (oL + k2) (.int .i64 (lL.getD k2 0)) (hcL _ H.below k2 (by omega)) (by kernel_rfl) rfl (by kernel_rfl) ?_
                refine x_val (.int .i64 ((k2 : Nat) : Int)) (by kernel_rfl) rfl (by kernel_rfl) ?_
                refine x_val (.int .i64 (lL.getD k2 0)) (by kernel_rfl) rfl (by kernel_rfl) ?_
                refine x_nil ?_
                refine x_then ?_
                refine x_region_whole (fun w' => Hs [] w0 w' [.blk g3 #[.int .i64 r, .int .i64 s, .int .i64 b, .int .i64 o, .int .i64 c] 67, .blk g2 #[.slice aL nl cL, .slice aD nd cD, .slice aS nq cS, .int .i64 pu, .int .i64 ru] 142, .blk g1 #[.int .i64 r, .int .i64 s, .int .i64 b, .int .i64 o, .int .i64 c, .int .i64 y, .int .i64 z] 69]) (by kernel_rfl) (by kernel_rfl) (by kernel_rfl) H.drew ?_
                refine q_val (.bool false) (by kernel_rfl) (fun _ => by kernel_rfl) ?_
                refine q_val (.bool false) (by kernel_rfl) (fun _ => by kernel_rfl) ?_
                refine q_skip (by kernel_rfl) ?_
                refine q_skip (by kernel_rfl) ?_
                refine q_val (.bool false) (by kernel_rfl) (fun _ => by kernel_rfl) ?_
                refine q_val (.bool false) (by kernel_rfl) (fun _ => by kernel_rfl) ?_
                refine q_skip (by kernel_rfl) ?_
                refine q_skip (by kernel_rfl) ?_
                refine q_skip (by kernel_rfl) ?_
                refine q_skip (by kernel_rfl) ?_
                refine q_skip (by kernel_rfl) ?_
                refine q_skip (by kernel_rfl) ?_
                refine q_skip (by kernel_rfl) ?_
                refine q_val (.bool false) (by kernel_rfl) (fun _ => by kernel_rfl) ?_
                refine q_val (.bool false) (by kernel_rfl) (fun _ => by kernel_rfl) ?_
                refine q_skip (by kernel_rfl) ?_
                refine q_skip (by kernel_rfl) ?_
                refine q_skip (by kernel_rfl) ?_
                refine q_skip (by kernel_rfl) ?_
                refine q_skip (by kernel_rfl) ?_
                refine q_val (.bool false) (by kernel_rfl) (fun _ => by kernel_rfl) ?_
                refine q_val (.bool false) (by kernel_rfl) (fun _ => by kernel_rfl) ?_
                refine q_skip (by kernel_rfl) ?_
                refine q_skip (by kernel_rfl) ?_
                refine q_skip (by kernel_rfl) ?_
                refine q_skip (by kernel_rfl) ?_
                refine q_skip (by kernel_rfl) ?_
                refine q_skip (by kernel_rfl) ?_
                refine q_skip (by kernel_rfl) ?_
                refine q_skip (by kernel_rfl) ?_
                refine q_skip (by kernel_rfl) ?_
                refine q_val (.bool false) (by kernel_rfl) (fun _ => by kernel_rfl) ?_
                refine q_val (.bool false) (by kernel_rfl) (fun _ => by kernel_rfl) ?_
                refine q_nil ?_
                clear H
                intro v19 H
                refine x_frame' { tmps := #[.agg #[.int .i64 r, .int .i64 s, .int .i64 b, .int .i64 o, .int .i64 c, .int .i64 y, .int .i64 z], .agg #[.slice aL nl cL, .slice aD nd cD, .slice aS nq cS, .int .i64 pu, .int .i64 ru], .pointer (some ⟨g1, 0, none⟩), .pointer (some ⟨g2, 0, none⟩), .bool false, .pointer none, .int .i64 10, .pointer (some ⟨g3, 0, none⟩), .bool false, (uf2 0), undef, (uf2 1), .int .i64 ((k2 : Nat) : Int), .int .i64 (lL.getD k2 0), undef, undef, undef, undef, undef, undef, .bool true, .bool false, .agg #[.int .i64 r, .int .i64 s, .int .i64 b, .int .i64 o, .int .i64 c, .int .i64 y, .int .i64 z], .bool true, .bool false, .bool false, .pointer (some ⟨g2, 0, none⟩), .slice aL nl cL, .int .i64 ((nl : Nat) : Int), .bool false, .bool false, .bool false, .pointer (some ⟨g2, 1, none⟩), .slice aD nd cD, .int .i64 ((nd : Nat) : Int), .bool false, .bool false, .bool false, .pointer (some ⟨g2, 2, none⟩), .slice aS nq cS, .int .i64 ((nq : Nat) : Int), .bool false, .bool false, .tuple #[.pointer none, .int .i64 10], .agg #[.int .i64 r, .int .i64 s, .int .i64 b, .int .i64 o, .int .i64 c, .int .i64 y, .int .i64 z], .agg #[.slice aL nl cL, .slice aD nd cD, .slice aS nq cS, .int .i64 pu, .int .i64 ru], .tuple #[.pointer none, .int .i64 10], .pointer none, .int .i64 10, .agg #[.int .i64 r, .int .i64 s, .int .i64 b, .int .i64 o, .int .i64 c, .int .i64 y, .int .i64 z], .bool true, .bool false, undef, undef, undef, undef, undef, undef, .pointer (some ⟨g1, 0, none⟩), .agg #[.int .i64 r, .int .i64 s, .int .i64 b, .int .i64 o, .int .i64 c], (uf1 0), (uf1 1), (uf1 2), (uf1 3), (uf1 4), (uf1 5), (uf1 6), (uf1 7), (uf1 8), (uf1 9), (uf1 10), (uf1 11), (uf1 12), (uf1 13), (uf1 14), (uf1 15), (uf1 16), (uf1 17), (uf1 18), (uf1 19), (uf1 20), (uf1 21), (uf1 22), (uf1 23), (uf1 24), (uf1 25), (uf1 26), (uf1 27), (uf1 28), (uf1 29), (uf1 30), (uf1 31), (uf1 32), (uf1 33), (uf1 34), (uf1 35), (uf1 36), (uf1 37), .pointer (some ⟨g2, 1, none⟩), .slice aD nd cD, .int .i64 ((nd : Nat) : Int), .int .i64 ((k1 : Nat) : Int), .bool false, (uf2 3), (uf2 4), (uf2 5), (uf2 6), (uf2 7), (uf2 8), (uf2 9), (uf2 10), (uf2 11), (uf2 12), (uf2 13), (uf2 14), (uf2 15), (uf2 16), (uf2 17), (uf2 18), .pointer (some ⟨g2, 0, none⟩), .slice aL nl cL, .int .i64 ((nl : Nat) : Int), .int .i64 ((k2 : Nat) : Int), .bool true, .int .i64 ((k2 : Nat) : Int), .pointer (some ⟨gL, oL + k2, none⟩), .int .i64 (lL.getD k2 0), .bool false, .bool false, undef, undef, .bool false, .bool false, undef, undef, undef, undef, undef, undef, undef, .bool false, .bool false, undef, undef, undef, undef, undef, .bool false, .bool false, undef, undef, undef, undef, undef, undef, undef, undef, undef, .bool false, (uf3 38), undef, undef, undef, undef, undef, undef, undef, undef, undef, undef, undef, undef, undef, undef, undef, undef, undef, undef, undef, undef, undef, undef, undef, undef, undef, undef, undef, undef, undef, undef, undef, undef, undef, undef, undef, undef, undef, undef, undef, undef, undef, undef, undef, undef, undef, undef, undef, undef, undef, undef, undef, undef, undef, undef, undef, undef, undef, undef, undef, undef, undef, undef, undef, undef], defers := [] } (by kernel_rfl) ?_
                refine x_blk ?_
                refine x_then ?_
                refine x_region ?_
                refine x_ar (((k2 : Nat) : Int) + 1) ⟨by omega, by omega⟩ (by kernel_rfl) rfl (by kernel_rfl) ?_
                refine x_val (.int .i64 (((k2 : Nat) : Int) + 1)) (by kernel_rfl) rfl (by kernel_rfl) ?_
                refine x_nil ?_
                refine x_then ?_
                exact ⟨(k2 + 1), (by omega), (nthV [.int .i64 ((k2 : Nat) : Int), .int .i64 (lL.getD k2 0), .bool true, .int .i64 ((k2 : Nat) : Int), .pointer (some ⟨gL, oL + k2, none⟩), .int .i64 (lL.getD k2 0), .bool false, .bool false, undef, undef, .bool false, .bool false, undef, undef, undef, undef, undef, undef, undef, .bool false, .bool false, undef, undef, undef, undef, undef, .bool false, .bool false, undef, undef, undef, undef, undef, undef, undef, undef, undef, .bool false, .int .i64 (((k2 : Nat) : Int) + 1)]), (by kernel_rfl), H, (by omega)⟩
            · skip
              have h11p := of_decide_eq_true h11
              refine x_t (by kernel_rfl) ?_
              refine x_skipc ?_
              refine x_then ?_
              refine x_seq ?_
              refine x_block ?_
              refine x_seq ?_
              refine x_region ?_
              obtain ⟨gD, oD, hadD, hcD⟩ := hID (by omega)
              refine x_ixO (t := 106) hadD k1 nd cD 3 1 (oD + k1) (by omega) (by omega) (by kernel_rfl) (by kernel_rfl) (by kernel_rfl) rfl (by kernel_rfl) ?_
              refine x_loadc gD (oD + k1) (.int .i64 (lD.getD k1 0)) (hcD _ H.below k1 (by omega)) (by kernel_rfl) rfl (by kernel_rfl) ?_
              refine x_val (.int .i64 (lD.getD k1 0)) (by kernel_rfl) rfl (by kernel_rfl) ?_
              refine x_nil ?_
              refine x_then ?_
              refine x_seq ?_
              refine x_region ?_
              refine x_val (.bool false) (by kernel_rfl) rfl (by kernel_rfl) ?_
              refine x_val (.bool false) (by kernel_rfl) rfl (by kernel_rfl) ?_
              refine x_skip (by kernel_rfl) ?_
              refine x_skip (by kernel_rfl) ?_
              refine x_skip (by kernel_rfl) ?_
              refine x_val (.bool false) (by kernel_rfl) rfl (by kernel_rfl) ?_
              refine x_val (.bool false) (by kernel_rfl) rfl (by kernel_rfl) ?_
              refine x_skip (by kernel_rfl) ?_
              refine x_skip (by kernel_rfl) ?_
              refine x_skip (by kernel_rfl) ?_
              refine x_skip (by kernel_rfl) ?_
              refine x_val (.bool false) (by kernel_rfl) rfl (by kernel_rfl) ?_
              refine x_val (.bool false) (by kernel_rfl) rfl (by kernel_rfl) ?_
              refine x_nil ?_
              refine x_then ?_
              refine x_region ?_
              refine x_val (.int .i64 (lD.getD k1 0)) (by kernel_rfl) rfl (by kernel_rfl) ?_
              refine x_val (.int .i64 (lD.getD k1 0)) (by kernel_rfl) rfl (by kernel_rfl) ?_
              refine x_nil ?_
              refine x_blk ?_
              refine x_then ?_
              refine x_region ?_
              refine x_ar (((k1 : Nat) : Int) + 1) ⟨by omega, by omega⟩ (by kernel_rfl) rfl (by kernel_rfl) ?_
              refine x_val (.int .i64 (((k1 : Nat) : Int) + 1)) (by kernel_rfl) rfl (by kernel_rfl) ?_
              refine x_nil ?_
              refine x_then ?_
              exact ⟨(k1 + 1), (by omega), (nthV [.int .i64 (lD.getD k1 0), .int .i64 (lD.getD k1 0), .bool true, .pointer (some ⟨gD, oD + k1, none⟩), .int .i64 (lD.getD k1 0), .bool false, .bool false, undef, undef, undef, .bool false, .bool false, undef, undef, undef, undef, .bool false, .int .i64 (lD.getD k1 0), .int .i64 (((k1 : Nat) : Int) + 1)]), (by kernel_rfl), H, (by omega)⟩
        · skip
          have h4p := of_decide_eq_true h4
          refine x_t (by kernel_rfl) ?_
          refine x_seq ?_
          refine x_region ?_
          refine x_val (.bool true) (by kernel_rfl) rfl (by kernel_rfl) ?_
          refine x_nil ?_
          refine x_then ?_
          refine x_retc ?_
          refine x_then_ret ?_
          refine x_ret (.bool true) (by kernel_rfl) (by kernel_rfl) ?_
          exact ⟨rfl, H.below⟩
      · skip
        have h3p := of_decide_eq_true h3
        refine x_skip (by kernel_rfl) ?_
        refine x_skip (by kernel_rfl) ?_
        refine x_skip (by kernel_rfl) ?_
        refine x_skip (by kernel_rfl) ?_
        refine x_val (.bool true) (by kernel_rfl) rfl (by kernel_rfl) ?_
        refine x_nil ?_
        refine x_then ?_
        refine x_t (by kernel_rfl) ?_
        refine x_seq ?_
        refine x_region ?_
        refine x_val (.bool true) (by kernel_rfl) rfl (by kernel_rfl) ?_
        refine x_nil ?_
        refine x_then ?_
        refine x_retc ?_
        refine x_then_ret ?_
        refine x_ret (.bool true) (by kernel_rfl) (by kernel_rfl) ?_
        exact ⟨rfl, H.below⟩
    · skip
      have h2p := of_decide_eq_true h2
      refine x_skip (by kernel_rfl) ?_
      refine x_skip (by kernel_rfl) ?_
      refine x_skip (by kernel_rfl) ?_
      refine x_skip (by kernel_rfl) ?_
      refine x_val (.bool true) (by kernel_rfl) rfl (by kernel_rfl) ?_
      refine x_val (.bool true) (by kernel_rfl) rfl (by kernel_rfl) ?_
      refine x_skip (by kernel_rfl) ?_
      refine x_skip (by kernel_rfl) ?_
      refine x_skip (by kernel_rfl) ?_
      refine x_skip (by kernel_rfl) ?_
      refine x_val (.bool true) (by kernel_rfl) rfl (by kernel_rfl) ?_
      refine x_nil ?_
      refine x_then ?_
      refine x_t (by kernel_rfl) ?_
      refine x_seq ?_
      refine x_region ?_
      refine x_val (.bool true) (by kernel_rfl) rfl (by kernel_rfl) ?_
      refine x_nil ?_
      refine x_then ?_
      refine x_retc ?_
      refine x_then_ret ?_
      refine x_ret (.bool true) (by kernel_rfl) (by kernel_rfl) ?_
      exact ⟨rfl, H.below⟩

end Go.Proofs.Ytgpalgbdacoagaa
