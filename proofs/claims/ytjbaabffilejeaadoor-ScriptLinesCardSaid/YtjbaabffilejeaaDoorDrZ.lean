/- Laws of a script's step, walked. -/
import Derived.Test.YtjbaabffilejeaaDoorDrY
import Derived.Test.YtjbaabffilejeaaDoorDrX
import Derived.Test.YtjbaabffilejeaaDoorPxZ
namespace Go.Proofs.YtjbaabffilejeaaDoor
open Go Go.RowKit
set_option linter.unusedVariables false
set_option linter.unusedSimpArgs false
open Go.Lib (decDigits itoa)
theorem x0_rng : Rng (⟨8, 0, (fun _ => 0), 0, 1, 0, 1, 2, 3, 0, 575, 0⟩ : Stp) := by
  have hk : ∀ k : Int, 0 ≤ k → k < 1000 → I64 k := fun k _ _ => by unfold I64; omega
  exact ⟨hk 8 (by decide) (by decide), hk 0 (by decide) (by decide), fun _ _ => show (0 : Nat) < 256 by decide, show (0 : Nat) < _ by decide, hk 1 (by decide) (by decide), hk 0 (by decide) (by decide), hk 1 (by decide) (by decide), hk 2 (by decide) (by decide), hk 3 (by decide) (by decide), hk 0 (by decide) (by decide), hk 575 (by decide) (by decide), hk 0 (by decide) (by decide)⟩
theorem x0_right : RightS (⟨8, 0, (fun _ => 0), 0, 1, 0, 1, 2, 3, 0, 575, 0⟩ : Stp) := ⟨show (1 : Int) ≤ 8 by decide, show (8 : Int) ≤ 8 by decide, SEQ.rfl' _, fun _ => ⟨show (1 : Int) ≤ 1 by decide, show (1 : Int) ≤ 7 by decide⟩⟩
theorem it_small {n : Nat} (h : n < 10) : itoa (n : Int) = [UInt8.ofNat (48 + n)] := by rw [itoa_nat, Lib.decDigits_one h]
theorem x0_txt : txtS (⟨8, 0, (fun _ => 0), 0, 1, 0, 1, 2, 3, 0, 575, 0⟩ : Stp) = ([102, 108, 105, 112, 32, 48, 32, 49, 32, 50, 32, 51, 32, 53, 55, 53] : List UInt8) := by
  have e : txtS (⟨8, 0, (fun _ => 0), 0, 1, 0, 1, 2, 3, 0, 575, 0⟩ : Stp) = Lib.join [faultB 1, itoa ((0 : Nat) : Int), itoa ((1 : Nat) : Int), itoa ((2 : Nat) : Int), itoa ((3 : Nat) : Int), itoa ((575 : Nat) : Int)] [32] := rfl
  have e5 : itoa ((575 : Nat) : Int) = [53, 55, 53] := by
    rw [itoa_nat, decDigits, dif_neg (by decide), decDigits, dif_neg (by decide), decDigits, dif_pos (by decide)]; rfl
  rw [e, it_small (by decide), it_small (by decide), it_small (by decide), it_small (by decide), e5]
  rfl
theorem x0_good : goodT ([102, 108, 105, 112, 32, 48, 32, 49, 32, 50, 32, 51, 32, 53, 55, 53] : List UInt8) := by rw [← x0_txt]; exact good_txt x0_right x0_rng
theorem x0_seq : SEQ (stepOf ([102, 108, 105, 112, 32, 48, 32, 49, 32, 50, 32, 51, 32, 53, 55, 53] : List UInt8)) (⟨8, 0, (fun _ => 0), 0, 1, 0, 1, 2, 3, 0, 575, 0⟩ : Stp) := by rw [← x0_txt]; exact stepOf_txt x0_right x0_rng
set_option maxRecDepth 100000 in
set_option maxHeartbeats 4000000 in
theorem anchor23  (w0 : World) (hE : EnvS w0) :
    Calls Tryd.prog 15 #[] w0 fun e w' => e = .returned (.bool true) ∧ Below w0.heap.size w0 w' := by
  refine z_enter Tryd.func15 rfl ?_
  have H := Hs.nil w0
  have hM := nilM
  have hq := decide_eq_true x0_seq
  refine x_seq <| x_region <| x_b H [.m] <| x_nil <| x_then <| x_seq <| x_region ?_
  refine z_callB H (Parse_good (l := ([102, 108, 105, 112, 32, 48, 32, 49, 32, 50, 32, 51, 32, 53, 55, 53] : List UInt8)) (by decide) x0_good _ (hE.on hM H)) fun v1 H => x_b H [.m, .m, .m] <| z_box H (stepA ⟨0, 0, (fun _ => 0), 0, 0, 0, 0, 0, 0, 0, 0, 0⟩) 41 (fun v2 g1 H => ?_)
  refine z_store H 0 0 ((stepA (stepOf ([102, 108, 105, 112, 32, 48, 32, 49, 32, 50, 32, 51, 32, 53, 55, 53] : List UInt8)))).toList (fun v3 H => ?_)
  refine x_b H [.m] <| x_nil <| x_then <| x_seq <| x_region <| x_b H [.m, .m, .m, .n 0 0 75 41, .m, .m, .m] <| x_val (.bool (decide (SEQ (stepOf ([102, 108, 105, 112, 32, 48, 32, 49, 32, 50, 32, 51, 32, 53, 55, 53] : List UInt8)) ⟨8, 0, (fun _ => 0), 0, 1, 0, 1, 2, 3, 0, 575, 0⟩))) (by kernel_rfl) rfl (run_eqT (P := Tryd.prog) (t := 41) (x := .tmp 10) (y := .tmp 13) (xs := stepA (stepOf ([102, 108, 105, 112, 32, 48, 32, 49, 32, 50, 32, 51, 32, 53, 55, 53] : List UInt8))) (ys := stepA ⟨8, 0, (fun _ => 0), 0, 1, 0, 1, 2, 3, 0, 575, 0⟩) (B := decide (SEQ (stepOf ([102, 108, 105, 112, 32, 48, 32, 49, 32, 50, 32, 51, 32, 53, 55, 53] : List UInt8)) ⟨8, 0, (fun _ => 0), 0, 1, 0, 1, 2, 3, 0, 575, 0⟩)) (by kernel_rfl) (by kernel_rfl) (stepEq (stepOf ([102, 108, 105, 112, 32, 48, 32, 49, 32, 50, 32, 51, 32, 53, 55, 53] : List UInt8)) ⟨8, 0, (fun _ => 0), 0, 1, 0, 1, 2, 3, 0, 575, 0⟩)) ?_
  refine x_b H [.v (.bool (decide (SEQ (stepOf ([102, 108, 105, 112, 32, 48, 32, 49, 32, 50, 32, 51, 32, 53, 55, 53] : List UInt8)) ⟨8, 0, (fun _ => 0), 0, 1, 0, 1, 2, 3, 0, 575, 0⟩))), .v (.bool (decide (SEQ (stepOf ([102, 108, 105, 112, 32, 48, 32, 49, 32, 50, 32, 51, 32, 53, 55, 53] : List UInt8)) ⟨8, 0, (fun _ => 0), 0, 1, 0, 1, 2, 3, 0, 575, 0⟩)))] <| x_nil <| x_then <| x_retc <| x_ret (.bool (decide (SEQ (stepOf ([102, 108, 105, 112, 32, 48, 32, 49, 32, 50, 32, 51, 32, 53, 55, 53] : List UInt8)) ⟨8, 0, (fun _ => 0), 0, 1, 0, 1, 2, 3, 0, 575, 0⟩))) (by kernel_rfl) (by kernel_rfl) ?_
  exact ⟨by rw [hq], H.below⟩
end Go.Proofs.YtjbaabffilejeaaDoor
