/- Laws of a script's step, walked. -/
import Derived.Test.YtjbaabffilejeaaDoorDrY
import Derived.Test.YtjbaabffilejeaaDoorDrX
import Derived.Test.YtjbaabffilejeaaDoorPxZ
namespace Go.Proofs.YtjbaabffilejeaaDoor
open Go Go.RowKit
set_option linter.unusedVariables false
set_option linter.unusedSimpArgs false

open Go.Lib (decDigits itoa)
theorem x0_rng : Rng (⟨8, 0, (fun _ => 0), 0, 1, 0, 1, 2, 3, 0, 575, 0⟩ : Stp) := by
  have hk : ∀ k : Int, 0 ≤ k → k < 1000 → I64 k := fun k _ _ => by unfold I64; omega
  exact ⟨hk 8 (by decide) (by decide), hk 0 (by decide) (by decide), fun _ _ => show (0 : Nat) < 256 by decide, show (0 : Nat) < _ by decide, hk 1 (by decide) (by decide), hk 0 (by decide) (by decide), hk 1 (by decide) (by decide), hk 2 (by decide) (by decide), hk 3 (by decide) (by decide), hk 0 (by decide) (by decide), hk 575 (by decide) (by decide), hk 0 (by decide) (by decide)⟩
theorem x0_right : RightS (⟨8, 0, (fun _ => 0), 0, 1, 0, 1, 2, 3, 0, 575, 0⟩ : Stp) := ⟨show (1 : Int) ≤ 8 by decide, show (8 : Int) ≤ 8 by decide, SEQ.rfl' _, fun _ => ⟨show (1 : Int) ≤ 1 by decide, show (1 : Int) ≤ 7 by decide⟩⟩
theorem it_small {n : Nat} (h : n < 10) : itoa (n : Int) = [UInt8.ofNat (48 + n)] := by rw [itoa_nat, Lib.decDigits_one h]
theorem x0_txt : txtS (⟨8, 0, (fun _ => 0), 0, 1, 0, 1, 2, 3, 0, 575, 0⟩ : Stp) = ([102, 108, 105, 112, 32, 48, 32, 49, 32, 50, 32, 51, 32, 53, 55, 53] : List UInt8) := by
  have e : txtS (⟨8, 0, (fun _ => 0), 0, 1, 0, 1, 2, 3, 0, 575, 0⟩ : Stp) = Lib.join [faultB 1, itoa ((0 : Nat) : Int), itoa ((1 : Nat) : Int), itoa ((2 : Nat) : Int), itoa ((3 : Nat) : Int), itoa ((575 : Nat) : Int)] [32] := rfl
  have e5 : itoa ((575 : Nat) : Int) = [53, 55, 53] := by
    rw [itoa_nat, decDigits, dif_neg (by decide), decDigits, dif_neg (by decide), decDigits, dif_pos (by decide)]; rfl
  rw [e, it_small (by decide), it_small (by decide), it_small (by decide), it_small (by decide), e5]
  rfl
theorem x0_good : goodT ([102, 108, 105, 112, 32, 48, 32, 49, 32, 50, 32, 51, 32, 53, 55, 53] : List UInt8) := by rw [← x0_txt]; exact good_txt x0_right x0_rng
theorem x0_seq : SEQ (stepOf ([102, 108, 105, 112, 32, 48, 32, 49, 32, 50, 32, 51, 32, 53, 55, 53] : List UInt8)) (⟨8, 0, (fun _ => 0), 0, 1, 0, 1, 2, 3, 0, 575, 0⟩ : Stp) := by rw [← x0_txt]; exact stepOf_txt x0_right x0_rng

set_option maxRecDepth 100000 in
set_option maxHeartbeats 4000000 in
theorem anchor23  (w0 : World) (hE : EnvS w0) :
    Calls Tryd.prog 15 #[] w0 fun e w' => e = .returned (.bool true) ∧ Below w0.heap.size w0 w' := by
  refine z_enter Tryd.func15 rfl ?_
  have H := Hs.nil w0
  have hM := nilM
  have hq := decide_eq_true x0_seq
  refine x_seq <| x_region <| x_b H [.m] <| x_nil <| x_then <| x_seq <| x_region ?_
  refine z_callB H (Parse_good (l := ([102, 108, 105, 112, 32, 48, 32, 49, 32, 50, 32, 51, 32, 53, 55, 53] : List UInt8)) (by decide) x0_good _ (hE.on hM H)) fun v1 H => x_b H [.m, .m, .m] <| z_box H (stepA ⟨0, 0, (fun _ => 0), 0, 0, 0, 0, 0, 0, 0, 0, 0⟩) 41 (fun v2 g1 H => ?_)
  refine z_store H 0 0 ((stepA (stepOf ([102, 108, 105, 112, 32, 48, 32, 49, 32, 50, 32, 51, 32, 53, 55, 53] : List UInt8)))).toList (fun v3 H => ?_)
  refine x_b H [.m] <| x_nil <| x_then <| x_seq <| x_region <| x_b H [.m, .m, .m, .n 0 0 75 41, .m, .m, .m] <| x_val (.bool (decide (SEQ (stepOf ([102, 108, 105, 112, 32, 48, 32, 49, 32, 50, 32, 51, 32, 53, 55, 53] : List UInt8)) ⟨8, 0, (fun _ => 0), 0, 1, 0, 1, 2, 3, 0, 575, 0⟩))) (by kernel_rfl) rfl (run_eqT (P := Tryd.prog) (t := 41) (x := .tmp 10) (y := .tmp 13) (xs := stepA (stepOf ([102, 108, 105, 112, 32, 48, 32, 49, 32, 50, 32, 51, 32, 53, 55, 53] : List UInt8))) (ys := stepA ⟨8, 0, (fun _ => 0), 0, 1, 0, 1, 2, 3, 0, 575, 0⟩) (B := decide (SEQ (stepOf ([102, 108, 105, 112, 32, 48, 32, 49, 32, 50, 32, 51, 32, 53, 55, 53] : List UInt8)) ⟨8, 0, (fun _ => 0), 0, 1, 0, 1, 2, 3, 0, 575, 0⟩)) (by kernel_rfl) (by kernel_rfl) (stepEq (stepOf ([102, 108, 105, 112, 32, 48, 32, 49, 32, 50, 32, 51, 32, 53, 55, 53] : List UInt8)) ⟨8, 0, (fun _ => 0), 0, 1, 0, 1, 2, 3, 0, 575, 0⟩)) ?_
  refine x_b H [.v (.bool (decide (SEQ (stepOf ([102, 108, 105, 112, 32, 48, 32, 49, 32, 50, 32, 51, 32, 53, 55, 53] : List UInt8)) ⟨8, 0, (fun _ => 0), 0, 1, 0, 1, 2, 3, 0, 575, 0⟩))), .v (.bool (decide (SEQ (stepOf ([102, 108, 105, 112, 32, 48, 32, 49, 32, 50, 32, 51, 32, 53, 55, 53] : List UInt8)) ⟨8, 0, (fun _ => 0), 0, 1, 0, 1, 2, 3, 0, 575, 0⟩)))] <| x_nil <| x_then <| x_retc <| x_ret (.bool (decide (SEQ (stepOf ([102, 108, 105, 112, 32, 48, 32, 49, 32, 50, 32, 51, 32, 53, 55, 53] : List UInt8)) ⟨8, 0, (fun _ => 0), 0, 1, 0, 1, 2, 3, 0, 575, 0⟩))) (by kernel_rfl) (by kernel_rfl) ?_
  exact ⟨by rw [hq], H.below⟩

set_option maxRecDepth 100000 in
set_option maxHeartbeats 4000000 in
theorem SShows_yes {x : Stp} (hx : Rng x) (hr : RightS x) (w0 : World) (hE : EnvS w0) :
    Calls Tryd.prog 4 #[.agg (stepA x)] w0 fun e w' => e = .returned (.bool true) ∧ Below w0.heap.size w0 w' := by
  refine z_enter Tryd.func4 rfl ?_
  have H := Hs.nil w0
  have hM := nilM
  have hd := decide_eq_true hr
  have hq := decide_eq_true (stepOf_txt hr hx)
  refine x_seq <| x_region <| z_box H (stepA x) 41 (fun v1 g1 H => ?_)
  refine x_b H [.m] <| x_nil <| x_then <| x_seq <| x_seq <| x_region <| z_callB H (anchor23 _ (hE.on hM H)) fun v2 H => ?_
  refine x_b H [.m] <| x_nil <| x_then <| x_f (by kernel_rfl) <| x_skipc <| x_then <| x_seq ?_
  refine x_region <| x_b H [.n 0 0 75 41] <| z_call (shown_of hx _) ?_
  rintro _ v3 ⟨t, rfl, ht, hB'⟩
  refine ⟨_, rfl, ?_⟩
  replace H := H.via hB'
  clear hB'
  have ht' := ht hr
  subst ht'
  refine x_b H [.v (.tuple #[S (txtS x), .bool (decide (RightS x))]), .m, .v (.bool (decide (RightS x))), .m, .v (.bool (decide (RightS x)))] <| x_nil <| x_then <| x_seq <| x_region <| x_b H [.n 0 0 75 41] <| z_callB H (SShow_yes hx hr _ (hE.on hM H)) fun v4 H => ?_
  refine x_b H [.m, .m, .m, .m, .m] <| x_nil <| x_then <| x_seq <| x_seq <| x_region <| x_b H [.n 0 0 75 41] ?_
  refine z_callB (v := .bool (decide (RightS x))) H (SRight_of x _) fun v5 H => x_b H [.v (.bool (decide (RightS x)))] <| x_eq (.bool false) (show Value.bool ((decide (RightS x)) != (decide (RightS x))) = Value.bool false by simp) (by kernel_rfl) rfl (by kernel_rfl) <| x_nil <| x_then <| x_f (by kernel_rfl) <| x_skipc ?_
  refine x_then <| x_seq <| x_seq <| x_region <| x_b H [.v (.bool (decide (RightS x))), .v (.bool (!(decide (RightS x))))] <| x_nil <| x_then ?_
  rw [hd]
  refine x_f (by kernel_rfl) <| x_skipc <| x_then <| x_seq <| x_region <| x_b H [.m] <| z_callB H (Parse_good (l := (txtS x)) (Nat.le_trans (txtS_len hx) (by decide)) (good_txt hr hx) _ (hE.on hM H)) fun v6 H => ?_
  refine x_b H [.m, .m, .m] <| z_box H (stepA ⟨0, 0, (fun _ => 0), 0, 0, 0, 0, 0, 0, 0, 0, 0⟩) 41 (fun v7 g2 H => ?_)
  refine z_store H 0 0 ((stepA (stepOf (txtS x)))).toList (fun v8 H => ?_)
  refine x_b H [.m] <| x_nil <| x_then <| x_seq <| x_region <| x_b H [.m, .m, .m, .m, .m] <| x_eq (.bool true) ((strEq (txtS x) (txtS x)).trans (by simp)) (by kernel_rfl) rfl (by kernel_rfl) ?_
  refine x_b H [.m, .m, .m, .m, .m, .m, .n 0 0 75 41, .n 1 0 75 41] <| x_val (.bool (decide (SEQ (stepOf (txtS x)) x))) (by kernel_rfl) rfl (run_eqT (P := Tryd.prog) (t := 41) (x := .tmp 50) (y := .tmp 51) (xs := stepA (stepOf (txtS x))) (ys := stepA x) (B := decide (SEQ (stepOf (txtS x)) x)) (by kernel_rfl) (by kernel_rfl) (stepEq (stepOf (txtS x)) x)) <| x_b H [.v (.bool (decide (SEQ (stepOf (txtS x)) x))), .v (.bool (decide (SEQ (stepOf (txtS x)) x)))] <| x_nil <| z_fr 54 [(2, .bool (decide (SEQ (stepOf (txtS x)) x)))] [] fun uf1 => x_then <| x_retc ?_
  refine x_ret (.bool (decide (SEQ (stepOf (txtS x)) x))) (by kernel_rfl) (by kernel_rfl) ?_
  exact ⟨by rw [hq], H.below⟩

set_option maxRecDepth 100000 in
set_option maxHeartbeats 4000000 in
theorem SShows_no {x : Stp} (hx : Rng x) (hr : ¬ RightS x) (w0 : World) (hE : EnvS w0) :
    Calls Tryd.prog 4 #[.agg (stepA x)] w0 fun e w' => e = .returned (.bool true) ∧ Below w0.heap.size w0 w' := by
  refine z_enter Tryd.func4 rfl ?_
  have H := Hs.nil w0
  have hM := nilM
  have hd := decide_eq_false hr
  refine x_seq <| x_region <| z_box H (stepA x) 41 (fun v1 g1 H => ?_)
  refine x_b H [.m] <| x_nil <| x_then <| x_seq <| x_seq <| x_region <| z_callB H (anchor23 _ (hE.on hM H)) fun v2 H => ?_
  refine x_b H [.m] <| x_nil <| x_then <| x_f (by kernel_rfl) <| x_skipc <| x_then <| x_seq ?_
  refine x_region <| x_b H [.n 0 0 75 41] <| z_call (shown_of hx _) ?_
  rintro _ v3 ⟨t, rfl, ht, hB'⟩
  refine ⟨_, rfl, ?_⟩
  replace H := H.via hB'
  clear hB'
  refine x_b H [.v (.tuple #[S t, .bool (decide (RightS x))]), .m, .v (.bool (decide (RightS x))), .m, .v (.bool (decide (RightS x)))] <| x_nil <| x_then <| x_seq <| x_region <| x_b H [.n 0 0 75 41] <| z_callB H (SShow_no hr _) fun v4 H => ?_
  refine x_b H [.m, .m, .m, .m, .m] <| x_nil <| x_then <| x_seq <| x_seq <| x_region <| x_b H [.n 0 0 75 41] ?_
  refine z_callB (v := .bool (decide (RightS x))) H (SRight_of x _) fun v5 H => x_b H [.v (.bool (decide (RightS x)))] <| x_eq (.bool false) (show Value.bool ((decide (RightS x)) != (decide (RightS x))) = Value.bool false by simp) (by kernel_rfl) rfl (by kernel_rfl) <| x_nil <| x_then <| x_f (by kernel_rfl) <| x_skipc ?_
  refine x_then <| x_seq <| x_seq <| x_region <| x_b H [.v (.bool (decide (RightS x))), .v (.bool (!(decide (RightS x))))] <| x_nil <| x_then ?_
  rw [hd]
  refine x_t (by kernel_rfl) <| x_seq <| x_region <| x_b H [.m, .m, .m, .m] <| x_eq (.bool true) ((strEq ([] : List UInt8) ([] : List UInt8)).trans (by simp)) (by kernel_rfl) rfl (by kernel_rfl) <| x_b H [.m, .m] <| x_nil ?_
  refine x_then <| x_retc <| x_then_ret <| x_ret (.bool true) (by kernel_rfl) (by kernel_rfl) ?_
  exact ⟨rfl, H.below⟩

set_option maxRecDepth 100000 in
set_option maxHeartbeats 4000000 in
theorem SParses_good {l : List UInt8} (hg : goodT l) (w0 : World) (hE : EnvS w0) :
    Calls Tryd.prog 5 #[S l] w0 fun e w' => e = .returned (.bool true) ∧ Below w0.heap.size w0 w' := by
  refine z_enter Tryd.func5 rfl ?_
  have H := Hs.nil w0
  have hM := nilM
  have hd := decide_eq_true (goodT_right hg)
  have he := decide_eq_true hg.2
  refine x_seq <| x_region <| x_b H [.m] <| x_nil <| x_then <| x_seq <| x_seq ?_
  refine x_region <| z_callB H (anchor23 _ (hE.on hM H)) fun v1 H => x_b H [.m] <| x_nil <| x_then <| x_f (by kernel_rfl) <| x_skipc ?_
  refine x_then <| x_seq <| x_seq <| x_region <| x_b H [.m, .m, .v (.bool (decide (400 < ((l.length : Nat) : Int))))] <| x_nil <| x_then ?_
  cases h1 : decide (400 < ((l.length : Nat) : Int))
  · skip
    have h1p := of_decide_eq_false h1
    have hl : l.length ≤ 100000 := by omega
    refine x_f (by kernel_rfl) <| x_skipc <| x_then <| x_seq <| x_region <| x_b H [.m] <| z_callB H (Parse_good (l := l) hl hg _ (hE.on hM H)) fun v2 H => ?_
    refine x_b H [.m, .m, .m] <| z_box H (stepA ⟨0, 0, (fun _ => 0), 0, 0, 0, 0, 0, 0, 0, 0, 0⟩) 41 (fun v3 g1 H => ?_)
    refine z_store H 0 0 ((stepA (stepOf l))).toList (fun v4 H => ?_)
    refine x_b H [.m] <| x_nil <| x_then <| x_seq <| x_seq <| x_region <| x_b H [.m, .m] ?_
    refine x_nil <| x_then <| x_f (by kernel_rfl) <| x_skipc <| x_then <| x_seq <| x_region ?_
    refine x_b H [.n 0 0 75 41] <| z_call (shown_of (stepOf_rng l) _) ?_
    rintro _ v5 ⟨t, rfl, ht, hB'⟩
    refine ⟨_, rfl, ?_⟩
    replace H := H.via hB'
    clear hB'
    have ht' := ht (goodT_right hg)
    subst ht'
    refine x_b H [.v (.tuple #[S (txtS (stepOf l)), .bool (decide (RightS (stepOf l)))]), .m, .v (.bool (decide (RightS (stepOf l)))), .m, .v (.bool (decide (RightS (stepOf l))))] <| x_nil <| x_then <| x_seq <| x_region <| x_b H [.v (.bool (decide (RightS (stepOf l)))), .v (.bool (decide (RightS (stepOf l))))] ?_
    rw [hd]
    refine x_b H [.m, .m] <| x_eq (.bool (decide (txtS (stepOf l) = l))) (strEq (txtS (stepOf l)) l) (by kernel_rfl) rfl (by kernel_rfl) <| x_b H [.v (.bool (decide (txtS (stepOf l) = l))), .v (.bool (decide (txtS (stepOf l) = l)))] <| x_nil <| x_then <| x_retc <| x_ret (.bool (decide (txtS (stepOf l) = l))) (by kernel_rfl) (by kernel_rfl) ?_
    exact ⟨by rw [he], H.below⟩
  have h1p := of_decide_eq_true h1
  refine x_t (by kernel_rfl) <| x_seq <| x_region <| x_b H [.m] <| x_nil <| x_then <| x_retc ?_
  refine x_then_ret <| x_ret (.bool true) (by kernel_rfl) (by kernel_rfl) ?_
  exact ⟨rfl, H.below⟩

set_option maxRecDepth 100000 in
set_option maxHeartbeats 4000000 in
theorem SParses_bad {l : List UInt8} (hg : ¬ goodT l) (w0 : World) (hE : EnvS w0) :
    Calls Tryd.prog 5 #[S l] w0 fun e w' => e = .returned (.bool true) ∧ Below w0.heap.size w0 w' := by
  refine z_enter Tryd.func5 rfl ?_
  have H := Hs.nil w0
  have hM := nilM
  refine x_seq <| x_region <| x_b H [.m] <| x_nil <| x_then <| x_seq <| x_seq ?_
  refine x_region <| z_callB H (anchor23 _ (hE.on hM H)) fun v1 H => x_b H [.m] <| x_nil <| x_then <| x_f (by kernel_rfl) <| x_skipc ?_
  refine x_then <| x_seq <| x_seq <| x_region <| x_b H [.m, .m, .v (.bool (decide (400 < ((l.length : Nat) : Int))))] <| x_nil <| x_then ?_
  cases h1 : decide (400 < ((l.length : Nat) : Int))
  · skip
    have h1p := of_decide_eq_false h1
    have hl : l.length ≤ 100000 := by omega
    refine x_f (by kernel_rfl) <| x_skipc <| x_then <| x_seq <| x_region <| x_b H [.m] <| z_callB H (Parse_bad hl hg _ (hE.on hM H)) fun v2 H => ?_
    refine x_b H [.m, .m, .m] <| z_box H (stepA ⟨0, 0, (fun _ => 0), 0, 0, 0, 0, 0, 0, 0, 0, 0⟩) 41 (fun v3 g1 H => ?_)
    refine z_store H 0 0 ((stepA ⟨0, 0, (fun _ => 0), 0, 0, 0, 0, 0, 0, 0, 0, 0⟩)).toList (fun v4 H => ?_)
    refine x_b H [.m] <| x_nil <| x_then <| x_seq <| x_seq <| x_region <| x_b H [.m, .m] ?_
    refine x_nil <| x_then <| x_t (by kernel_rfl) <| x_seq <| x_region <| x_b H [.m, .m, .m, .n 0 0 75 41, .m] ?_
    have h2 : (decide (SEQ ⟨0, 0, (fun _ => 0), 0, 0, 0, 0, 0, 0, 0, 0, 0⟩ ⟨0, 0, (fun _ => 0), 0, 0, 0, 0, 0, 0, 0, 0, 0⟩)) = true := decide_eq_true (SEQ.rfl' _)
    refine x_val (.bool true) (by kernel_rfl) rfl ((run_eqT (P := Tryd.prog) (t := 41) (x := .tmp 22) (y := .tmp 23) (xs := stepA ⟨0, 0, (fun _ => 0), 0, 0, 0, 0, 0, 0, 0, 0, 0⟩) (ys := stepA ⟨0, 0, (fun _ => 0), 0, 0, 0, 0, 0, 0, 0, 0, 0⟩) (B := decide (SEQ ⟨0, 0, (fun _ => 0), 0, 0, 0, 0, 0, 0, 0, 0, 0⟩ ⟨0, 0, (fun _ => 0), 0, 0, 0, 0, 0, 0, 0, 0, 0⟩)) (by kernel_rfl) (by kernel_rfl) (stepEq ⟨0, 0, (fun _ => 0), 0, 0, 0, 0, 0, 0, 0, 0, 0⟩ ⟨0, 0, (fun _ => 0), 0, 0, 0, 0, 0, 0, 0, 0, 0⟩)).trans (by rw [h2] <;> rfl)) <| x_b H [.m, .m] <| x_nil <| x_then <| x_retc <| x_then_ret <| x_ret (.bool true) (by kernel_rfl) (by kernel_rfl) ?_
    exact ⟨rfl, H.below⟩
  have h1p := of_decide_eq_true h1
  refine x_t (by kernel_rfl) <| x_seq <| x_region <| x_b H [.m] <| x_nil <| x_then <| x_retc ?_
  refine x_then_ret <| x_ret (.bool true) (by kernel_rfl) (by kernel_rfl) ?_
  exact ⟨rfl, H.below⟩

set_option maxRecDepth 100000 in
set_option maxHeartbeats 4000000 in
theorem SUnlike_00 {x y : Stp} (hx : Rng x) (hy : Rng y) (rx : ¬ RightS x) (ry : ¬ RightS y) (w0 : World) (hE : EnvS w0) :
    Calls Tryd.prog 6 #[.agg (stepA x), .agg (stepA y)] w0 fun e w' => e = .returned (.bool true) ∧ Below w0.heap.size w0 w' := by
  refine z_enter Tryd.func6 rfl ?_
  have H := Hs.nil w0
  have hM := nilM
  refine x_seq <| x_region <| z_box H (stepA x) 41 (fun v1 g1 H => ?_)
  refine z_box H (stepA y) 41 (fun v2 g2 H => ?_)
  refine x_b H [.m] <| x_nil <| x_then <| x_seq <| x_seq <| x_region <| z_callB H (anchor23 _ (hE.on hM H)) fun v3 H => ?_
  refine x_b H [.m] <| x_nil <| x_then <| x_f (by kernel_rfl) <| x_skipc <| x_then <| x_seq ?_
  refine x_region <| x_b H [.n 1 0 75 41] <| z_callB H (SShow_no rx _) fun v4 H => x_b H [.m, .m, .m, .m, .m] <| x_nil <| x_then <| x_seq ?_
  refine x_region <| x_b H [.n 0 0 75 41] <| z_callB H (SShow_no ry _) fun v5 H => x_b H [.m, .m, .m, .m, .m] <| x_nil <| x_then <| x_seq ?_
  refine x_seq <| x_region <| x_b H [.m, .m, .m, .k, .k, .m] <| x_nil <| x_then <| x_t (by kernel_rfl) <| x_seq ?_
  refine x_region <| x_b H [.m] <| x_nil <| x_then <| x_retc <| x_then_ret <| x_ret (.bool true) (by kernel_rfl) (by kernel_rfl) ?_
  exact ⟨rfl, H.below⟩

set_option maxRecDepth 100000 in
set_option maxHeartbeats 4000000 in
theorem SUnlike_01 {x y : Stp} (hx : Rng x) (hy : Rng y) (rx : ¬ RightS x) (ry : RightS y) (w0 : World) (hE : EnvS w0) :
    Calls Tryd.prog 6 #[.agg (stepA x), .agg (stepA y)] w0 fun e w' => e = .returned (.bool true) ∧ Below w0.heap.size w0 w' := by
  refine z_enter Tryd.func6 rfl ?_
  have H := Hs.nil w0
  have hM := nilM
  refine x_seq <| x_region <| z_box H (stepA x) 41 (fun v1 g1 H => ?_)
  refine z_box H (stepA y) 41 (fun v2 g2 H => ?_)
  refine x_b H [.m] <| x_nil <| x_then <| x_seq <| x_seq <| x_region <| z_callB H (anchor23 _ (hE.on hM H)) fun v3 H => ?_
  refine x_b H [.m] <| x_nil <| x_then <| x_f (by kernel_rfl) <| x_skipc <| x_then <| x_seq ?_
  refine x_region <| x_b H [.n 1 0 75 41] <| z_callB H (SShow_no rx _) fun v4 H => x_b H [.m, .m, .m, .m, .m] <| x_nil <| x_then <| x_seq ?_
  refine x_region <| x_b H [.n 0 0 75 41] <| z_callB H (SShow_yes hy ry _ (hE.on hM H)) fun v5 H => x_b H [.m, .m, .m, .m, .m] <| x_nil <| x_then <| x_seq ?_
  refine x_seq <| x_region <| x_b H [.m, .m, .m, .k, .k, .m] <| x_nil <| x_then <| x_t (by kernel_rfl) <| x_seq ?_
  refine x_region <| x_b H [.m] <| x_nil <| x_then <| x_retc <| x_then_ret <| x_ret (.bool true) (by kernel_rfl) (by kernel_rfl) ?_
  exact ⟨rfl, H.below⟩

set_option maxRecDepth 100000 in
set_option maxHeartbeats 4000000 in
theorem SUnlike_10 {x y : Stp} (hx : Rng x) (hy : Rng y) (rx : RightS x) (ry : ¬ RightS y) (w0 : World) (hE : EnvS w0) :
    Calls Tryd.prog 6 #[.agg (stepA x), .agg (stepA y)] w0 fun e w' => e = .returned (.bool true) ∧ Below w0.heap.size w0 w' := by
  refine z_enter Tryd.func6 rfl ?_
  have H := Hs.nil w0
  have hM := nilM
  refine x_seq <| x_region <| z_box H (stepA x) 41 (fun v1 g1 H => ?_)
  refine z_box H (stepA y) 41 (fun v2 g2 H => ?_)
  refine x_b H [.m] <| x_nil <| x_then <| x_seq <| x_seq <| x_region <| z_callB H (anchor23 _ (hE.on hM H)) fun v3 H => ?_
  refine x_b H [.m] <| x_nil <| x_then <| x_f (by kernel_rfl) <| x_skipc <| x_then <| x_seq ?_
  refine x_region <| x_b H [.n 1 0 75 41] <| z_callB H (SShow_yes hx rx _ (hE.on hM H)) fun v4 H => x_b H [.m, .m, .m, .m, .m] <| x_nil <| x_then <| x_seq ?_
  refine x_region <| x_b H [.n 0 0 75 41] <| z_callB H (SShow_no ry _) fun v5 H => x_b H [.m, .m, .m, .m, .m] <| x_nil <| x_then <| x_seq ?_
  refine x_seq <| x_region <| x_b H [.m, .m, .m, .m, .m, .m] <| x_nil <| x_then <| x_t (by kernel_rfl) <| x_seq ?_
  refine x_region <| x_b H [.m] <| x_nil <| x_then <| x_retc <| x_then_ret <| x_ret (.bool true) (by kernel_rfl) (by kernel_rfl) ?_
  exact ⟨rfl, H.below⟩

theorem getD_in {l : List UInt8} {i : Nat} (h : i < l.length) : l.getD i 0 ∈ l := by rw [List.getD_eq_getElem?_getD, List.getElem?_eq_getElem h]; exact List.getElem_mem h

set_option maxRecDepth 100000 in
set_option maxHeartbeats 4000000 in
theorem SUnlike_11 {x y : Stp} (hx : Rng x) (hy : Rng y) (rx : RightS x) (ry : RightS y) (w0 : World) (hE : EnvS w0) :
    Calls Tryd.prog 6 #[.agg (stepA x), .agg (stepA y)] w0 fun e w' => e = .returned (.bool true) ∧ Below w0.heap.size w0 w' := by
  refine z_enter Tryd.func6 rfl ?_
  have H := Hs.nil w0
  have hM := nilM
  have hlen := txtS_len hx
  have hp : decide (0 < (((txtS x).length : Nat) : Int)) = true := decide_eq_true (by have := txtS_pos rx hx; omega)
  have hu : ((decide (txtS x = txtS y)) == (decide (SEQ x y))) = true := by rw [show decide (txtS x = txtS y) = decide (SEQ x y) from decide_eq_decide.2 (txt_inj rx ry hx hy)]; simp
  refine x_seq <| x_region <| z_box H (stepA x) 41 (fun v1 g1 H => ?_)
  refine z_box H (stepA y) 41 (fun v2 g2 H => ?_)
  refine x_b H [.m] <| x_nil <| x_then <| x_seq <| x_seq <| x_region <| z_callB H (anchor23 _ (hE.on hM H)) fun v3 H => ?_
  refine x_b H [.m] <| x_nil <| x_then <| x_f (by kernel_rfl) <| x_skipc <| x_then <| x_seq ?_
  refine x_region <| x_b H [.n 1 0 75 41] <| z_callB H (SShow_yes hx rx _ (hE.on hM H)) fun v4 H => x_b H [.m, .m, .m, .m, .m] <| x_nil <| x_then <| x_seq ?_
  refine x_region <| x_b H [.n 0 0 75 41] <| z_callB H (SShow_yes hy ry _ (hE.on hM H)) fun v5 H => x_b H [.m, .m, .m, .m, .m] <| x_nil <| x_then <| x_seq ?_
  refine x_seq <| x_region <| x_b H [.m, .m, .m, .m, .m, .m] <| x_nil <| x_then <| x_f (by kernel_rfl) <| x_skipc ?_
  refine x_then <| x_seq <| x_seq <| x_region <| x_b H [.m, .m, .m] <| x_nil <| x_then ?_
  refine x_block <| x_loop (G := Nat) (fun (c : Nat) a w' => ∃ uf1 : Nat → Value, a = frm 50 uf1 [(2, .pointer (some ⟨g1, 0, none⟩)), (3, .pointer (some ⟨g2, 0, none⟩)), (5, S (txtS x)), (7, S (txtS y)), (29, .int .i64 (((txtS x).length : Nat) : Int)), (30, .int .i64 (c : Int))] [] ∧ Hs [] w0 w' [.blk g2 (stepA y) 41, .blk g1 (stepA x) 41] ∧ (c ≤ (txtS x).length)) (fun (c : Nat) => (txtS x).length - c) 0 ⟨_, frm_of, H, (Nat.zero_le _)⟩ ?_
  clear H
  rintro c _ v6 ⟨uf1, rfl, H, r1⟩
  refine x_seq <| x_region <| x_b H [.v (.bool (decide ((c : Int) < (((txtS x).length : Nat) : Int))))] <| x_nil <| x_then <| x_seq ?_
  cases h1 : decide ((c : Int) < (((txtS x).length : Nat) : Int))
  · skip
    have h1p := of_decide_eq_false h1
    refine x_f (by kernel_rfl) <| x_exit <| x_then_exit <| x_then_exit <| x_blk_exit <| x_then <| x_seq ?_
    refine x_region <| x_b H [.m, .m] <| x_eq (.bool (decide (txtS x = txtS y))) (strEq (txtS x) (txtS y)) (by kernel_rfl) rfl (by kernel_rfl) <| x_b H [.n 1 0 75 41, .n 0 0 75 41] <| x_val (.bool (decide (SEQ x y))) (by kernel_rfl) rfl (run_eqT (P := Tryd.prog) (t := 41) (x := .tmp 41) (y := .tmp 42) (xs := stepA x) (ys := stepA y) (B := decide (SEQ x y)) (by kernel_rfl) (by kernel_rfl) (stepEq x y)) <| x_b H [.v (.bool ((decide (txtS x = txtS y)) == (decide (SEQ x y)))), .v (.bool ((decide (txtS x = txtS y)) == (decide (SEQ x y))))] ?_
    rw [hu]
    refine x_b H [.m, .m, .v (.bool (decide (0 < (((txtS x).length : Nat) : Int)))), .v (.bool (decide (0 < (((txtS x).length : Nat) : Int)))), .v (.bool (decide (0 < (((txtS x).length : Nat) : Int))))] <| x_nil <| x_then <| x_retc <| x_ret (.bool (decide (0 < (((txtS x).length : Nat) : Int)))) (by kernel_rfl) (by kernel_rfl) ?_
    exact ⟨by rw [hp], H.below⟩
  have h1p := of_decide_eq_true h1
  refine x_t (by kernel_rfl) <| x_skipc <| x_then <| x_seq <| x_block <| x_seq <| x_region ?_
  refine x_b H [.m, .m] <| x_nil <| x_then <| x_seq <| x_region <| x_b H [.m, .m] <| x_val (.int .u8 ((((txtS x).getD c 0).toNat : Nat) : Int)) (by kernel_rfl) rfl (Eq.trans (by kernel_rfl) (strIx (P := Tryd.prog) (t := 9) (l := txtS x) (k := c) (by kernel_rfl) (by omega))) ?_
  refine x_b H [.v (.bool (decide (((((txtS x).getD c 0).toNat : Nat) : Int) = 10)))] <| x_nil <| x_then ?_
  cases h2 : decide (((((txtS x).getD c 0).toNat : Nat) : Int) = 10)
  · skip
    have h2p := of_decide_eq_false h2
    refine x_f (by kernel_rfl) <| x_skipc <| x_blk <| x_then <| x_region <| x_eq (.int .i64 ((c + 1 : Nat) : Int)) (show Value.int .i64 (IntKind.i64.wrap ((c : Int) + 1)) = .int .i64 ((c + 1 : Nat) : Int) by first | (rw [i64ok ⟨by omega, by omega⟩]; done) | (rw [i64ok ⟨by omega, by omega⟩]; rfl)) (by kernel_rfl) rfl (by kernel_rfl) <| x_b H [.m] ?_
    refine x_nil <| x_then ?_
    exact ⟨(c + 1), (by omega), _, frm_of, H, (by omega)⟩
  have h2p := of_decide_eq_true h2
  exact absurd h2p (by have q := txtS_no hx _ (getD_in (l := txtS x) (i := c) (by omega)); omega)

theorem ScriptShows_walk {x : Stp} (hx : Rng x) (w0 : World) (hE : EnvS w0) : Calls Tryd.prog 4 #[.agg (stepA x)] w0 fun e w' => e = .returned (.bool true) ∧ Below w0.heap.size w0 w' := by
  by_cases hr : RightS x
  · exact SShows_yes hx hr w0 hE
  · exact SShows_no hx hr w0 hE
theorem ScriptParses_walk (l : List UInt8) (w0 : World) (hE : EnvS w0) : Calls Tryd.prog 5 #[S l] w0 fun e w' => e = .returned (.bool true) ∧ Below w0.heap.size w0 w' := by
  by_cases hg : goodT l
  · exact SParses_good hg w0 hE
  · exact SParses_bad hg w0 hE
theorem ScriptUnlike_walk {x y : Stp} (hx : Rng x) (hy : Rng y) (w0 : World) (hE : EnvS w0) : Calls Tryd.prog 6 #[.agg (stepA x), .agg (stepA y)] w0 fun e w' => e = .returned (.bool true) ∧ Below w0.heap.size w0 w' := by
  by_cases rx : RightS x
  · by_cases ry : RightS y
    · exact SUnlike_11 hx hy rx ry w0 hE
    · exact SUnlike_10 hx hy rx ry w0 hE
  · by_cases ry : RightS y
    · exact SUnlike_01 hx hy rx ry w0 hE
    · exact SUnlike_00 hx hy rx ry w0 hE

end Go.Proofs.YtjbaabffilejeaaDoor
