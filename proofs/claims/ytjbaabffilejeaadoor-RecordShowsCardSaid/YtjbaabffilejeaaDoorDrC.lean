/- The law RecordShows, walked. -/
import Derived.Test.YtjbaabffilejeaaDoorDrB
import Derived.Test.YtjbaabffilejeaaDoorDrR
import Derived.Test.YtjbaabffilejeaaDoorPxZ
namespace Go.Proofs.YtjbaabffilejeaaDoor
open Go Go.RowKit
set_option linter.unusedVariables false
set_option linter.unusedSimpArgs false

open Go.Lib (decDigits itoa)
set_option maxRecDepth 100000 in
set_option maxHeartbeats 4000000 in
theorem RefShow_nat {s t k i f : Nat} (h0 : s ≤ 9223372036854775807) (h1 : t ≤ 9223372036854775807) (h2 : k ≤ 9223372036854775807) (h3 : i ≤ 9223372036854775807) (h4 : f ≤ 9223372036854775807) (w0 : World) :
    Calls Tryd.prog 14 #[.agg #[.int .i64 ((s : Nat) : Int), .int .i64 ((t : Nat) : Int), .int .i64 ((k : Nat) : Int), .int .i64 ((i : Nat) : Int), .int .i64 ((f : Nat) : Int)]] w0 fun e w' => e = .returned (S (((((((((decDigits s) ++ ([32] : List UInt8)) ++ (decDigits t)) ++ ([32] : List UInt8)) ++ (decDigits k)) ++ ([32] : List UInt8)) ++ (decDigits i)) ++ ([32] : List UInt8)) ++ (decDigits f))) ∧ Below w0.heap.size w0 w' := by
  refine z_enter Tryd.func14 rfl ?_
  have H := Hs.nil w0
  have d0 := decLen64 (n := s) (by omega)
  have d1 := decLen64 (n := t) (by omega)
  have d2 := decLen64 (n := k) (by omega)
  have d3 := decLen64 (n := i) (by omega)
  have d4 := decLen64 (n := f) (by omega)
  refine x_seq <| x_region <| z_box H #[.int .i64 (s : Int), .int .i64 (t : Int), .int .i64 (k : Int), .int .i64 (i : Int), .int .i64 (f : Int)] 25 (fun v1 g1 H => ?_)
  refine x_b H [.m] <| x_nil <| x_then <| x_seq <| z_region_whole H <| q_b [.m, .l 0 0] <| q_callB (S (decDigits s)) (by kernel_rfl) (fun _ => by kernel_rfl) (fun _ => (Digits_of (N := s) (by omega) _)) ?_
  refine q_val (S ((decDigits s) ++ ([32] : List UInt8))) (by kernel_rfl) (fun _ => (Eq.trans (by kernel_rfl) (strAdd (P := Tryd.prog) (t := 9) (a := decDigits s) (b := ([32] : List UInt8)) (by simp only [List.length_append, List.length_cons, List.length_nil]; omega)))) <| q_b [.m, .l 0 1] <| q_callB (S (decDigits t)) (by kernel_rfl) (fun _ => by kernel_rfl) (fun _ => (Digits_of (N := t) (by omega) _)) <| q_val (S (((decDigits s) ++ ([32] : List UInt8)) ++ (decDigits t))) (by kernel_rfl) (fun _ => (Eq.trans (by kernel_rfl) (strAdd (P := Tryd.prog) (t := 9) (a := (decDigits s) ++ ([32] : List UInt8)) (b := decDigits t) (by simp only [List.length_append, List.length_cons, List.length_nil]; omega)))) <| q_val (S ((((decDigits s) ++ ([32] : List UInt8)) ++ (decDigits t)) ++ ([32] : List UInt8))) (by kernel_rfl) (fun _ => (Eq.trans (by kernel_rfl) (strAdd (P := Tryd.prog) (t := 9) (a := ((decDigits s) ++ ([32] : List UInt8)) ++ (decDigits t)) (b := ([32] : List UInt8)) (by simp only [List.length_append, List.length_cons, List.length_nil]; omega)))) ?_
  refine q_b [.m, .l 0 2] <| q_callB (S (decDigits k)) (by kernel_rfl) (fun _ => by kernel_rfl) (fun _ => (Digits_of (N := k) (by omega) _)) <| q_val (S (((((decDigits s) ++ ([32] : List UInt8)) ++ (decDigits t)) ++ ([32] : List UInt8)) ++ (decDigits k))) (by kernel_rfl) (fun _ => (Eq.trans (by kernel_rfl) (strAdd (P := Tryd.prog) (t := 9) (a := (((decDigits s) ++ ([32] : List UInt8)) ++ (decDigits t)) ++ ([32] : List UInt8)) (b := decDigits k) (by simp only [List.length_append, List.length_cons, List.length_nil]; omega)))) <| q_val (S ((((((decDigits s) ++ ([32] : List UInt8)) ++ (decDigits t)) ++ ([32] : List UInt8)) ++ (decDigits k)) ++ ([32] : List UInt8))) (by kernel_rfl) (fun _ => (Eq.trans (by kernel_rfl) (strAdd (P := Tryd.prog) (t := 9) (a := ((((decDigits s) ++ ([32] : List UInt8)) ++ (decDigits t)) ++ ([32] : List UInt8)) ++ (decDigits k)) (b := ([32] : List UInt8)) (by simp only [List.length_append, List.length_cons, List.length_nil]; omega)))) ?_
  refine q_b [.m, .l 0 3] <| q_callB (S (decDigits i)) (by kernel_rfl) (fun _ => by kernel_rfl) (fun _ => (Digits_of (N := i) (by omega) _)) <| q_val (S (((((((decDigits s) ++ ([32] : List UInt8)) ++ (decDigits t)) ++ ([32] : List UInt8)) ++ (decDigits k)) ++ ([32] : List UInt8)) ++ (decDigits i))) (by kernel_rfl) (fun _ => (Eq.trans (by kernel_rfl) (strAdd (P := Tryd.prog) (t := 9) (a := (((((decDigits s) ++ ([32] : List UInt8)) ++ (decDigits t)) ++ ([32] : List UInt8)) ++ (decDigits k)) ++ ([32] : List UInt8)) (b := decDigits i) (by simp only [List.length_append, List.length_cons, List.length_nil]; omega)))) <| q_val (S ((((((((decDigits s) ++ ([32] : List UInt8)) ++ (decDigits t)) ++ ([32] : List UInt8)) ++ (decDigits k)) ++ ([32] : List UInt8)) ++ (decDigits i)) ++ ([32] : List UInt8))) (by kernel_rfl) (fun _ => (Eq.trans (by kernel_rfl) (strAdd (P := Tryd.prog) (t := 9) (a := ((((((decDigits s) ++ ([32] : List UInt8)) ++ (decDigits t)) ++ ([32] : List UInt8)) ++ (decDigits k)) ++ ([32] : List UInt8)) ++ (decDigits i)) (b := ([32] : List UInt8)) (by simp only [List.length_append, List.length_cons, List.length_nil]; omega)))) ?_
  refine q_b [.m, .l 0 4] <| q_callB (S (decDigits f)) (by kernel_rfl) (fun _ => by kernel_rfl) (fun _ => (Digits_of (N := f) (by omega) _)) <| q_val (S (((((((((decDigits s) ++ ([32] : List UInt8)) ++ (decDigits t)) ++ ([32] : List UInt8)) ++ (decDigits k)) ++ ([32] : List UInt8)) ++ (decDigits i)) ++ ([32] : List UInt8)) ++ (decDigits f))) (by kernel_rfl) (fun _ => (Eq.trans (by kernel_rfl) (strAdd (P := Tryd.prog) (t := 9) (a := (((((((decDigits s) ++ ([32] : List UInt8)) ++ (decDigits t)) ++ ([32] : List UInt8)) ++ (decDigits k)) ++ ([32] : List UInt8)) ++ (decDigits i)) ++ ([32] : List UInt8)) (b := decDigits f) (by simp only [List.length_append, List.length_cons, List.length_nil]; omega)))) <| q_b [.m] <| q_nil ?_
  clear H
  intro v2 H
  refine x_then <| x_retc <| x_ret (S (((((((((decDigits s) ++ ([32] : List UInt8)) ++ (decDigits t)) ++ ([32] : List UInt8)) ++ (decDigits k)) ++ ([32] : List UInt8)) ++ (decDigits i)) ++ ([32] : List UInt8)) ++ (decDigits f))) (by kernel_rfl) (by kernel_rfl) ?_
  exact ⟨rfl, H.below⟩

theorem RefShow_of {s t k i f : Int} (hr : RightP s t k i f) (hs : s ≤ 9223372036854775807) (w : World) : Calls Tryd.prog 14 #[.agg #[.int .i64 s, .int .i64 t, .int .i64 k, .int .i64 i, .int .i64 f]] w fun e w' => e = .returned (S (join5 s t k i f)) ∧ Below w.heap.size w w' := by
  obtain ⟨b1, b2, b3, b4, b5, b6, b7, b8, b9⟩ := hr
  obtain ⟨s, rfl⟩ := Int.eq_ofNat_of_zero_le (show 0 ≤ s by omega)
  obtain ⟨t, rfl⟩ := Int.eq_ofNat_of_zero_le (show 0 ≤ t by omega)
  obtain ⟨k, rfl⟩ := Int.eq_ofNat_of_zero_le (show 0 ≤ k by omega)
  obtain ⟨i, rfl⟩ := Int.eq_ofNat_of_zero_le (show 0 ≤ i by omega)
  obtain ⟨f, rfl⟩ := Int.eq_ofNat_of_zero_le (show 0 ≤ f by omega)
  have q := RefShow_nat (s := s) (t := t) (k := k) (i := i) (f := f) (by omega) (by omega) (by omega) (by omega) (by omega) w
  rw [join5_eq, itoa_nat, itoa_nat, itoa_nat, itoa_nat, itoa_nat]
  exact q
theorem atoiV_le (l : List UInt8) : atoiV l ≤ 9223372036854775807 := by
  unfold atoiV
  cases h : Lib.atoiAll l
  · exact (Lib.atoiAll_bounds h).2
  · show (0 : Int) ≤ _; decide
  · unfold Lib.atoiSat; dsimp only; split <;> decide
theorem rv_le (ws : List (List UInt8)) (j : Nat) : rv ws j ≤ 9223372036854775807 := by
  unfold rv; split
  · exact atoiV_le _
  · decide
theorem Read_show {s t k i f : Int} (hr : RightP s t k i f) (hs : s ≤ 9223372036854775807) (w : World) (E : Env w) : Calls Tryd.prog 13 #[S (join5 s t k i f)] w fun e w' => e = .returned (.tuple #[.agg #[.int .i64 s, .int .i64 t, .int .i64 k, .int .i64 i, .int .i64 f], .int .i64 0]) ∧ Below w.heap.size w w' := by
  obtain ⟨e0, e1, e2, e3, e4⟩ := rv_join5 hr hs
  have q := Read_yes (l := join5 s t k i f) (Nat.le_trans (join5_len hr hs) (by decide)) (by rw [e0, e1, e2, e3, e4]; exact hr) (by rw [e0, e1, e2, e3, e4]) (rv_le _ _) w E
  rwa [e0, e1, e2, e3, e4] at q
theorem Read_no {l : List UInt8} (hl : l.length ≤ 100000) (h : ¬ (RightP (rv (words l) 0) (rv (words l) 1) (rv (words l) 2) (rv (words l) 3) (rv (words l) 4) ∧ join5 (rv (words l) 0) (rv (words l) 1) (rv (words l) 2) (rv (words l) 3) (rv (words l) 4) = l)) (w : World) (E : Env w) : Calls Tryd.prog 13 #[S l] w fun e w' => e = .returned (.tuple #[.agg #[.int .i64 0, .int .i64 0, .int .i64 0, .int .i64 0, .int .i64 0], .int .i64 10]) ∧ Below w.heap.size w w' := by
  by_cases hr : RightP (rv (words l) 0) (rv (words l) 1) (rv (words l) 2) (rv (words l) 3) (rv (words l) 4)
  · exact Read_n2 hl hr h (rv_le _ _) w E
  · exact Read_n1 hl hr w E

set_option maxRecDepth 100000 in
set_option maxHeartbeats 4000000 in
theorem Shows_11 {s t k i f : Int} {l : List UInt8} (hs : s ≤ 9223372036854775807) (hr : RightP s t k i f) (hb : (RightP (rv (words l) 0) (rv (words l) 1) (rv (words l) 2) (rv (words l) 3) (rv (words l) 4) ∧ join5 (rv (words l) 0) (rv (words l) 1) (rv (words l) 2) (rv (words l) 3) (rv (words l) 4) = l)) (w0 : World) (hE : Env w0) :
    Calls Tryd.prog 3 #[.agg #[.int .i64 s, .int .i64 t, .int .i64 k, .int .i64 i, .int .i64 f], S l] w0 fun e w' => e = .returned (.bool true) ∧ Below w0.heap.size w0 w' := by
  refine z_enter Tryd.func3 rfl ?_
  have H := Hs.nil w0
  have hM := nilM
  refine x_seq <| x_region <| z_box H #[.int .i64 s, .int .i64 t, .int .i64 k, .int .i64 i, .int .i64 f] 23 (fun v1 g1 H => ?_)
  refine x_b H [.m] <| x_nil <| x_then <| x_seq <| x_seq <| x_region <| z_callB H (anchor17 _) fun v2 H => ?_
  refine x_b H [.m] <| x_nil <| x_then <| x_f (by kernel_rfl) <| x_skipc <| x_then <| x_seq ?_
  refine x_seq <| x_region <| x_b H [.m, .m, .v (.bool (decide (200 < ((l.length : Nat) : Int))))] <| x_nil <| x_then ?_
  cases h1 : decide (200 < ((l.length : Nat) : Int))
  · skip
    have h1p := of_decide_eq_false h1
    have hl : l.length ≤ 100000 := by omega
    refine x_f (by kernel_rfl) <| x_skipc <| x_then <| x_seq <| x_region <| x_b H [.n 0 0 5 23] <| z_box H #[.int .i64 0, .int .i64 0, .int .i64 0, .int .i64 0, .int .i64 0] 25 (fun v3 g2 H => ?_)
    refine z_store H 0 0 [.int .i64 s, .int .i64 t, .int .i64 k, .int .i64 i, .int .i64 f] (fun v4 H => ?_)
    refine x_nil <| x_then <| x_seq <| x_region <| x_b H [.n 1 0 5 23] <| z_callB H (Show_yes hr hs _ (hE.on hM H)) fun v5 H => x_b H [.m, .m, .m, .m, .m] ?_
    refine x_nil <| x_then <| x_seq <| x_seq <| z_region_whole H <| q_b [.n 1 0 5 23] <| q_callB (.bool true) (by kernel_rfl) (fun _ => by kernel_rfl) (fun _ => (Right_yes hr _)) ?_
    refine q_b [.n 0 0 5 25] <| q_callB (.bool true) (by kernel_rfl) (fun _ => by kernel_rfl) (fun _ => (RefRight_yes hr _)) <| q_b [.m, .m, .n 1 0 5 23] <| q_callB (.bool (decide (k = 2))) (by kernel_rfl) (fun _ => by kernel_rfl) (fun _ => (Grave_any s t k i f _)) <| q_b [.m, .l 1 2, .v (.bool (decide (k = 2)))] <| q_eq (.bool false) (show Value.bool ((decide (k = 2)) != (decide (k = 2))) = Value.bool false by simp) (by kernel_rfl) (fun _ => by kernel_rfl) <| q_b [.m] ?_
    refine q_nil ?_
    clear H
    intro v6 H
    refine x_then <| x_f (by kernel_rfl) <| x_skipc <| x_then <| x_seq <| x_seq <| x_region ?_
    refine x_b H [.n 0 0 5 25] <| z_callB H (RefRight_yes hr _) fun v7 H => x_b H [.m] <| x_nil <| x_then <| x_f (by kernel_rfl) <| x_seq ?_
    refine x_region <| x_b H [.m] <| z_callB H (Read_show hr hs _ (hE.on hM H)) fun v8 H => x_b H [.m, .m, .m] <| z_box H #[.int .i64 0, .int .i64 0, .int .i64 0, .int .i64 0, .int .i64 0] 23 (fun v9 g3 H => ?_)
    refine z_store H 0 0 [.int .i64 s, .int .i64 t, .int .i64 k, .int .i64 i, .int .i64 f] (fun v10 H => ?_)
    refine x_b H [.m] <| x_nil <| z_fr 89 [(1, S l), (2, .pointer (some ⟨g1, 0, none⟩)), (5, .pointer (some ⟨g2, 0, none⟩)), (6, S (join5 s t k i f)), (7, .int .i64 0), (8, .pointer (some ⟨g3, 0, none⟩)), (9, .int .i64 0)] [] fun uf1 => x_then <| x_seq <| x_region <| x_b H [.m, .m, .m, .m, .n 1 0 5 25] ?_
    refine z_callB H (RefShow_of hr hs _) fun v11 H => x_eq (.bool false) ((strNe (join5 s t k i f) (join5 s t k i f)).trans (by simp)) (by kernel_rfl) rfl (by kernel_rfl) <| x_b H [.m, .m, .n 0 0 5 23, .n 2 0 5 23] ?_
    have h2 : (decide ((s : Int) = s) && (decide ((t : Int) = t) && (decide ((k : Int) = k) && (decide ((i : Int) = i) && (decide ((f : Int) = f) && true))))) = true := by simp
    refine x_val (.bool false) (by kernel_rfl) rfl ((run_neS (t := 23) (x := .tmp 59) (y := .tmp 60) (xs := #[.int .i64 s, .int .i64 t, .int .i64 k, .int .i64 i, .int .i64 f]) (ys := #[.int .i64 s, .int .i64 t, .int .i64 k, .int .i64 i, .int .i64 f]) (B := decide ((s : Int) = s) && (decide ((t : Int) = t) && (decide ((k : Int) = k) && (decide ((i : Int) = i) && (decide ((f : Int) = f) && true))))) (by kernel_rfl) (by kernel_rfl) (by kernel_rfl)).trans (by rw [h2]; try rfl)) <| x_b H [.m, .m, .m, .m, .m] <| x_nil <| x_then <| x_f (by kernel_rfl) <| x_skipc <| x_then ?_
    refine x_seq <| x_region <| x_b H [.m] <| z_callB H (Read_yes (l := l) hl hb.1 hb.2 (rv_le _ _) _ (hE.on hM H)) fun v12 H => x_b H [.m, .m, .m] <| z_box H #[.int .i64 0, .int .i64 0, .int .i64 0, .int .i64 0, .int .i64 0] 23 (fun v13 g4 H => ?_)
    refine z_store H 0 0 [.int .i64 (rv (words l) 0), .int .i64 (rv (words l) 1), .int .i64 (rv (words l) 2), .int .i64 (rv (words l) 3), .int .i64 (rv (words l) 4)] (fun v14 H => ?_)
    refine x_b H [.m] <| x_nil <| x_then <| x_seq <| x_seq <| x_region <| x_b H [.m, .m] ?_
    refine x_nil <| x_then <| x_f (by kernel_rfl) <| x_skipc <| x_then <| x_seq <| x_region ?_
    refine x_b H [.n 0 0 5 23] <| z_callB H (RefRight_yes hb.1 _) fun v15 H => x_b H [.m, .n 0 0 5 23] <| z_callB H (RefShow_of hb.1 (rv_le _ _) _) fun v16 H => x_b H [.m] <| x_eq (.bool (decide (join5 (rv (words l) 0) (rv (words l) 1) (rv (words l) 2) (rv (words l) 3) (rv (words l) 4) = l))) (strEq (join5 (rv (words l) 0) (rv (words l) 1) (rv (words l) 2) (rv (words l) 3) (rv (words l) 4)) l) (by kernel_rfl) rfl (by kernel_rfl) <| x_b H [.v (.bool (decide (join5 (rv (words l) 0) (rv (words l) 1) (rv (words l) 2) (rv (words l) 3) (rv (words l) 4) = l))), .v (.bool (decide (join5 (rv (words l) 0) (rv (words l) 1) (rv (words l) 2) (rv (words l) 3) (rv (words l) 4) = l)))] ?_
    refine x_nil <| x_then <| x_retc <| x_ret (.bool (decide (join5 (rv (words l) 0) (rv (words l) 1) (rv (words l) 2) (rv (words l) 3) (rv (words l) 4) = l))) (by kernel_rfl) (by kernel_rfl) ?_
    exact ⟨by rw [show (decide (join5 (rv (words l) 0) (rv (words l) 1) (rv (words l) 2) (rv (words l) 3) (rv (words l) 4) = l)) = true from decide_eq_true hb.2], H.below⟩
  have h1p := of_decide_eq_true h1
  refine x_t (by kernel_rfl) <| x_seq <| x_region <| x_b H [.m] <| x_nil <| x_then <| x_retc ?_
  refine x_then_ret <| x_ret (.bool true) (by kernel_rfl) (by kernel_rfl) ?_
  exact ⟨rfl, H.below⟩

set_option maxRecDepth 100000 in
set_option maxHeartbeats 4000000 in
theorem Shows_10 {s t k i f : Int} {l : List UInt8} (hs : s ≤ 9223372036854775807) (hr : RightP s t k i f) (hb : ¬ (RightP (rv (words l) 0) (rv (words l) 1) (rv (words l) 2) (rv (words l) 3) (rv (words l) 4) ∧ join5 (rv (words l) 0) (rv (words l) 1) (rv (words l) 2) (rv (words l) 3) (rv (words l) 4) = l)) (w0 : World) (hE : Env w0) :
    Calls Tryd.prog 3 #[.agg #[.int .i64 s, .int .i64 t, .int .i64 k, .int .i64 i, .int .i64 f], S l] w0 fun e w' => e = .returned (.bool true) ∧ Below w0.heap.size w0 w' := by
  refine z_enter Tryd.func3 rfl ?_
  have H := Hs.nil w0
  have hM := nilM
  refine x_seq <| x_region <| z_box H #[.int .i64 s, .int .i64 t, .int .i64 k, .int .i64 i, .int .i64 f] 23 (fun v1 g1 H => ?_)
  refine x_b H [.m] <| x_nil <| x_then <| x_seq <| x_seq <| x_region <| z_callB H (anchor17 _) fun v2 H => ?_
  refine x_b H [.m] <| x_nil <| x_then <| x_f (by kernel_rfl) <| x_skipc <| x_then <| x_seq ?_
  refine x_seq <| x_region <| x_b H [.m, .m, .v (.bool (decide (200 < ((l.length : Nat) : Int))))] <| x_nil <| x_then ?_
  cases h1 : decide (200 < ((l.length : Nat) : Int))
  · skip
    have h1p := of_decide_eq_false h1
    have hl : l.length ≤ 100000 := by omega
    refine x_f (by kernel_rfl) <| x_skipc <| x_then <| x_seq <| x_region <| x_b H [.n 0 0 5 23] <| z_box H #[.int .i64 0, .int .i64 0, .int .i64 0, .int .i64 0, .int .i64 0] 25 (fun v3 g2 H => ?_)
    refine z_store H 0 0 [.int .i64 s, .int .i64 t, .int .i64 k, .int .i64 i, .int .i64 f] (fun v4 H => ?_)
    refine x_nil <| x_then <| x_seq <| x_region <| x_b H [.n 1 0 5 23] <| z_callB H (Show_yes hr hs _ (hE.on hM H)) fun v5 H => x_b H [.m, .m, .m, .m, .m] ?_
    refine x_nil <| x_then <| x_seq <| x_seq <| z_region_whole H <| q_b [.n 1 0 5 23] <| q_callB (.bool true) (by kernel_rfl) (fun _ => by kernel_rfl) (fun _ => (Right_yes hr _)) ?_
    refine q_b [.n 0 0 5 25] <| q_callB (.bool true) (by kernel_rfl) (fun _ => by kernel_rfl) (fun _ => (RefRight_yes hr _)) <| q_b [.m, .m, .n 1 0 5 23] <| q_callB (.bool (decide (k = 2))) (by kernel_rfl) (fun _ => by kernel_rfl) (fun _ => (Grave_any s t k i f _)) <| q_b [.m, .l 1 2, .v (.bool (decide (k = 2)))] <| q_eq (.bool false) (show Value.bool ((decide (k = 2)) != (decide (k = 2))) = Value.bool false by simp) (by kernel_rfl) (fun _ => by kernel_rfl) <| q_b [.m] ?_
    refine q_nil ?_
    clear H
    intro v6 H
    refine x_then <| x_f (by kernel_rfl) <| x_skipc <| x_then <| x_seq <| x_seq <| x_region ?_
    refine x_b H [.n 0 0 5 25] <| z_callB H (RefRight_yes hr _) fun v7 H => x_b H [.m] <| x_nil <| x_then <| x_f (by kernel_rfl) <| x_seq ?_
    refine x_region <| x_b H [.m] <| z_callB H (Read_show hr hs _ (hE.on hM H)) fun v8 H => x_b H [.m, .m, .m] <| z_box H #[.int .i64 0, .int .i64 0, .int .i64 0, .int .i64 0, .int .i64 0] 23 (fun v9 g3 H => ?_)
    refine z_store H 0 0 [.int .i64 s, .int .i64 t, .int .i64 k, .int .i64 i, .int .i64 f] (fun v10 H => ?_)
    refine x_b H [.m] <| x_nil <| z_fr 89 [(1, S l), (2, .pointer (some ⟨g1, 0, none⟩)), (5, .pointer (some ⟨g2, 0, none⟩)), (6, S (join5 s t k i f)), (7, .int .i64 0), (8, .pointer (some ⟨g3, 0, none⟩)), (9, .int .i64 0)] [] fun uf1 => x_then <| x_seq <| x_region <| x_b H [.m, .m, .m, .m, .n 1 0 5 25] ?_
    refine z_callB H (RefShow_of hr hs _) fun v11 H => x_eq (.bool false) ((strNe (join5 s t k i f) (join5 s t k i f)).trans (by simp)) (by kernel_rfl) rfl (by kernel_rfl) <| x_b H [.m, .m, .n 0 0 5 23, .n 2 0 5 23] ?_
    have h2 : (decide ((s : Int) = s) && (decide ((t : Int) = t) && (decide ((k : Int) = k) && (decide ((i : Int) = i) && (decide ((f : Int) = f) && true))))) = true := by simp
    refine x_val (.bool false) (by kernel_rfl) rfl ((run_neS (t := 23) (x := .tmp 59) (y := .tmp 60) (xs := #[.int .i64 s, .int .i64 t, .int .i64 k, .int .i64 i, .int .i64 f]) (ys := #[.int .i64 s, .int .i64 t, .int .i64 k, .int .i64 i, .int .i64 f]) (B := decide ((s : Int) = s) && (decide ((t : Int) = t) && (decide ((k : Int) = k) && (decide ((i : Int) = i) && (decide ((f : Int) = f) && true))))) (by kernel_rfl) (by kernel_rfl) (by kernel_rfl)).trans (by rw [h2]; try rfl)) <| x_b H [.m, .m, .m, .m, .m] <| x_nil <| x_then <| x_f (by kernel_rfl) <| x_skipc <| x_then ?_
    refine x_seq <| x_region <| x_b H [.m] <| z_callB H (Read_no (l := l) hl hb _ (hE.on hM H)) fun v12 H => x_b H [.m, .m, .m] <| z_box H #[.int .i64 0, .int .i64 0, .int .i64 0, .int .i64 0, .int .i64 0] 23 (fun v13 g4 H => ?_)
    refine z_store H 0 0 [.int .i64 0, .int .i64 0, .int .i64 0, .int .i64 0, .int .i64 0] (fun v14 H => ?_)
    refine x_b H [.m] <| x_nil <| x_then <| x_seq <| x_seq <| x_region <| x_b H [.m, .m] ?_
    refine x_nil <| x_then <| x_t (by kernel_rfl) <| x_seq <| x_region <| x_b H [.m, .m, .m, .n 0 0 5 23, .m] <| x_val (.bool true) (by kernel_rfl) rfl (run_eqS (t := 23) (x := .tmp 77) (y := .tmp 78) (xs := #[.int .i64 0, .int .i64 0, .int .i64 0, .int .i64 0, .int .i64 0]) (ys := #[.int .i64 0, .int .i64 0, .int .i64 0, .int .i64 0, .int .i64 0]) (B := true) (by kernel_rfl) (by kernel_rfl) (by kernel_rfl)) ?_
    refine x_b H [.m, .m] <| x_nil <| x_then <| x_retc <| x_then_ret <| x_ret (.bool true) (by kernel_rfl) (by kernel_rfl) ?_
    exact ⟨rfl, H.below⟩
  have h1p := of_decide_eq_true h1
  refine x_t (by kernel_rfl) <| x_seq <| x_region <| x_b H [.m] <| x_nil <| x_then <| x_retc ?_
  refine x_then_ret <| x_ret (.bool true) (by kernel_rfl) (by kernel_rfl) ?_
  exact ⟨rfl, H.below⟩

set_option maxRecDepth 100000 in
set_option maxHeartbeats 4000000 in
theorem Shows_01 {s t k i f : Int} {l : List UInt8} (hs : s ≤ 9223372036854775807) (hr : ¬ RightP s t k i f) (hb : (RightP (rv (words l) 0) (rv (words l) 1) (rv (words l) 2) (rv (words l) 3) (rv (words l) 4) ∧ join5 (rv (words l) 0) (rv (words l) 1) (rv (words l) 2) (rv (words l) 3) (rv (words l) 4) = l)) (w0 : World) (hE : Env w0) :
    Calls Tryd.prog 3 #[.agg #[.int .i64 s, .int .i64 t, .int .i64 k, .int .i64 i, .int .i64 f], S l] w0 fun e w' => e = .returned (.bool true) ∧ Below w0.heap.size w0 w' := by
  refine z_enter Tryd.func3 rfl ?_
  have H := Hs.nil w0
  have hM := nilM
  refine x_seq <| x_region <| z_box H #[.int .i64 s, .int .i64 t, .int .i64 k, .int .i64 i, .int .i64 f] 23 (fun v1 g1 H => ?_)
  refine x_b H [.m] <| x_nil <| x_then <| x_seq <| x_seq <| x_region <| z_callB H (anchor17 _) fun v2 H => ?_
  refine x_b H [.m] <| x_nil <| x_then <| x_f (by kernel_rfl) <| x_skipc <| x_then <| x_seq ?_
  refine x_seq <| x_region <| x_b H [.m, .m, .v (.bool (decide (200 < ((l.length : Nat) : Int))))] <| x_nil <| x_then ?_
  cases h1 : decide (200 < ((l.length : Nat) : Int))
  · skip
    have h1p := of_decide_eq_false h1
    have hl : l.length ≤ 100000 := by omega
    refine x_f (by kernel_rfl) <| x_skipc <| x_then <| x_seq <| x_region <| x_b H [.n 0 0 5 23] <| z_box H #[.int .i64 0, .int .i64 0, .int .i64 0, .int .i64 0, .int .i64 0] 25 (fun v3 g2 H => ?_)
    refine z_store H 0 0 [.int .i64 s, .int .i64 t, .int .i64 k, .int .i64 i, .int .i64 f] (fun v4 H => ?_)
    refine x_nil <| x_then <| x_seq <| x_region <| x_b H [.n 1 0 5 23] <| z_callB H (Show_no hr _) fun v5 H => x_b H [.m, .m, .m, .m, .m] ?_
    refine x_nil <| x_then <| x_seq <| x_seq <| z_region_whole H <| q_b [.n 1 0 5 23] <| q_callB (.bool false) (by kernel_rfl) (fun _ => by kernel_rfl) (fun _ => (Right_no hr _)) ?_
    refine q_b [.n 0 0 5 25] <| q_callB (.bool false) (by kernel_rfl) (fun _ => by kernel_rfl) (fun _ => (RefRight_no hr _)) <| q_b [.m, .m, .n 1 0 5 23] <| q_callB (.bool (decide (k = 2))) (by kernel_rfl) (fun _ => by kernel_rfl) (fun _ => (Grave_any s t k i f _)) <| q_b [.m, .l 1 2, .v (.bool (decide (k = 2)))] <| q_eq (.bool false) (show Value.bool ((decide (k = 2)) != (decide (k = 2))) = Value.bool false by simp) (by kernel_rfl) (fun _ => by kernel_rfl) <| q_b [.m] ?_
    refine q_nil ?_
    clear H
    intro v6 H
    refine x_then <| x_f (by kernel_rfl) <| x_skipc <| x_then <| x_seq <| x_seq <| x_region ?_
    refine x_b H [.n 0 0 5 25] <| z_callB H (RefRight_no hr _) fun v7 H => x_b H [.m] <| x_nil <| x_then <| x_t (by kernel_rfl) <| x_seq ?_
    refine x_region <| x_b H [.m, .m, .m, .m] <| x_eq (.bool false) ((strNe ([] : List UInt8) ([] : List UInt8)).trans (by simp)) (by kernel_rfl) rfl (by kernel_rfl) <| x_b H [.m] <| x_nil <| x_then <| x_f (by kernel_rfl) ?_
    refine x_skipc <| x_then <| x_seq <| x_region <| x_b H [.m] <| z_callB H (Read_yes (l := l) hl hb.1 hb.2 (rv_le _ _) _ (hE.on hM H)) fun v8 H => x_b H [.m, .m, .m] ?_
    refine z_box H #[.int .i64 0, .int .i64 0, .int .i64 0, .int .i64 0, .int .i64 0] 23 (fun v9 g3 H => ?_)
    refine z_store H 0 0 [.int .i64 (rv (words l) 0), .int .i64 (rv (words l) 1), .int .i64 (rv (words l) 2), .int .i64 (rv (words l) 3), .int .i64 (rv (words l) 4)] (fun v10 H => ?_)
    refine x_b H [.m] <| x_nil <| z_fr 89 [(1, S l), (10, .pointer (some ⟨g3, 0, none⟩)), (11, .int .i64 0)] [] fun uf1 => x_then <| x_seq <| x_seq <| x_region ?_
    refine x_b H [.m, .m] <| x_nil <| x_then <| x_f (by kernel_rfl) <| x_skipc <| x_then <| x_seq ?_
    refine x_region <| x_b H [.n 0 0 5 23] <| z_callB H (RefRight_yes hb.1 _) fun v11 H => x_b H [.m, .n 0 0 5 23] <| z_callB H (RefShow_of hb.1 (rv_le _ _) _) fun v12 H => x_b H [.m] <| x_eq (.bool (decide (join5 (rv (words l) 0) (rv (words l) 1) (rv (words l) 2) (rv (words l) 3) (rv (words l) 4) = l))) (strEq (join5 (rv (words l) 0) (rv (words l) 1) (rv (words l) 2) (rv (words l) 3) (rv (words l) 4)) l) (by kernel_rfl) rfl (by kernel_rfl) ?_
    refine x_b H [.v (.bool (decide (join5 (rv (words l) 0) (rv (words l) 1) (rv (words l) 2) (rv (words l) 3) (rv (words l) 4) = l))), .v (.bool (decide (join5 (rv (words l) 0) (rv (words l) 1) (rv (words l) 2) (rv (words l) 3) (rv (words l) 4) = l)))] <| x_nil <| x_then <| x_retc <| x_ret (.bool (decide (join5 (rv (words l) 0) (rv (words l) 1) (rv (words l) 2) (rv (words l) 3) (rv (words l) 4) = l))) (by kernel_rfl) (by kernel_rfl) ?_
    exact ⟨by rw [show (decide (join5 (rv (words l) 0) (rv (words l) 1) (rv (words l) 2) (rv (words l) 3) (rv (words l) 4) = l)) = true from decide_eq_true hb.2], H.below⟩
  have h1p := of_decide_eq_true h1
  refine x_t (by kernel_rfl) <| x_seq <| x_region <| x_b H [.m] <| x_nil <| x_then <| x_retc ?_
  refine x_then_ret <| x_ret (.bool true) (by kernel_rfl) (by kernel_rfl) ?_
  exact ⟨rfl, H.below⟩

set_option maxRecDepth 100000 in
set_option maxHeartbeats 4000000 in
theorem Shows_00 {s t k i f : Int} {l : List UInt8} (hs : s ≤ 9223372036854775807) (hr : ¬ RightP s t k i f) (hb : ¬ (RightP (rv (words l) 0) (rv (words l) 1) (rv (words l) 2) (rv (words l) 3) (rv (words l) 4) ∧ join5 (rv (words l) 0) (rv (words l) 1) (rv (words l) 2) (rv (words l) 3) (rv (words l) 4) = l)) (w0 : World) (hE : Env w0) :
    Calls Tryd.prog 3 #[.agg #[.int .i64 s, .int .i64 t, .int .i64 k, .int .i64 i, .int .i64 f], S l] w0 fun e w' => e = .returned (.bool true) ∧ Below w0.heap.size w0 w' := by
  refine z_enter Tryd.func3 rfl ?_
  have H := Hs.nil w0
  have hM := nilM
  refine x_seq <| x_region <| z_box H #[.int .i64 s, .int .i64 t, .int .i64 k, .int .i64 i, .int .i64 f] 23 (fun v1 g1 H => ?_)
  refine x_b H [.m] <| x_nil <| x_then <| x_seq <| x_seq <| x_region <| z_callB H (anchor17 _) fun v2 H => ?_
  refine x_b H [.m] <| x_nil <| x_then <| x_f (by kernel_rfl) <| x_skipc <| x_then <| x_seq ?_
  refine x_seq <| x_region <| x_b H [.m, .m, .v (.bool (decide (200 < ((l.length : Nat) : Int))))] <| x_nil <| x_then ?_
  cases h1 : decide (200 < ((l.length : Nat) : Int))
  · skip
    have h1p := of_decide_eq_false h1
    have hl : l.length ≤ 100000 := by omega
    refine x_f (by kernel_rfl) <| x_skipc <| x_then <| x_seq <| x_region <| x_b H [.n 0 0 5 23] <| z_box H #[.int .i64 0, .int .i64 0, .int .i64 0, .int .i64 0, .int .i64 0] 25 (fun v3 g2 H => ?_)
    refine z_store H 0 0 [.int .i64 s, .int .i64 t, .int .i64 k, .int .i64 i, .int .i64 f] (fun v4 H => ?_)
    refine x_nil <| x_then <| x_seq <| x_region <| x_b H [.n 1 0 5 23] <| z_callB H (Show_no hr _) fun v5 H => x_b H [.m, .m, .m, .m, .m] ?_
    refine x_nil <| x_then <| x_seq <| x_seq <| z_region_whole H <| q_b [.n 1 0 5 23] <| q_callB (.bool false) (by kernel_rfl) (fun _ => by kernel_rfl) (fun _ => (Right_no hr _)) ?_
    refine q_b [.n 0 0 5 25] <| q_callB (.bool false) (by kernel_rfl) (fun _ => by kernel_rfl) (fun _ => (RefRight_no hr _)) <| q_b [.m, .m, .n 1 0 5 23] <| q_callB (.bool (decide (k = 2))) (by kernel_rfl) (fun _ => by kernel_rfl) (fun _ => (Grave_any s t k i f _)) <| q_b [.m, .l 1 2, .v (.bool (decide (k = 2)))] <| q_eq (.bool false) (show Value.bool ((decide (k = 2)) != (decide (k = 2))) = Value.bool false by simp) (by kernel_rfl) (fun _ => by kernel_rfl) <| q_b [.m] ?_
    refine q_nil ?_
    clear H
    intro v6 H
    refine x_then <| x_f (by kernel_rfl) <| x_skipc <| x_then <| x_seq <| x_seq <| x_region ?_
    refine x_b H [.n 0 0 5 25] <| z_callB H (RefRight_no hr _) fun v7 H => x_b H [.m] <| x_nil <| x_then <| x_t (by kernel_rfl) <| x_seq ?_
    refine x_region <| x_b H [.m, .m, .m, .m] <| x_eq (.bool false) ((strNe ([] : List UInt8) ([] : List UInt8)).trans (by simp)) (by kernel_rfl) rfl (by kernel_rfl) <| x_b H [.m] <| x_nil <| x_then <| x_f (by kernel_rfl) ?_
    refine x_skipc <| x_then <| x_seq <| x_region <| x_b H [.m] <| z_callB H (Read_no (l := l) hl hb _ (hE.on hM H)) fun v8 H => x_b H [.m, .m, .m] ?_
    refine z_box H #[.int .i64 0, .int .i64 0, .int .i64 0, .int .i64 0, .int .i64 0] 23 (fun v9 g3 H => ?_)
    refine z_store H 0 0 [.int .i64 0, .int .i64 0, .int .i64 0, .int .i64 0, .int .i64 0] (fun v10 H => ?_)
    refine x_b H [.m] <| x_nil <| z_fr 89 [(1, S l), (10, .pointer (some ⟨g3, 0, none⟩)), (11, .int .i64 10)] [] fun uf1 => x_then <| x_seq <| x_seq <| x_region ?_
    refine x_b H [.m, .m] <| x_nil <| x_then <| x_t (by kernel_rfl) <| x_seq <| x_region <| x_b H [.m, .m, .m, .n 0 0 5 23, .m] ?_
    refine x_val (.bool true) (by kernel_rfl) rfl (run_eqS (t := 23) (x := .tmp 77) (y := .tmp 78) (xs := #[.int .i64 0, .int .i64 0, .int .i64 0, .int .i64 0, .int .i64 0]) (ys := #[.int .i64 0, .int .i64 0, .int .i64 0, .int .i64 0, .int .i64 0]) (B := true) (by kernel_rfl) (by kernel_rfl) (by kernel_rfl)) <| x_b H [.m, .m] <| x_nil <| x_then <| x_retc <| x_then_ret <| x_ret (.bool true) (by kernel_rfl) (by kernel_rfl) ?_
    exact ⟨rfl, H.below⟩
  have h1p := of_decide_eq_true h1
  refine x_t (by kernel_rfl) <| x_seq <| x_region <| x_b H [.m] <| x_nil <| x_then <| x_retc ?_
  refine x_then_ret <| x_ret (.bool true) (by kernel_rfl) (by kernel_rfl) ?_
  exact ⟨rfl, H.below⟩

theorem RecordShows_walk (s t k i f : Int) (l : List UInt8) (hs : s ≤ 9223372036854775807) (w0 : World) (hE : Env w0) : Calls Tryd.prog 3 #[.agg #[.int .i64 s, .int .i64 t, .int .i64 k, .int .i64 i, .int .i64 f], S l] w0 fun e w' => e = .returned (.bool true) ∧ Below w0.heap.size w0 w' := by
  by_cases hr : RightP s t k i f
  · by_cases hb : RightP (rv (words l) 0) (rv (words l) 1) (rv (words l) 2) (rv (words l) 3) (rv (words l) 4) ∧ join5 (rv (words l) 0) (rv (words l) 1) (rv (words l) 2) (rv (words l) 3) (rv (words l) 4) = l
    · exact Shows_11 hs hr hb w0 hE
    · exact Shows_10 hs hr hb w0 hE
  · by_cases hb : RightP (rv (words l) 0) (rv (words l) 1) (rv (words l) 2) (rv (words l) 3) (rv (words l) 4) ∧ join5 (rv (words l) 0) (rv (words l) 1) (rv (words l) 2) (rv (words l) 3) (rv (words l) 4) = l
    · exact Shows_01 hs hr hb w0 hE
    · exact Shows_00 hs hr hb w0 hE

end Go.Proofs.YtjbaabffilejeaaDoor
