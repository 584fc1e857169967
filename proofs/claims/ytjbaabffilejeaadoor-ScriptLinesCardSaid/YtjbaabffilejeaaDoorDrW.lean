/- The document's line of a step. -/
import Derived.Test.YtjbaabffilejeaaDoorDrV
import Derived.Test.YtjbaabffilejeaaDoorPxZ
namespace Go.Proofs.YtjbaabffilejeaaDoor
open Go Go.RowKit
set_option linter.unusedVariables false
set_option linter.unusedSimpArgs false
open Go.Lib (decDigits itoa)
set_option maxRecDepth 100000 in
set_option maxHeartbeats 4000000 in
theorem Word_1  (w0 : World) :
    Calls Tryd.prog 58 #[.int .i64 1] w0 fun e w' => e = .returned (S (faultB 1)) ∧ Below w0.heap.size w0 w' := by
  refine z_enter Tryd.func58 rfl ?_
  have H := Hs.nil w0
  refine x_seq <| x_region <| x_b H [.m] <| x_nil <| x_then <| x_seq <| x_region ?_
  refine x_b H [.m, .m, .m, .m] <| x_nil <| x_then <| x_retc <| x_ret (S ([102, 108, 105, 112] : List UInt8)) (by kernel_rfl) (by kernel_rfl) ?_
  exact ⟨rfl, H.below⟩
set_option maxRecDepth 100000 in
set_option maxHeartbeats 4000000 in
theorem Has_1  (w0 : World) :
    Calls Tryd.prog 57 #[.int .i64 1] w0 fun e w' => e = .returned (.agg #[.bool true, .bool true, .bool true, .bool false, .bool true, .bool false]) ∧ Below w0.heap.size w0 w' := by
  refine z_enter Tryd.func57 rfl ?_
  have H := Hs.nil w0
  refine x_seq <| x_region <| z_box H #[.bool false, .bool false, .bool false, .bool false, .bool false, .bool false] 104 (fun v1 g1 H => ?_)
  refine x_nil <| x_then <| x_seq <| x_region <| x_b H [.m, .m, .m, .m, .m, .m, .m, .m, .m, .m, .m] <| z_store H 0 0 [.bool true, .bool true, .bool true, .bool false, .bool true, .bool false] (fun v2 H => ?_)
  refine x_nil <| x_then <| x_retc <| x_ret (.agg #[.bool true, .bool true, .bool true, .bool false, .bool true, .bool false]) (by kernel_rfl) (x_rescell H 0 g1 0 #[.bool true, .bool true, .bool true, .bool false, .bool true, .bool false] 104 [.bool true, .bool true, .bool true, .bool false, .bool true, .bool false] (fun x => x) (by kernel_rfl) (by kernel_rfl) (by kernel_rfl)) ?_
  exact ⟨rfl, H.below⟩
set_option maxRecDepth 100000 in
set_option maxHeartbeats 4000000 in
theorem Word_2  (w0 : World) :
    Calls Tryd.prog 58 #[.int .i64 2] w0 fun e w' => e = .returned (S (faultB 2)) ∧ Below w0.heap.size w0 w' := by
  refine z_enter Tryd.func58 rfl ?_
  have H := Hs.nil w0
  refine x_seq <| x_region <| x_b H [.m] <| x_nil <| x_then <| x_seq <| x_region ?_
  refine x_b H [.m, .m, .m, .m] <| x_nil <| x_then <| x_retc <| x_ret (S ([115, 116, 117, 99, 107] : List UInt8)) (by kernel_rfl) (by kernel_rfl) ?_
  exact ⟨rfl, H.below⟩
set_option maxRecDepth 100000 in
set_option maxHeartbeats 4000000 in
theorem Has_2  (w0 : World) :
    Calls Tryd.prog 57 #[.int .i64 2] w0 fun e w' => e = .returned (.agg #[.bool true, .bool true, .bool true, .bool false, .bool true, .bool true]) ∧ Below w0.heap.size w0 w' := by
  refine z_enter Tryd.func57 rfl ?_
  have H := Hs.nil w0
  refine x_seq <| x_region <| z_box H #[.bool false, .bool false, .bool false, .bool false, .bool false, .bool false] 104 (fun v1 g1 H => ?_)
  refine x_nil <| x_then <| x_seq <| x_region <| x_b H [.m, .m, .m, .m, .m, .m, .m, .m, .m, .m, .m] <| z_store H 0 0 [.bool true, .bool true, .bool true, .bool false, .bool true, .bool true] (fun v2 H => ?_)
  refine x_nil <| x_then <| x_retc <| x_ret (.agg #[.bool true, .bool true, .bool true, .bool false, .bool true, .bool true]) (by kernel_rfl) (x_rescell H 0 g1 0 #[.bool true, .bool true, .bool true, .bool false, .bool true, .bool true] 104 [.bool true, .bool true, .bool true, .bool false, .bool true, .bool true] (fun x => x) (by kernel_rfl) (by kernel_rfl) (by kernel_rfl)) ?_
  exact ⟨rfl, H.below⟩
set_option maxRecDepth 100000 in
set_option maxHeartbeats 4000000 in
theorem Word_3  (w0 : World) :
    Calls Tryd.prog 58 #[.int .i64 3] w0 fun e w' => e = .returned (S (faultB 3)) ∧ Below w0.heap.size w0 w' := by
  refine z_enter Tryd.func58 rfl ?_
  have H := Hs.nil w0
  refine x_seq <| x_region <| x_b H [.m] <| x_nil <| x_then <| x_seq <| x_region ?_
  refine x_b H [.m, .m, .m, .m] <| x_nil <| x_then <| x_retc <| x_ret (S ([114, 111, 119] : List UInt8)) (by kernel_rfl) (by kernel_rfl) ?_
  exact ⟨rfl, H.below⟩
set_option maxRecDepth 100000 in
set_option maxHeartbeats 4000000 in
theorem Has_3  (w0 : World) :
    Calls Tryd.prog 57 #[.int .i64 3] w0 fun e w' => e = .returned (.agg #[.bool true, .bool true, .bool false, .bool true, .bool false, .bool true]) ∧ Below w0.heap.size w0 w' := by
  refine z_enter Tryd.func57 rfl ?_
  have H := Hs.nil w0
  refine x_seq <| x_region <| z_box H #[.bool false, .bool false, .bool false, .bool false, .bool false, .bool false] 104 (fun v1 g1 H => ?_)
  refine x_nil <| x_then <| x_seq <| x_region <| x_b H [.m, .m, .m, .m, .m, .m, .m, .m, .m, .m, .m] <| z_store H 0 0 [.bool true, .bool true, .bool false, .bool true, .bool false, .bool true] (fun v2 H => ?_)
  refine x_nil <| x_then <| x_retc <| x_ret (.agg #[.bool true, .bool true, .bool false, .bool true, .bool false, .bool true]) (by kernel_rfl) (x_rescell H 0 g1 0 #[.bool true, .bool true, .bool false, .bool true, .bool false, .bool true] 104 [.bool true, .bool true, .bool false, .bool true, .bool false, .bool true] (fun x => x) (by kernel_rfl) (by kernel_rfl) (by kernel_rfl)) ?_
  exact ⟨rfl, H.below⟩
set_option maxRecDepth 100000 in
set_option maxHeartbeats 4000000 in
theorem Word_4  (w0 : World) :
    Calls Tryd.prog 58 #[.int .i64 4] w0 fun e w' => e = .returned (S (faultB 4)) ∧ Below w0.heap.size w0 w' := by
  refine z_enter Tryd.func58 rfl ?_
  have H := Hs.nil w0
  refine x_seq <| x_region <| x_b H [.m] <| x_nil <| x_then <| x_seq <| x_region ?_
  refine x_b H [.m, .m, .m, .m] <| x_nil <| x_then <| x_retc <| x_ret (S ([99, 111, 108, 117, 109, 110] : List UInt8)) (by kernel_rfl) (by kernel_rfl) ?_
  exact ⟨rfl, H.below⟩
set_option maxRecDepth 100000 in
set_option maxHeartbeats 4000000 in
theorem Has_4  (w0 : World) :
    Calls Tryd.prog 57 #[.int .i64 4] w0 fun e w' => e = .returned (.agg #[.bool true, .bool false, .bool true, .bool true, .bool false, .bool true]) ∧ Below w0.heap.size w0 w' := by
  refine z_enter Tryd.func57 rfl ?_
  have H := Hs.nil w0
  refine x_seq <| x_region <| z_box H #[.bool false, .bool false, .bool false, .bool false, .bool false, .bool false] 104 (fun v1 g1 H => ?_)
  refine x_nil <| x_then <| x_seq <| x_region <| x_b H [.m, .m, .m, .m, .m, .m, .m, .m, .m, .m, .m] <| z_store H 0 0 [.bool true, .bool false, .bool true, .bool true, .bool false, .bool true] (fun v2 H => ?_)
  refine x_nil <| x_then <| x_retc <| x_ret (.agg #[.bool true, .bool false, .bool true, .bool true, .bool false, .bool true]) (by kernel_rfl) (x_rescell H 0 g1 0 #[.bool true, .bool false, .bool true, .bool true, .bool false, .bool true] 104 [.bool true, .bool false, .bool true, .bool true, .bool false, .bool true] (fun x => x) (by kernel_rfl) (by kernel_rfl) (by kernel_rfl)) ?_
  exact ⟨rfl, H.below⟩
set_option maxRecDepth 100000 in
set_option maxHeartbeats 4000000 in
theorem Word_5  (w0 : World) :
    Calls Tryd.prog 58 #[.int .i64 5] w0 fun e w' => e = .returned (S (faultB 5)) ∧ Below w0.heap.size w0 w' := by
  refine z_enter Tryd.func58 rfl ?_
  have H := Hs.nil w0
  refine x_seq <| x_region <| x_b H [.m] <| x_nil <| x_then <| x_seq <| x_region ?_
  refine x_b H [.m, .m, .m, .m] <| x_nil <| x_then <| x_retc <| x_ret (S ([99, 104, 105, 112] : List UInt8)) (by kernel_rfl) (by kernel_rfl) ?_
  exact ⟨rfl, H.below⟩
set_option maxRecDepth 100000 in
set_option maxHeartbeats 4000000 in
theorem Has_5  (w0 : World) :
    Calls Tryd.prog 57 #[.int .i64 5] w0 fun e w' => e = .returned (.agg #[.bool false, .bool false, .bool false, .bool true, .bool false, .bool true]) ∧ Below w0.heap.size w0 w' := by
  refine z_enter Tryd.func57 rfl ?_
  have H := Hs.nil w0
  refine x_seq <| x_region <| z_box H #[.bool false, .bool false, .bool false, .bool false, .bool false, .bool false] 104 (fun v1 g1 H => ?_)
  refine x_nil <| x_then <| x_seq <| x_region <| x_b H [.m, .m, .m, .m, .m, .m, .m, .m, .m, .m, .m] <| z_store H 0 0 [.bool false, .bool false, .bool false, .bool true, .bool false, .bool true] (fun v2 H => ?_)
  refine x_nil <| x_then <| x_retc <| x_ret (.agg #[.bool false, .bool false, .bool false, .bool true, .bool false, .bool true]) (by kernel_rfl) (x_rescell H 0 g1 0 #[.bool false, .bool false, .bool false, .bool true, .bool false, .bool true] 104 [.bool false, .bool false, .bool false, .bool true, .bool false, .bool true] (fun x => x) (by kernel_rfl) (by kernel_rfl) (by kernel_rfl)) ?_
  exact ⟨rfl, H.below⟩
set_option maxRecDepth 100000 in
set_option maxHeartbeats 4000000 in
theorem Word_6  (w0 : World) :
    Calls Tryd.prog 58 #[.int .i64 6] w0 fun e w' => e = .returned (S (faultB 6)) ∧ Below w0.heap.size w0 w' := by
  refine z_enter Tryd.func58 rfl ?_
  have H := Hs.nil w0
  refine x_seq <| x_region <| x_b H [.m] <| x_nil <| x_then <| x_seq <| x_region ?_
  refine x_b H [.m, .m, .m, .m] <| x_nil <| x_then <| x_retc <| x_ret (S ([115, 116, 114, 97, 121] : List UInt8)) (by kernel_rfl) (by kernel_rfl) ?_
  exact ⟨rfl, H.below⟩
set_option maxRecDepth 100000 in
set_option maxHeartbeats 4000000 in
theorem Has_6  (w0 : World) :
    Calls Tryd.prog 57 #[.int .i64 6] w0 fun e w' => e = .returned (.agg #[.bool true, .bool true, .bool true, .bool false, .bool false, .bool false]) ∧ Below w0.heap.size w0 w' := by
  refine z_enter Tryd.func57 rfl ?_
  have H := Hs.nil w0
  refine x_seq <| x_region <| z_box H #[.bool false, .bool false, .bool false, .bool false, .bool false, .bool false] 104 (fun v1 g1 H => ?_)
  refine x_nil <| x_then <| x_seq <| x_region <| x_b H [.m, .m, .m, .m, .m, .m, .m, .m, .m, .m, .m] <| z_store H 0 0 [.bool true, .bool true, .bool true, .bool false, .bool false, .bool false] (fun v2 H => ?_)
  refine x_nil <| x_then <| x_retc <| x_ret (.agg #[.bool true, .bool true, .bool true, .bool false, .bool false, .bool false]) (by kernel_rfl) (x_rescell H 0 g1 0 #[.bool true, .bool true, .bool true, .bool false, .bool false, .bool false] 104 [.bool true, .bool true, .bool true, .bool false, .bool false, .bool false] (fun x => x) (by kernel_rfl) (by kernel_rfl) (by kernel_rfl)) ?_
  exact ⟨rfl, H.below⟩
set_option maxRecDepth 100000 in
set_option maxHeartbeats 4000000 in
theorem Word_7  (w0 : World) :
    Calls Tryd.prog 58 #[.int .i64 7] w0 fun e w' => e = .returned (S (faultB 7)) ∧ Below w0.heap.size w0 w' := by
  refine z_enter Tryd.func58 rfl ?_
  have H := Hs.nil w0
  refine x_seq <| x_region <| x_b H [.m] <| x_nil <| x_then <| x_seq <| x_region ?_
  refine x_b H [.m, .m, .m, .m] <| x_nil <| x_then <| x_retc <| x_ret (S ([100, 114, 111, 112] : List UInt8)) (by kernel_rfl) (by kernel_rfl) ?_
  exact ⟨rfl, H.below⟩
set_option maxRecDepth 100000 in
set_option maxHeartbeats 4000000 in
theorem Has_7  (w0 : World) :
    Calls Tryd.prog 57 #[.int .i64 7] w0 fun e w' => e = .returned (.agg #[.bool false, .bool false, .bool false, .bool false, .bool false, .bool false]) ∧ Below w0.heap.size w0 w' := by
  refine z_enter Tryd.func57 rfl ?_
  have H := Hs.nil w0
  refine x_seq <| x_region <| z_box H #[.bool false, .bool false, .bool false, .bool false, .bool false, .bool false] 104 (fun v1 g1 H => ?_)
  refine x_nil <| x_then <| x_seq <| x_region <| x_b H [.m, .m, .m, .m, .m, .m, .m, .m, .m, .m, .m] <| z_store H 0 0 [.bool false, .bool false, .bool false, .bool false, .bool false, .bool false] (fun v2 H => ?_)
  refine x_nil <| x_then <| x_retc <| x_ret (.agg #[.bool false, .bool false, .bool false, .bool false, .bool false, .bool false]) (by kernel_rfl) (x_rescell H 0 g1 0 #[.bool false, .bool false, .bool false, .bool false, .bool false, .bool false] 104 [.bool false, .bool false, .bool false, .bool false, .bool false, .bool false] (fun x => x) (by kernel_rfl) (by kernel_rfl) (by kernel_rfl)) ?_
  exact ⟨rfl, H.below⟩
def tB (w : List UInt8) (l : List Int) : List UInt8 := l.foldl (fun t n => t ++ (([32] : List UInt8) ++ itoa n)) w
theorem tB_len {w : List UInt8} {l : List Int} (hw : w.length ≤ 6) (h : ∀ n ∈ l, (itoa n).length ≤ 22) (h2 : l.length ≤ 8) : (tB w l).length ≤ 200 := by
  have key : ∀ (l : List Int) (w : List UInt8), (∀ n ∈ l, (itoa n).length ≤ 22) → (tB w l).length ≤ w.length + 23 * l.length := by
    intro l
    induction l with
    | nil => intro w _; simp [tB]
    | cons a r ih =>
      intro w h
      have h1 := ih (w ++ (([32] : List UInt8) ++ itoa a)) fun n hn => h n (by simp [hn])
      have h3 := h a (by simp)
      show (tB (w ++ (([32] : List UInt8) ++ itoa a)) r).length ≤ _
      simp only [List.length_append, List.length_cons, List.length_nil] at h1 ⊢
      omega
  have := key l w h
  omega
set_option maxRecDepth 100000 in
set_option maxHeartbeats 4000000 in
theorem broken_y1 {rk bk ro co ch bi va : Int} (hx : Rng (⟨8, 0, fun _ => 0, 0, 1, rk, bk, ro, co, ch, bi, va⟩ : Stp)) (hz : (ch = 0 ∧ va = 0)) (w0 : World) :
    Calls Tryd.prog 36 #[.agg #[.int .i64 1, .int .i64 rk, .int .i64 bk, .int .i64 ro, .int .i64 co, .int .i64 ch, .int .i64 bi, .int .i64 va]] w0 fun e w' => e = .returned (.tuple #[S (txtS (⟨8, 0, fun _ => 0, 0, 1, rk, bk, ro, co, ch, bi, va⟩ : Stp)), .bool true]) ∧ Below w0.heap.size w0 w' := by
  refine z_enter Tryd.func36 rfl ?_
  have H := Hs.nil w0
  have fl := faultLen 1
  have l_rk : (itoa rk).length ≤ 22 := itl hx.rk
  have l_bk : (itoa bk).length ≤ 22 := itl hx.bk
  have l_ro : (itoa ro).length ≤ 22 := itl hx.ro
  have l_co : (itoa co).length ≤ 22 := itl hx.co
  have l_ch : (itoa ch).length ≤ 22 := itl hx.ch
  have l_bi : (itoa bi).length ≤ 22 := itl hx.bi
  have l_va : (itoa va).length ≤ 22 := itl hx.va
  refine x_seq <| x_region <| z_box H #[.int .i64 1, .int .i64 rk, .int .i64 bk, .int .i64 ro, .int .i64 co, .int .i64 ch, .int .i64 bi, .int .i64 va] 39 (fun v1 g1 H => ?_)
  refine x_b H [.m, .m] <| x_nil <| x_then <| x_seq <| x_seq <| x_region <| x_b H [.m, .l 0 0, .m, .m, .m, .l 0 0, .m, .m] ?_
  refine x_nil <| x_then <| x_f (by kernel_rfl) <| x_skipc <| x_then <| x_seq <| x_region ?_
  refine x_b H [.m, .l 0 0] <| z_callB H (Has_1 _) fun v2 H => z_box H #[.bool false, .bool false, .bool false, .bool false, .bool false, .bool false] 104 (fun v3 g2 H => ?_)
  refine z_store H 0 0 [.bool true, .bool true, .bool true, .bool false, .bool true, .bool false] (fun v4 H => ?_)
  refine x_nil <| x_then <| x_seq <| x_region <| x_b H [.m, .l 1 0] <| z_callB H (Word_1 _) fun v5 H => x_b H [.m] ?_
  refine x_nil <| x_then <| x_seq <| x_seq <| x_region <| x_b H [.m, .l 1 0, .m] <| x_nil ?_
  refine x_then <| x_t (by kernel_rfl) <| x_region <| x_b H [.m, .m, .m, .l 1 1] <| z_callB H (Number_of hx.rk _) fun v6 H => x_val (S (([32] : List UInt8) ++ (itoa rk))) (by kernel_rfl) rfl (Eq.trans (by kernel_rfl) (strAdd (P := Tryd.prog) (t := 9) (a := ([32] : List UInt8)) (b := itoa rk) (by simp only [List.length_append, List.length_cons, List.length_nil]; omega))) <| x_val (S (tB (faultB 1) [rk])) (by kernel_rfl) rfl (Eq.trans (by kernel_rfl) (strAdd (P := Tryd.prog) (t := 9) (a := tB (faultB 1) []) (b := ([32] : List UInt8) ++ (itoa rk)) (by have q := tB_len (w := faultB 1) (l := []) fl (by simp <;> omega) (by simp); simp only [List.length_append, List.length_cons, List.length_nil]; omega))) ?_
  refine x_b H [.m] <| x_nil <| x_then <| x_seq <| x_seq <| x_region <| x_b H [.m, .m, .l 1 2, .m, .m, .l 1 3, .m, .m, .l 1 4, .m, .l 1 5, .m, .l 1 6, .m, .l 1 7, .m, .m] ?_
  refine x_nil <| z_fr 68 [(4, .pointer (some ⟨g2, 0, none⟩)), (5, S (tB (faultB 1) [rk])), (51, .agg #[.int .i64 bk, .int .i64 ro, .int .i64 co, .int .i64 ch, .int .i64 bi, .int .i64 va]), (52, .int .i64 0)] [] fun uf1 => x_then <| x_block <| x_loop (G := Nat) (fun (c : Nat) a w' => ∃ uf2 : Nat → Value, a = frm 68 uf2 [(4, .pointer (some ⟨g2, 0, none⟩)), (5, S (([tB (faultB 1) [rk], tB (faultB 1) [rk, bk], tB (faultB 1) [rk, bk, ro], tB (faultB 1) [rk, bk, ro, co], tB (faultB 1) [rk, bk, ro, co], tB (faultB 1) [rk, bk, ro, co, bi], tB (faultB 1) [rk, bk, ro, co, bi]] : List (List UInt8)).getD c [])), (51, .agg #[.int .i64 bk, .int .i64 ro, .int .i64 co, .int .i64 ch, .int .i64 bi, .int .i64 va]), (52, .int .i64 (c : Int))] [] ∧ Hs [] w0 w' [.blk g2 #[.bool true, .bool true, .bool true, .bool false, .bool true, .bool false] 104, .blk g1 #[.int .i64 1, .int .i64 rk, .int .i64 bk, .int .i64 ro, .int .i64 co, .int .i64 ch, .int .i64 bi, .int .i64 va] 39] ∧ (c ≤ 6) ∧ (3 < c → ch = 0) ∧ (5 < c → va = 0)) (fun (c : Nat) => 6 - c) 0 ⟨_, frm_of, H, (Nat.zero_le _), (by omega), (by omega)⟩ ?_
  clear H
  rintro c _ v7 ⟨uf2, rfl, H, r1, r2, r3⟩
  rcases (show c = 0 ∨ c = 1 ∨ c = 2 ∨ c = 3 ∨ c = 4 ∨ c = 5 ∨ c = 6 by omega) with rfl | rfl | rfl | rfl | rfl | rfl | rfl
  · skip
    replace H : Hs [] w0 _ [.blk g2 #[.bool true, .bool true, .bool true, .bool false, .bool true, .bool false] 104, .blk g1 #[.int .i64 1, .int .i64 rk, .int .i64 bk, .int .i64 ro, .int .i64 co, .int .i64 ch, .int .i64 bi, .int .i64 va] 39] := hsAs H (by kernel_rfl)
    refine x_seq <| x_region <| x_b H [.m] <| x_nil <| x_then <| x_seq <| x_t (by kernel_rfl) ?_
    refine x_skipc <| x_then <| x_seq <| x_block <| x_seq <| x_region <| x_b H [.m, .m, .m, .m] ?_
    refine x_nil <| x_then <| x_seq <| x_region <| x_b H [.m, .m, .l 0 0] <| x_nil <| x_then ?_
    refine x_t (by kernel_rfl) <| x_region <| x_b H [.m, .m] <| z_callB H (Number_of hx.bk _) fun v8 H => x_val (S (([32] : List UInt8) ++ (itoa bk))) (by kernel_rfl) rfl (Eq.trans (by kernel_rfl) (strAdd (P := Tryd.prog) (t := 9) (a := ([32] : List UInt8)) (b := itoa bk) (by simp only [List.length_append, List.length_cons, List.length_nil]; omega))) <| x_val (S (tB (faultB 1) [rk, bk])) (by kernel_rfl) rfl (Eq.trans (by kernel_rfl) (strAdd (P := Tryd.prog) (t := 9) (a := tB (faultB 1) [rk]) (b := ([32] : List UInt8) ++ (itoa bk)) (by have q := tB_len (w := faultB 1) (l := [rk]) fl (by simp <;> omega) (by simp); simp only [List.length_append, List.length_cons, List.length_nil]; omega))) <| x_b H [.m] ?_
    refine x_nil <| x_blk <| x_then <| x_region <| x_b H [.m, .m] <| x_nil <| x_then ?_
    replace H := H.pk [0, 1]
    replace H : Hs [] w0 _ [.blk g2 #[.bool true, .bool true, .bool true, .bool false, .bool true, .bool false] 104, .blk g1 #[.int .i64 1, .int .i64 rk, .int .i64 bk, .int .i64 ro, .int .i64 co, .int .i64 ch, .int .i64 bi, .int .i64 va] 39] := hsAs H (by kernel_rfl)
    exact ⟨1, (by omega), _, frm_of, H, (by omega), (by omega), (by omega)⟩
  · skip
    replace H : Hs [] w0 _ [.blk g2 #[.bool true, .bool true, .bool true, .bool false, .bool true, .bool false] 104, .blk g1 #[.int .i64 1, .int .i64 rk, .int .i64 bk, .int .i64 ro, .int .i64 co, .int .i64 ch, .int .i64 bi, .int .i64 va] 39] := hsAs H (by kernel_rfl)
    refine x_seq <| x_region <| x_b H [.m] <| x_nil <| x_then <| x_seq <| x_t (by kernel_rfl) ?_
    refine x_skipc <| x_then <| x_seq <| x_block <| x_seq <| x_region <| x_b H [.m, .m, .m, .m] ?_
    refine x_nil <| x_then <| x_seq <| x_region <| x_b H [.m, .m, .l 0 1] <| x_nil <| x_then ?_
    refine x_t (by kernel_rfl) <| x_region <| x_b H [.m, .m] <| z_callB H (Number_of hx.ro _) fun v9 H => x_val (S (([32] : List UInt8) ++ (itoa ro))) (by kernel_rfl) rfl (Eq.trans (by kernel_rfl) (strAdd (P := Tryd.prog) (t := 9) (a := ([32] : List UInt8)) (b := itoa ro) (by simp only [List.length_append, List.length_cons, List.length_nil]; omega))) <| x_val (S (tB (faultB 1) [rk, bk, ro])) (by kernel_rfl) rfl (Eq.trans (by kernel_rfl) (strAdd (P := Tryd.prog) (t := 9) (a := tB (faultB 1) [rk, bk]) (b := ([32] : List UInt8) ++ (itoa ro)) (by have q := tB_len (w := faultB 1) (l := [rk, bk]) fl (by simp <;> omega) (by simp); simp only [List.length_append, List.length_cons, List.length_nil]; omega))) <| x_b H [.m] ?_
    refine x_nil <| x_blk <| x_then <| x_region <| x_b H [.m, .m] <| x_nil <| x_then ?_
    replace H := H.pk [0, 1]
    replace H : Hs [] w0 _ [.blk g2 #[.bool true, .bool true, .bool true, .bool false, .bool true, .bool false] 104, .blk g1 #[.int .i64 1, .int .i64 rk, .int .i64 bk, .int .i64 ro, .int .i64 co, .int .i64 ch, .int .i64 bi, .int .i64 va] 39] := hsAs H (by kernel_rfl)
    exact ⟨2, (by omega), _, frm_of, H, (by omega), (by omega), (by omega)⟩
  · skip
    replace H : Hs [] w0 _ [.blk g2 #[.bool true, .bool true, .bool true, .bool false, .bool true, .bool false] 104, .blk g1 #[.int .i64 1, .int .i64 rk, .int .i64 bk, .int .i64 ro, .int .i64 co, .int .i64 ch, .int .i64 bi, .int .i64 va] 39] := hsAs H (by kernel_rfl)
    refine x_seq <| x_region <| x_b H [.m] <| x_nil <| x_then <| x_seq <| x_t (by kernel_rfl) ?_
    refine x_skipc <| x_then <| x_seq <| x_block <| x_seq <| x_region <| x_b H [.m, .m, .m, .m] ?_
    refine x_nil <| x_then <| x_seq <| x_region <| x_b H [.m, .m, .l 0 2] <| x_nil <| x_then ?_
    refine x_t (by kernel_rfl) <| x_region <| x_b H [.m, .m] <| z_callB H (Number_of hx.co _) fun v10 H => x_val (S (([32] : List UInt8) ++ (itoa co))) (by kernel_rfl) rfl (Eq.trans (by kernel_rfl) (strAdd (P := Tryd.prog) (t := 9) (a := ([32] : List UInt8)) (b := itoa co) (by simp only [List.length_append, List.length_cons, List.length_nil]; omega))) <| x_val (S (tB (faultB 1) [rk, bk, ro, co])) (by kernel_rfl) rfl (Eq.trans (by kernel_rfl) (strAdd (P := Tryd.prog) (t := 9) (a := tB (faultB 1) [rk, bk, ro]) (b := ([32] : List UInt8) ++ (itoa co)) (by have q := tB_len (w := faultB 1) (l := [rk, bk, ro]) fl (by simp <;> omega) (by simp); simp only [List.length_append, List.length_cons, List.length_nil]; omega))) <| x_b H [.m] ?_
    refine x_nil <| x_blk <| x_then <| x_region <| x_b H [.m, .m] <| x_nil <| x_then ?_
    replace H := H.pk [0, 1]
    replace H : Hs [] w0 _ [.blk g2 #[.bool true, .bool true, .bool true, .bool false, .bool true, .bool false] 104, .blk g1 #[.int .i64 1, .int .i64 rk, .int .i64 bk, .int .i64 ro, .int .i64 co, .int .i64 ch, .int .i64 bi, .int .i64 va] 39] := hsAs H (by kernel_rfl)
    exact ⟨3, (by omega), _, frm_of, H, (by omega), (by omega), (by omega)⟩
  · skip
    replace H : Hs [] w0 _ [.blk g2 #[.bool true, .bool true, .bool true, .bool false, .bool true, .bool false] 104, .blk g1 #[.int .i64 1, .int .i64 rk, .int .i64 bk, .int .i64 ro, .int .i64 co, .int .i64 ch, .int .i64 bi, .int .i64 va] 39] := hsAs H (by kernel_rfl)
    refine x_seq <| x_region <| x_b H [.m] <| x_nil <| x_then <| x_seq <| x_t (by kernel_rfl) ?_
    refine x_skipc <| x_then <| x_seq <| x_block <| x_seq <| x_region <| x_b H [.m, .m, .m, .m] ?_
    refine x_nil <| x_then <| x_seq <| x_region <| x_b H [.m, .m, .l 0 3] <| x_nil <| x_then ?_
    refine x_f (by kernel_rfl) <| x_seq <| x_region <| x_b H [.m, .v (.bool (!(decide (ch = 0))))] <| x_nil <| x_then ?_
    cases h1 : decide (ch = 0)
    · skip
      have h1p := of_decide_eq_false h1
      exact absurd (by omega) h1p
    have h1p := of_decide_eq_true h1
    refine x_f (by kernel_rfl) <| x_skipc <| x_blk <| x_then <| x_region <| x_b H [.m, .m] <| x_nil ?_
    refine x_then ?_
    replace H := H.pk [0, 1]
    replace H : Hs [] w0 _ [.blk g2 #[.bool true, .bool true, .bool true, .bool false, .bool true, .bool false] 104, .blk g1 #[.int .i64 1, .int .i64 rk, .int .i64 bk, .int .i64 ro, .int .i64 co, .int .i64 ch, .int .i64 bi, .int .i64 va] 39] := hsAs H (by kernel_rfl)
    exact ⟨4, (by omega), _, frm_of, H, (by omega), (by omega), (by omega)⟩
  · skip
    replace H : Hs [] w0 _ [.blk g2 #[.bool true, .bool true, .bool true, .bool false, .bool true, .bool false] 104, .blk g1 #[.int .i64 1, .int .i64 rk, .int .i64 bk, .int .i64 ro, .int .i64 co, .int .i64 ch, .int .i64 bi, .int .i64 va] 39] := hsAs H (by kernel_rfl)
    refine x_seq <| x_region <| x_b H [.m] <| x_nil <| x_then <| x_seq <| x_t (by kernel_rfl) ?_
    refine x_skipc <| x_then <| x_seq <| x_block <| x_seq <| x_region <| x_b H [.m, .m, .m, .m] ?_
    refine x_nil <| x_then <| x_seq <| x_region <| x_b H [.m, .m, .l 0 4] <| x_nil <| x_then ?_
    refine x_t (by kernel_rfl) <| x_region <| x_b H [.m, .m] <| z_callB H (Number_of hx.bi _) fun v11 H => x_val (S (([32] : List UInt8) ++ (itoa bi))) (by kernel_rfl) rfl (Eq.trans (by kernel_rfl) (strAdd (P := Tryd.prog) (t := 9) (a := ([32] : List UInt8)) (b := itoa bi) (by simp only [List.length_append, List.length_cons, List.length_nil]; omega))) <| x_val (S (tB (faultB 1) [rk, bk, ro, co, bi])) (by kernel_rfl) rfl (Eq.trans (by kernel_rfl) (strAdd (P := Tryd.prog) (t := 9) (a := tB (faultB 1) [rk, bk, ro, co]) (b := ([32] : List UInt8) ++ (itoa bi)) (by have q := tB_len (w := faultB 1) (l := [rk, bk, ro, co]) fl (by simp <;> omega) (by simp); simp only [List.length_append, List.length_cons, List.length_nil]; omega))) <| x_b H [.m] ?_
    refine x_nil <| x_blk <| x_then <| x_region <| x_b H [.m, .m] <| x_nil <| x_then ?_
    replace H := H.pk [0, 1]
    replace H : Hs [] w0 _ [.blk g2 #[.bool true, .bool true, .bool true, .bool false, .bool true, .bool false] 104, .blk g1 #[.int .i64 1, .int .i64 rk, .int .i64 bk, .int .i64 ro, .int .i64 co, .int .i64 ch, .int .i64 bi, .int .i64 va] 39] := hsAs H (by kernel_rfl)
    exact ⟨5, (by omega), _, frm_of, H, (by omega), (by omega), (by omega)⟩
  · skip
    replace H : Hs [] w0 _ [.blk g2 #[.bool true, .bool true, .bool true, .bool false, .bool true, .bool false] 104, .blk g1 #[.int .i64 1, .int .i64 rk, .int .i64 bk, .int .i64 ro, .int .i64 co, .int .i64 ch, .int .i64 bi, .int .i64 va] 39] := hsAs H (by kernel_rfl)
    refine x_seq <| x_region <| x_b H [.m] <| x_nil <| x_then <| x_seq <| x_t (by kernel_rfl) ?_
    refine x_skipc <| x_then <| x_seq <| x_block <| x_seq <| x_region <| x_b H [.m, .m, .m, .m] ?_
    refine x_nil <| x_then <| x_seq <| x_region <| x_b H [.m, .m, .l 0 5] <| x_nil <| x_then ?_
    refine x_f (by kernel_rfl) <| x_seq <| x_region <| x_b H [.m, .v (.bool (!(decide (va = 0))))] <| x_nil <| x_then ?_
    cases h2 : decide (va = 0)
    · skip
      have h2p := of_decide_eq_false h2
      exact absurd (by omega) h2p
    have h2p := of_decide_eq_true h2
    refine x_f (by kernel_rfl) <| x_skipc <| x_blk <| x_then <| x_region <| x_b H [.m, .m] <| x_nil ?_
    refine x_then ?_
    replace H := H.pk [0, 1]
    replace H : Hs [] w0 _ [.blk g2 #[.bool true, .bool true, .bool true, .bool false, .bool true, .bool false] 104, .blk g1 #[.int .i64 1, .int .i64 rk, .int .i64 bk, .int .i64 ro, .int .i64 co, .int .i64 ch, .int .i64 bi, .int .i64 va] 39] := hsAs H (by kernel_rfl)
    exact ⟨6, (by omega), _, frm_of, H, (by omega), (by omega), (by omega)⟩
  · skip
    replace H : Hs [] w0 _ [.blk g2 #[.bool true, .bool true, .bool true, .bool false, .bool true, .bool false] 104, .blk g1 #[.int .i64 1, .int .i64 rk, .int .i64 bk, .int .i64 ro, .int .i64 co, .int .i64 ch, .int .i64 bi, .int .i64 va] 39] := hsAs H (by kernel_rfl)
    refine x_seq <| x_region <| x_b H [.m] <| x_nil <| x_then <| x_seq <| x_f (by kernel_rfl) ?_
    refine x_exit <| x_then_exit <| x_then_exit <| x_blk_exit <| x_then <| x_seq <| x_region ?_
    refine x_b H [.m, .m, .m] <| x_nil <| x_then <| x_retc <| x_ret (.tuple #[S (tB (faultB 1) [rk, bk, ro, co, bi]), .bool true]) (by kernel_rfl) (by kernel_rfl) ?_
    exact ⟨by rw [show txtS (⟨8, 0, fun _ => 0, 0, 1, rk, bk, ro, co, ch, bi, va⟩ : Stp) = Lib.join (faultB 1 :: (numsS (⟨8, 0, fun _ => 0, 0, 1, rk, bk, ro, co, ch, bi, va⟩ : Stp)).map itoa) [32] from rfl]; simp [tB, numsS, Lib.join, List.intercalate], H.below⟩
set_option maxRecDepth 100000 in
set_option maxHeartbeats 4000000 in
theorem broken_n1 {rk bk ro co ch bi va : Int} (hx : Rng (⟨8, 0, fun _ => 0, 0, 1, rk, bk, ro, co, ch, bi, va⟩ : Stp)) (hz : ¬ (ch = 0 ∧ va = 0)) (w0 : World) :
    Calls Tryd.prog 36 #[.agg #[.int .i64 1, .int .i64 rk, .int .i64 bk, .int .i64 ro, .int .i64 co, .int .i64 ch, .int .i64 bi, .int .i64 va]] w0 fun e w' => e = .returned (.tuple #[S [], .bool false]) ∧ Below w0.heap.size w0 w' := by
  refine z_enter Tryd.func36 rfl ?_
  have H := Hs.nil w0
  have fl := faultLen 1
  have l_rk : (itoa rk).length ≤ 22 := itl hx.rk
  have l_bk : (itoa bk).length ≤ 22 := itl hx.bk
  have l_ro : (itoa ro).length ≤ 22 := itl hx.ro
  have l_co : (itoa co).length ≤ 22 := itl hx.co
  have l_ch : (itoa ch).length ≤ 22 := itl hx.ch
  have l_bi : (itoa bi).length ≤ 22 := itl hx.bi
  have l_va : (itoa va).length ≤ 22 := itl hx.va
  refine x_seq <| x_region <| z_box H #[.int .i64 1, .int .i64 rk, .int .i64 bk, .int .i64 ro, .int .i64 co, .int .i64 ch, .int .i64 bi, .int .i64 va] 39 (fun v1 g1 H => ?_)
  refine x_b H [.m, .m] <| x_nil <| x_then <| x_seq <| x_seq <| x_region <| x_b H [.m, .l 0 0, .m, .m, .m, .l 0 0, .m, .m] ?_
  refine x_nil <| x_then <| x_f (by kernel_rfl) <| x_skipc <| x_then <| x_seq <| x_region ?_
  refine x_b H [.m, .l 0 0] <| z_callB H (Has_1 _) fun v2 H => z_box H #[.bool false, .bool false, .bool false, .bool false, .bool false, .bool false] 104 (fun v3 g2 H => ?_)
  refine z_store H 0 0 [.bool true, .bool true, .bool true, .bool false, .bool true, .bool false] (fun v4 H => ?_)
  refine x_nil <| x_then <| x_seq <| x_region <| x_b H [.m, .l 1 0] <| z_callB H (Word_1 _) fun v5 H => x_b H [.m] ?_
  refine x_nil <| x_then <| x_seq <| x_seq <| x_region <| x_b H [.m, .l 1 0, .m] <| x_nil ?_
  refine x_then <| x_t (by kernel_rfl) <| x_region <| x_b H [.m, .m, .m, .l 1 1] <| z_callB H (Number_of hx.rk _) fun v6 H => x_val (S (([32] : List UInt8) ++ (itoa rk))) (by kernel_rfl) rfl (Eq.trans (by kernel_rfl) (strAdd (P := Tryd.prog) (t := 9) (a := ([32] : List UInt8)) (b := itoa rk) (by simp only [List.length_append, List.length_cons, List.length_nil]; omega))) <| x_val (S (tB (faultB 1) [rk])) (by kernel_rfl) rfl (Eq.trans (by kernel_rfl) (strAdd (P := Tryd.prog) (t := 9) (a := tB (faultB 1) []) (b := ([32] : List UInt8) ++ (itoa rk)) (by have q := tB_len (w := faultB 1) (l := []) fl (by simp <;> omega) (by simp); simp only [List.length_append, List.length_cons, List.length_nil]; omega))) ?_
  refine x_b H [.m] <| x_nil <| x_then <| x_seq <| x_seq <| x_region <| x_b H [.m, .m, .l 1 2, .m, .m, .l 1 3, .m, .m, .l 1 4, .m, .l 1 5, .m, .l 1 6, .m, .l 1 7, .m, .m] ?_
  refine x_nil <| z_fr 68 [(4, .pointer (some ⟨g2, 0, none⟩)), (5, S (tB (faultB 1) [rk])), (51, .agg #[.int .i64 bk, .int .i64 ro, .int .i64 co, .int .i64 ch, .int .i64 bi, .int .i64 va]), (52, .int .i64 0)] [] fun uf1 => x_then <| x_block <| x_loop (G := Nat) (fun (c : Nat) a w' => ∃ uf2 : Nat → Value, a = frm 68 uf2 [(4, .pointer (some ⟨g2, 0, none⟩)), (5, S (([tB (faultB 1) [rk], tB (faultB 1) [rk, bk], tB (faultB 1) [rk, bk, ro], tB (faultB 1) [rk, bk, ro, co], tB (faultB 1) [rk, bk, ro, co], tB (faultB 1) [rk, bk, ro, co, bi], tB (faultB 1) [rk, bk, ro, co, bi]] : List (List UInt8)).getD c [])), (51, .agg #[.int .i64 bk, .int .i64 ro, .int .i64 co, .int .i64 ch, .int .i64 bi, .int .i64 va]), (52, .int .i64 (c : Int))] [] ∧ Hs [] w0 w' [.blk g2 #[.bool true, .bool true, .bool true, .bool false, .bool true, .bool false] 104, .blk g1 #[.int .i64 1, .int .i64 rk, .int .i64 bk, .int .i64 ro, .int .i64 co, .int .i64 ch, .int .i64 bi, .int .i64 va] 39] ∧ (c ≤ 6) ∧ (3 < c → ch = 0) ∧ (5 < c → va = 0)) (fun (c : Nat) => 6 - c) 0 ⟨_, frm_of, H, (Nat.zero_le _), (by omega), (by omega)⟩ ?_
  clear H
  rintro c _ v7 ⟨uf2, rfl, H, r1, r2, r3⟩
  rcases (show c = 0 ∨ c = 1 ∨ c = 2 ∨ c = 3 ∨ c = 4 ∨ c = 5 ∨ c = 6 by omega) with rfl | rfl | rfl | rfl | rfl | rfl | rfl
  · skip
    replace H : Hs [] w0 _ [.blk g2 #[.bool true, .bool true, .bool true, .bool false, .bool true, .bool false] 104, .blk g1 #[.int .i64 1, .int .i64 rk, .int .i64 bk, .int .i64 ro, .int .i64 co, .int .i64 ch, .int .i64 bi, .int .i64 va] 39] := hsAs H (by kernel_rfl)
    refine x_seq <| x_region <| x_b H [.m] <| x_nil <| x_then <| x_seq <| x_t (by kernel_rfl) ?_
    refine x_skipc <| x_then <| x_seq <| x_block <| x_seq <| x_region <| x_b H [.m, .m, .m, .m] ?_
    refine x_nil <| x_then <| x_seq <| x_region <| x_b H [.m, .m, .l 0 0] <| x_nil <| x_then ?_
    refine x_t (by kernel_rfl) <| x_region <| x_b H [.m, .m] <| z_callB H (Number_of hx.bk _) fun v8 H => x_val (S (([32] : List UInt8) ++ (itoa bk))) (by kernel_rfl) rfl (Eq.trans (by kernel_rfl) (strAdd (P := Tryd.prog) (t := 9) (a := ([32] : List UInt8)) (b := itoa bk) (by simp only [List.length_append, List.length_cons, List.length_nil]; omega))) <| x_val (S (tB (faultB 1) [rk, bk])) (by kernel_rfl) rfl (Eq.trans (by kernel_rfl) (strAdd (P := Tryd.prog) (t := 9) (a := tB (faultB 1) [rk]) (b := ([32] : List UInt8) ++ (itoa bk)) (by have q := tB_len (w := faultB 1) (l := [rk]) fl (by simp <;> omega) (by simp); simp only [List.length_append, List.length_cons, List.length_nil]; omega))) <| x_b H [.m] ?_
    refine x_nil <| x_blk <| x_then <| x_region <| x_b H [.m, .m] <| x_nil <| x_then ?_
    replace H := H.pk [0, 1]
    replace H : Hs [] w0 _ [.blk g2 #[.bool true, .bool true, .bool true, .bool false, .bool true, .bool false] 104, .blk g1 #[.int .i64 1, .int .i64 rk, .int .i64 bk, .int .i64 ro, .int .i64 co, .int .i64 ch, .int .i64 bi, .int .i64 va] 39] := hsAs H (by kernel_rfl)
    exact ⟨1, (by omega), _, frm_of, H, (by omega), (by omega), (by omega)⟩
  · skip
    replace H : Hs [] w0 _ [.blk g2 #[.bool true, .bool true, .bool true, .bool false, .bool true, .bool false] 104, .blk g1 #[.int .i64 1, .int .i64 rk, .int .i64 bk, .int .i64 ro, .int .i64 co, .int .i64 ch, .int .i64 bi, .int .i64 va] 39] := hsAs H (by kernel_rfl)
    refine x_seq <| x_region <| x_b H [.m] <| x_nil <| x_then <| x_seq <| x_t (by kernel_rfl) ?_
    refine x_skipc <| x_then <| x_seq <| x_block <| x_seq <| x_region <| x_b H [.m, .m, .m, .m] ?_
    refine x_nil <| x_then <| x_seq <| x_region <| x_b H [.m, .m, .l 0 1] <| x_nil <| x_then ?_
    refine x_t (by kernel_rfl) <| x_region <| x_b H [.m, .m] <| z_callB H (Number_of hx.ro _) fun v9 H => x_val (S (([32] : List UInt8) ++ (itoa ro))) (by kernel_rfl) rfl (Eq.trans (by kernel_rfl) (strAdd (P := Tryd.prog) (t := 9) (a := ([32] : List UInt8)) (b := itoa ro) (by simp only [List.length_append, List.length_cons, List.length_nil]; omega))) <| x_val (S (tB (faultB 1) [rk, bk, ro])) (by kernel_rfl) rfl (Eq.trans (by kernel_rfl) (strAdd (P := Tryd.prog) (t := 9) (a := tB (faultB 1) [rk, bk]) (b := ([32] : List UInt8) ++ (itoa ro)) (by have q := tB_len (w := faultB 1) (l := [rk, bk]) fl (by simp <;> omega) (by simp); simp only [List.length_append, List.length_cons, List.length_nil]; omega))) <| x_b H [.m] ?_
    refine x_nil <| x_blk <| x_then <| x_region <| x_b H [.m, .m] <| x_nil <| x_then ?_
    replace H := H.pk [0, 1]
    replace H : Hs [] w0 _ [.blk g2 #[.bool true, .bool true, .bool true, .bool false, .bool true, .bool false] 104, .blk g1 #[.int .i64 1, .int .i64 rk, .int .i64 bk, .int .i64 ro, .int .i64 co, .int .i64 ch, .int .i64 bi, .int .i64 va] 39] := hsAs H (by kernel_rfl)
    exact ⟨2, (by omega), _, frm_of, H, (by omega), (by omega), (by omega)⟩
  · skip
    replace H : Hs [] w0 _ [.blk g2 #[.bool true, .bool true, .bool true, .bool false, .bool true, .bool false] 104, .blk g1 #[.int .i64 1, .int .i64 rk, .int .i64 bk, .int .i64 ro, .int .i64 co, .int .i64 ch, .int .i64 bi, .int .i64 va] 39] := hsAs H (by kernel_rfl)
    refine x_seq <| x_region <| x_b H [.m] <| x_nil <| x_then <| x_seq <| x_t (by kernel_rfl) ?_
    refine x_skipc <| x_then <| x_seq <| x_block <| x_seq <| x_region <| x_b H [.m, .m, .m, .m] ?_
    refine x_nil <| x_then <| x_seq <| x_region <| x_b H [.m, .m, .l 0 2] <| x_nil <| x_then ?_
    refine x_t (by kernel_rfl) <| x_region <| x_b H [.m, .m] <| z_callB H (Number_of hx.co _) fun v10 H => x_val (S (([32] : List UInt8) ++ (itoa co))) (by kernel_rfl) rfl (Eq.trans (by kernel_rfl) (strAdd (P := Tryd.prog) (t := 9) (a := ([32] : List UInt8)) (b := itoa co) (by simp only [List.length_append, List.length_cons, List.length_nil]; omega))) <| x_val (S (tB (faultB 1) [rk, bk, ro, co])) (by kernel_rfl) rfl (Eq.trans (by kernel_rfl) (strAdd (P := Tryd.prog) (t := 9) (a := tB (faultB 1) [rk, bk, ro]) (b := ([32] : List UInt8) ++ (itoa co)) (by have q := tB_len (w := faultB 1) (l := [rk, bk, ro]) fl (by simp <;> omega) (by simp); simp only [List.length_append, List.length_cons, List.length_nil]; omega))) <| x_b H [.m] ?_
    refine x_nil <| x_blk <| x_then <| x_region <| x_b H [.m, .m] <| x_nil <| x_then ?_
    replace H := H.pk [0, 1]
    replace H : Hs [] w0 _ [.blk g2 #[.bool true, .bool true, .bool true, .bool false, .bool true, .bool false] 104, .blk g1 #[.int .i64 1, .int .i64 rk, .int .i64 bk, .int .i64 ro, .int .i64 co, .int .i64 ch, .int .i64 bi, .int .i64 va] 39] := hsAs H (by kernel_rfl)
    exact ⟨3, (by omega), _, frm_of, H, (by omega), (by omega), (by omega)⟩
  · skip
    replace H : Hs [] w0 _ [.blk g2 #[.bool true, .bool true, .bool true, .bool false, .bool true, .bool false] 104, .blk g1 #[.int .i64 1, .int .i64 rk, .int .i64 bk, .int .i64 ro, .int .i64 co, .int .i64 ch, .int .i64 bi, .int .i64 va] 39] := hsAs H (by kernel_rfl)
    refine x_seq <| x_region <| x_b H [.m] <| x_nil <| x_then <| x_seq <| x_t (by kernel_rfl) ?_
    refine x_skipc <| x_then <| x_seq <| x_block <| x_seq <| x_region <| x_b H [.m, .m, .m, .m] ?_
    refine x_nil <| x_then <| x_seq <| x_region <| x_b H [.m, .m, .l 0 3] <| x_nil <| x_then ?_
    refine x_f (by kernel_rfl) <| x_seq <| x_region <| x_b H [.m, .v (.bool (!(decide (ch = 0))))] <| x_nil <| x_then ?_
    cases h1 : decide (ch = 0)
    · skip
      have h1p := of_decide_eq_false h1
      refine x_t (by kernel_rfl) <| x_seq <| x_region <| x_b H [.m, .m] <| x_nil <| x_then <| x_retc ?_
      refine x_blk_ret <| x_then_ret <| x_then_ret <| x_blk_ret <| x_then_ret <| x_ret (.tuple #[S ([] : List UInt8), .bool false]) (by kernel_rfl) (by kernel_rfl) ?_
      exact ⟨rfl, H.below⟩
    have h1p := of_decide_eq_true h1
    refine x_f (by kernel_rfl) <| x_skipc <| x_blk <| x_then <| x_region <| x_b H [.m, .m] <| x_nil ?_
    refine x_then ?_
    replace H := H.pk [0, 1]
    replace H : Hs [] w0 _ [.blk g2 #[.bool true, .bool true, .bool true, .bool false, .bool true, .bool false] 104, .blk g1 #[.int .i64 1, .int .i64 rk, .int .i64 bk, .int .i64 ro, .int .i64 co, .int .i64 ch, .int .i64 bi, .int .i64 va] 39] := hsAs H (by kernel_rfl)
    exact ⟨4, (by omega), _, frm_of, H, (by omega), (by omega), (by omega)⟩
  · skip
    replace H : Hs [] w0 _ [.blk g2 #[.bool true, .bool true, .bool true, .bool false, .bool true, .bool false] 104, .blk g1 #[.int .i64 1, .int .i64 rk, .int .i64 bk, .int .i64 ro, .int .i64 co, .int .i64 ch, .int .i64 bi, .int .i64 va] 39] := hsAs H (by kernel_rfl)
    refine x_seq <| x_region <| x_b H [.m] <| x_nil <| x_then <| x_seq <| x_t (by kernel_rfl) ?_
    refine x_skipc <| x_then <| x_seq <| x_block <| x_seq <| x_region <| x_b H [.m, .m, .m, .m] ?_
    refine x_nil <| x_then <| x_seq <| x_region <| x_b H [.m, .m, .l 0 4] <| x_nil <| x_then ?_
    refine x_t (by kernel_rfl) <| x_region <| x_b H [.m, .m] <| z_callB H (Number_of hx.bi _) fun v11 H => x_val (S (([32] : List UInt8) ++ (itoa bi))) (by kernel_rfl) rfl (Eq.trans (by kernel_rfl) (strAdd (P := Tryd.prog) (t := 9) (a := ([32] : List UInt8)) (b := itoa bi) (by simp only [List.length_append, List.length_cons, List.length_nil]; omega))) <| x_val (S (tB (faultB 1) [rk, bk, ro, co, bi])) (by kernel_rfl) rfl (Eq.trans (by kernel_rfl) (strAdd (P := Tryd.prog) (t := 9) (a := tB (faultB 1) [rk, bk, ro, co]) (b := ([32] : List UInt8) ++ (itoa bi)) (by have q := tB_len (w := faultB 1) (l := [rk, bk, ro, co]) fl (by simp <;> omega) (by simp); simp only [List.length_append, List.length_cons, List.length_nil]; omega))) <| x_b H [.m] ?_
    refine x_nil <| x_blk <| x_then <| x_region <| x_b H [.m, .m] <| x_nil <| x_then ?_
    replace H := H.pk [0, 1]
    replace H : Hs [] w0 _ [.blk g2 #[.bool true, .bool true, .bool true, .bool false, .bool true, .bool false] 104, .blk g1 #[.int .i64 1, .int .i64 rk, .int .i64 bk, .int .i64 ro, .int .i64 co, .int .i64 ch, .int .i64 bi, .int .i64 va] 39] := hsAs H (by kernel_rfl)
    exact ⟨5, (by omega), _, frm_of, H, (by omega), (by omega), (by omega)⟩
  · skip
    replace H : Hs [] w0 _ [.blk g2 #[.bool true, .bool true, .bool true, .bool false, .bool true, .bool false] 104, .blk g1 #[.int .i64 1, .int .i64 rk, .int .i64 bk, .int .i64 ro, .int .i64 co, .int .i64 ch, .int .i64 bi, .int .i64 va] 39] := hsAs H (by kernel_rfl)
    refine x_seq <| x_region <| x_b H [.m] <| x_nil <| x_then <| x_seq <| x_t (by kernel_rfl) ?_
    refine x_skipc <| x_then <| x_seq <| x_block <| x_seq <| x_region <| x_b H [.m, .m, .m, .m] ?_
    refine x_nil <| x_then <| x_seq <| x_region <| x_b H [.m, .m, .l 0 5] <| x_nil <| x_then ?_
    refine x_f (by kernel_rfl) <| x_seq <| x_region <| x_b H [.m, .v (.bool (!(decide (va = 0))))] <| x_nil <| x_then ?_
    cases h2 : decide (va = 0)
    · skip
      have h2p := of_decide_eq_false h2
      refine x_t (by kernel_rfl) <| x_seq <| x_region <| x_b H [.m, .m] <| x_nil <| x_then <| x_retc ?_
      refine x_blk_ret <| x_then_ret <| x_then_ret <| x_blk_ret <| x_then_ret <| x_ret (.tuple #[S ([] : List UInt8), .bool false]) (by kernel_rfl) (by kernel_rfl) ?_
      exact ⟨rfl, H.below⟩
    have h2p := of_decide_eq_true h2
    refine x_f (by kernel_rfl) <| x_skipc <| x_blk <| x_then <| x_region <| x_b H [.m, .m] <| x_nil ?_
    refine x_then ?_
    replace H := H.pk [0, 1]
    replace H : Hs [] w0 _ [.blk g2 #[.bool true, .bool true, .bool true, .bool false, .bool true, .bool false] 104, .blk g1 #[.int .i64 1, .int .i64 rk, .int .i64 bk, .int .i64 ro, .int .i64 co, .int .i64 ch, .int .i64 bi, .int .i64 va] 39] := hsAs H (by kernel_rfl)
    exact ⟨6, (by omega), _, frm_of, H, (by omega), (by omega), (by omega)⟩
  · skip
    replace H : Hs [] w0 _ [.blk g2 #[.bool true, .bool true, .bool true, .bool false, .bool true, .bool false] 104, .blk g1 #[.int .i64 1, .int .i64 rk, .int .i64 bk, .int .i64 ro, .int .i64 co, .int .i64 ch, .int .i64 bi, .int .i64 va] 39] := hsAs H (by kernel_rfl)
    refine x_seq <| x_region <| x_b H [.m] <| x_nil <| x_then <| x_seq <| x_f (by kernel_rfl) ?_
    refine x_exit <| x_then_exit <| x_then_exit <| x_blk_exit <| x_then <| x_seq <| x_region ?_
    refine x_b H [.m, .m, .m] <| x_nil <| x_then <| x_retc <| x_ret (.tuple #[S (tB (faultB 1) [rk, bk, ro, co, bi]), .bool true]) (by kernel_rfl) (by kernel_rfl) ?_
    exfalso; exact hz (by omega)
set_option maxRecDepth 100000 in
set_option maxHeartbeats 4000000 in
theorem broken_y2 {rk bk ro co ch bi va : Int} (hx : Rng (⟨8, 0, fun _ => 0, 0, 2, rk, bk, ro, co, ch, bi, va⟩ : Stp)) (hz : (ch = 0)) (w0 : World) :
    Calls Tryd.prog 36 #[.agg #[.int .i64 2, .int .i64 rk, .int .i64 bk, .int .i64 ro, .int .i64 co, .int .i64 ch, .int .i64 bi, .int .i64 va]] w0 fun e w' => e = .returned (.tuple #[S (txtS (⟨8, 0, fun _ => 0, 0, 2, rk, bk, ro, co, ch, bi, va⟩ : Stp)), .bool true]) ∧ Below w0.heap.size w0 w' := by
  refine z_enter Tryd.func36 rfl ?_
  have H := Hs.nil w0
  have fl := faultLen 2
  have l_rk : (itoa rk).length ≤ 22 := itl hx.rk
  have l_bk : (itoa bk).length ≤ 22 := itl hx.bk
  have l_ro : (itoa ro).length ≤ 22 := itl hx.ro
  have l_co : (itoa co).length ≤ 22 := itl hx.co
  have l_ch : (itoa ch).length ≤ 22 := itl hx.ch
  have l_bi : (itoa bi).length ≤ 22 := itl hx.bi
  have l_va : (itoa va).length ≤ 22 := itl hx.va
  refine x_seq <| x_region <| z_box H #[.int .i64 2, .int .i64 rk, .int .i64 bk, .int .i64 ro, .int .i64 co, .int .i64 ch, .int .i64 bi, .int .i64 va] 39 (fun v1 g1 H => ?_)
  refine x_b H [.m, .m] <| x_nil <| x_then <| x_seq <| x_seq <| x_region <| x_b H [.m, .l 0 0, .m, .m, .m, .l 0 0, .m, .m] ?_
  refine x_nil <| x_then <| x_f (by kernel_rfl) <| x_skipc <| x_then <| x_seq <| x_region ?_
  refine x_b H [.m, .l 0 0] <| z_callB H (Has_2 _) fun v2 H => z_box H #[.bool false, .bool false, .bool false, .bool false, .bool false, .bool false] 104 (fun v3 g2 H => ?_)
  refine z_store H 0 0 [.bool true, .bool true, .bool true, .bool false, .bool true, .bool true] (fun v4 H => ?_)
  refine x_nil <| x_then <| x_seq <| x_region <| x_b H [.m, .l 1 0] <| z_callB H (Word_2 _) fun v5 H => x_b H [.m] ?_
  refine x_nil <| x_then <| x_seq <| x_seq <| x_region <| x_b H [.m, .l 1 0, .m] <| x_nil ?_
  refine x_then <| x_t (by kernel_rfl) <| x_region <| x_b H [.m, .m, .m, .l 1 1] <| z_callB H (Number_of hx.rk _) fun v6 H => x_val (S (([32] : List UInt8) ++ (itoa rk))) (by kernel_rfl) rfl (Eq.trans (by kernel_rfl) (strAdd (P := Tryd.prog) (t := 9) (a := ([32] : List UInt8)) (b := itoa rk) (by simp only [List.length_append, List.length_cons, List.length_nil]; omega))) <| x_val (S (tB (faultB 2) [rk])) (by kernel_rfl) rfl (Eq.trans (by kernel_rfl) (strAdd (P := Tryd.prog) (t := 9) (a := tB (faultB 2) []) (b := ([32] : List UInt8) ++ (itoa rk)) (by have q := tB_len (w := faultB 2) (l := []) fl (by simp <;> omega) (by simp); simp only [List.length_append, List.length_cons, List.length_nil]; omega))) ?_
  refine x_b H [.m] <| x_nil <| x_then <| x_seq <| x_seq <| x_region <| x_b H [.m, .m, .l 1 2, .m, .m, .l 1 3, .m, .m, .l 1 4, .m, .l 1 5, .m, .l 1 6, .m, .l 1 7, .m, .m] ?_
  refine x_nil <| z_fr 68 [(4, .pointer (some ⟨g2, 0, none⟩)), (5, S (tB (faultB 2) [rk])), (51, .agg #[.int .i64 bk, .int .i64 ro, .int .i64 co, .int .i64 ch, .int .i64 bi, .int .i64 va]), (52, .int .i64 0)] [] fun uf1 => x_then <| x_block <| x_loop (G := Nat) (fun (c : Nat) a w' => ∃ uf2 : Nat → Value, a = frm 68 uf2 [(4, .pointer (some ⟨g2, 0, none⟩)), (5, S (([tB (faultB 2) [rk], tB (faultB 2) [rk, bk], tB (faultB 2) [rk, bk, ro], tB (faultB 2) [rk, bk, ro, co], tB (faultB 2) [rk, bk, ro, co], tB (faultB 2) [rk, bk, ro, co, bi], tB (faultB 2) [rk, bk, ro, co, bi, va]] : List (List UInt8)).getD c [])), (51, .agg #[.int .i64 bk, .int .i64 ro, .int .i64 co, .int .i64 ch, .int .i64 bi, .int .i64 va]), (52, .int .i64 (c : Int))] [] ∧ Hs [] w0 w' [.blk g2 #[.bool true, .bool true, .bool true, .bool false, .bool true, .bool true] 104, .blk g1 #[.int .i64 2, .int .i64 rk, .int .i64 bk, .int .i64 ro, .int .i64 co, .int .i64 ch, .int .i64 bi, .int .i64 va] 39] ∧ (c ≤ 6) ∧ (3 < c → ch = 0)) (fun (c : Nat) => 6 - c) 0 ⟨_, frm_of, H, (Nat.zero_le _), (by omega)⟩ ?_
  clear H
  rintro c _ v7 ⟨uf2, rfl, H, r1, r2⟩
  rcases (show c = 0 ∨ c = 1 ∨ c = 2 ∨ c = 3 ∨ c = 4 ∨ c = 5 ∨ c = 6 by omega) with rfl | rfl | rfl | rfl | rfl | rfl | rfl
  · skip
    replace H : Hs [] w0 _ [.blk g2 #[.bool true, .bool true, .bool true, .bool false, .bool true, .bool true] 104, .blk g1 #[.int .i64 2, .int .i64 rk, .int .i64 bk, .int .i64 ro, .int .i64 co, .int .i64 ch, .int .i64 bi, .int .i64 va] 39] := hsAs H (by kernel_rfl)
    refine x_seq <| x_region <| x_b H [.m] <| x_nil <| x_then <| x_seq <| x_t (by kernel_rfl) ?_
    refine x_skipc <| x_then <| x_seq <| x_block <| x_seq <| x_region <| x_b H [.m, .m, .m, .m] ?_
    refine x_nil <| x_then <| x_seq <| x_region <| x_b H [.m, .m, .l 0 0] <| x_nil <| x_then ?_
    refine x_t (by kernel_rfl) <| x_region <| x_b H [.m, .m] <| z_callB H (Number_of hx.bk _) fun v8 H => x_val (S (([32] : List UInt8) ++ (itoa bk))) (by kernel_rfl) rfl (Eq.trans (by kernel_rfl) (strAdd (P := Tryd.prog) (t := 9) (a := ([32] : List UInt8)) (b := itoa bk) (by simp only [List.length_append, List.length_cons, List.length_nil]; omega))) <| x_val (S (tB (faultB 2) [rk, bk])) (by kernel_rfl) rfl (Eq.trans (by kernel_rfl) (strAdd (P := Tryd.prog) (t := 9) (a := tB (faultB 2) [rk]) (b := ([32] : List UInt8) ++ (itoa bk)) (by have q := tB_len (w := faultB 2) (l := [rk]) fl (by simp <;> omega) (by simp); simp only [List.length_append, List.length_cons, List.length_nil]; omega))) <| x_b H [.m] ?_
    refine x_nil <| x_blk <| x_then <| x_region <| x_b H [.m, .m] <| x_nil <| x_then ?_
    replace H := H.pk [0, 1]
    replace H : Hs [] w0 _ [.blk g2 #[.bool true, .bool true, .bool true, .bool false, .bool true, .bool true] 104, .blk g1 #[.int .i64 2, .int .i64 rk, .int .i64 bk, .int .i64 ro, .int .i64 co, .int .i64 ch, .int .i64 bi, .int .i64 va] 39] := hsAs H (by kernel_rfl)
    exact ⟨1, (by omega), _, frm_of, H, (by omega), (by omega)⟩
  · skip
    replace H : Hs [] w0 _ [.blk g2 #[.bool true, .bool true, .bool true, .bool false, .bool true, .bool true] 104, .blk g1 #[.int .i64 2, .int .i64 rk, .int .i64 bk, .int .i64 ro, .int .i64 co, .int .i64 ch, .int .i64 bi, .int .i64 va] 39] := hsAs H (by kernel_rfl)
    refine x_seq <| x_region <| x_b H [.m] <| x_nil <| x_then <| x_seq <| x_t (by kernel_rfl) ?_
    refine x_skipc <| x_then <| x_seq <| x_block <| x_seq <| x_region <| x_b H [.m, .m, .m, .m] ?_
    refine x_nil <| x_then <| x_seq <| x_region <| x_b H [.m, .m, .l 0 1] <| x_nil <| x_then ?_
    refine x_t (by kernel_rfl) <| x_region <| x_b H [.m, .m] <| z_callB H (Number_of hx.ro _) fun v9 H => x_val (S (([32] : List UInt8) ++ (itoa ro))) (by kernel_rfl) rfl (Eq.trans (by kernel_rfl) (strAdd (P := Tryd.prog) (t := 9) (a := ([32] : List UInt8)) (b := itoa ro) (by simp only [List.length_append, List.length_cons, List.length_nil]; omega))) <| x_val (S (tB (faultB 2) [rk, bk, ro])) (by kernel_rfl) rfl (Eq.trans (by kernel_rfl) (strAdd (P := Tryd.prog) (t := 9) (a := tB (faultB 2) [rk, bk]) (b := ([32] : List UInt8) ++ (itoa ro)) (by have q := tB_len (w := faultB 2) (l := [rk, bk]) fl (by simp <;> omega) (by simp); simp only [List.length_append, List.length_cons, List.length_nil]; omega))) <| x_b H [.m] ?_
    refine x_nil <| x_blk <| x_then <| x_region <| x_b H [.m, .m] <| x_nil <| x_then ?_
    replace H := H.pk [0, 1]
    replace H : Hs [] w0 _ [.blk g2 #[.bool true, .bool true, .bool true, .bool false, .bool true, .bool true] 104, .blk g1 #[.int .i64 2, .int .i64 rk, .int .i64 bk, .int .i64 ro, .int .i64 co, .int .i64 ch, .int .i64 bi, .int .i64 va] 39] := hsAs H (by kernel_rfl)
    exact ⟨2, (by omega), _, frm_of, H, (by omega), (by omega)⟩
  · skip
    replace H : Hs [] w0 _ [.blk g2 #[.bool true, .bool true, .bool true, .bool false, .bool true, .bool true] 104, .blk g1 #[.int .i64 2, .int .i64 rk, .int .i64 bk, .int .i64 ro, .int .i64 co, .int .i64 ch, .int .i64 bi, .int .i64 va] 39] := hsAs H (by kernel_rfl)
    refine x_seq <| x_region <| x_b H [.m] <| x_nil <| x_then <| x_seq <| x_t (by kernel_rfl) ?_
    refine x_skipc <| x_then <| x_seq <| x_block <| x_seq <| x_region <| x_b H [.m, .m, .m, .m] ?_
    refine x_nil <| x_then <| x_seq <| x_region <| x_b H [.m, .m, .l 0 2] <| x_nil <| x_then ?_
    refine x_t (by kernel_rfl) <| x_region <| x_b H [.m, .m] <| z_callB H (Number_of hx.co _) fun v10 H => x_val (S (([32] : List UInt8) ++ (itoa co))) (by kernel_rfl) rfl (Eq.trans (by kernel_rfl) (strAdd (P := Tryd.prog) (t := 9) (a := ([32] : List UInt8)) (b := itoa co) (by simp only [List.length_append, List.length_cons, List.length_nil]; omega))) <| x_val (S (tB (faultB 2) [rk, bk, ro, co])) (by kernel_rfl) rfl (Eq.trans (by kernel_rfl) (strAdd (P := Tryd.prog) (t := 9) (a := tB (faultB 2) [rk, bk, ro]) (b := ([32] : List UInt8) ++ (itoa co)) (by have q := tB_len (w := faultB 2) (l := [rk, bk, ro]) fl (by simp <;> omega) (by simp); simp only [List.length_append, List.length_cons, List.length_nil]; omega))) <| x_b H [.m] ?_
    refine x_nil <| x_blk <| x_then <| x_region <| x_b H [.m, .m] <| x_nil <| x_then ?_
    replace H := H.pk [0, 1]
    replace H : Hs [] w0 _ [.blk g2 #[.bool true, .bool true, .bool true, .bool false, .bool true, .bool true] 104, .blk g1 #[.int .i64 2, .int .i64 rk, .int .i64 bk, .int .i64 ro, .int .i64 co, .int .i64 ch, .int .i64 bi, .int .i64 va] 39] := hsAs H (by kernel_rfl)
    exact ⟨3, (by omega), _, frm_of, H, (by omega), (by omega)⟩
  · skip
    replace H : Hs [] w0 _ [.blk g2 #[.bool true, .bool true, .bool true, .bool false, .bool true, .bool true] 104, .blk g1 #[.int .i64 2, .int .i64 rk, .int .i64 bk, .int .i64 ro, .int .i64 co, .int .i64 ch, .int .i64 bi, .int .i64 va] 39] := hsAs H (by kernel_rfl)
    refine x_seq <| x_region <| x_b H [.m] <| x_nil <| x_then <| x_seq <| x_t (by kernel_rfl) ?_
    refine x_skipc <| x_then <| x_seq <| x_block <| x_seq <| x_region <| x_b H [.m, .m, .m, .m] ?_
    refine x_nil <| x_then <| x_seq <| x_region <| x_b H [.m, .m, .l 0 3] <| x_nil <| x_then ?_
    refine x_f (by kernel_rfl) <| x_seq <| x_region <| x_b H [.m, .v (.bool (!(decide (ch = 0))))] <| x_nil <| x_then ?_
    cases h1 : decide (ch = 0)
    · skip
      have h1p := of_decide_eq_false h1
      exact absurd (by omega) h1p
    have h1p := of_decide_eq_true h1
    refine x_f (by kernel_rfl) <| x_skipc <| x_blk <| x_then <| x_region <| x_b H [.m, .m] <| x_nil ?_
    refine x_then ?_
    replace H := H.pk [0, 1]
    replace H : Hs [] w0 _ [.blk g2 #[.bool true, .bool true, .bool true, .bool false, .bool true, .bool true] 104, .blk g1 #[.int .i64 2, .int .i64 rk, .int .i64 bk, .int .i64 ro, .int .i64 co, .int .i64 ch, .int .i64 bi, .int .i64 va] 39] := hsAs H (by kernel_rfl)
    exact ⟨4, (by omega), _, frm_of, H, (by omega), (by omega)⟩
  · skip
    replace H : Hs [] w0 _ [.blk g2 #[.bool true, .bool true, .bool true, .bool false, .bool true, .bool true] 104, .blk g1 #[.int .i64 2, .int .i64 rk, .int .i64 bk, .int .i64 ro, .int .i64 co, .int .i64 ch, .int .i64 bi, .int .i64 va] 39] := hsAs H (by kernel_rfl)
    refine x_seq <| x_region <| x_b H [.m] <| x_nil <| x_then <| x_seq <| x_t (by kernel_rfl) ?_
    refine x_skipc <| x_then <| x_seq <| x_block <| x_seq <| x_region <| x_b H [.m, .m, .m, .m] ?_
    refine x_nil <| x_then <| x_seq <| x_region <| x_b H [.m, .m, .l 0 4] <| x_nil <| x_then ?_
    refine x_t (by kernel_rfl) <| x_region <| x_b H [.m, .m] <| z_callB H (Number_of hx.bi _) fun v11 H => x_val (S (([32] : List UInt8) ++ (itoa bi))) (by kernel_rfl) rfl (Eq.trans (by kernel_rfl) (strAdd (P := Tryd.prog) (t := 9) (a := ([32] : List UInt8)) (b := itoa bi) (by simp only [List.length_append, List.length_cons, List.length_nil]; omega))) <| x_val (S (tB (faultB 2) [rk, bk, ro, co, bi])) (by kernel_rfl) rfl (Eq.trans (by kernel_rfl) (strAdd (P := Tryd.prog) (t := 9) (a := tB (faultB 2) [rk, bk, ro, co]) (b := ([32] : List UInt8) ++ (itoa bi)) (by have q := tB_len (w := faultB 2) (l := [rk, bk, ro, co]) fl (by simp <;> omega) (by simp); simp only [List.length_append, List.length_cons, List.length_nil]; omega))) <| x_b H [.m] ?_
    refine x_nil <| x_blk <| x_then <| x_region <| x_b H [.m, .m] <| x_nil <| x_then ?_
    replace H := H.pk [0, 1]
    replace H : Hs [] w0 _ [.blk g2 #[.bool true, .bool true, .bool true, .bool false, .bool true, .bool true] 104, .blk g1 #[.int .i64 2, .int .i64 rk, .int .i64 bk, .int .i64 ro, .int .i64 co, .int .i64 ch, .int .i64 bi, .int .i64 va] 39] := hsAs H (by kernel_rfl)
    exact ⟨5, (by omega), _, frm_of, H, (by omega), (by omega)⟩
  · skip
    replace H : Hs [] w0 _ [.blk g2 #[.bool true, .bool true, .bool true, .bool false, .bool true, .bool true] 104, .blk g1 #[.int .i64 2, .int .i64 rk, .int .i64 bk, .int .i64 ro, .int .i64 co, .int .i64 ch, .int .i64 bi, .int .i64 va] 39] := hsAs H (by kernel_rfl)
    refine x_seq <| x_region <| x_b H [.m] <| x_nil <| x_then <| x_seq <| x_t (by kernel_rfl) ?_
    refine x_skipc <| x_then <| x_seq <| x_block <| x_seq <| x_region <| x_b H [.m, .m, .m, .m] ?_
    refine x_nil <| x_then <| x_seq <| x_region <| x_b H [.m, .m, .l 0 5] <| x_nil <| x_then ?_
    refine x_t (by kernel_rfl) <| x_region <| x_b H [.m, .m] <| z_callB H (Number_of hx.va _) fun v12 H => x_val (S (([32] : List UInt8) ++ (itoa va))) (by kernel_rfl) rfl (Eq.trans (by kernel_rfl) (strAdd (P := Tryd.prog) (t := 9) (a := ([32] : List UInt8)) (b := itoa va) (by simp only [List.length_append, List.length_cons, List.length_nil]; omega))) <| x_val (S (tB (faultB 2) [rk, bk, ro, co, bi, va])) (by kernel_rfl) rfl (Eq.trans (by kernel_rfl) (strAdd (P := Tryd.prog) (t := 9) (a := tB (faultB 2) [rk, bk, ro, co, bi]) (b := ([32] : List UInt8) ++ (itoa va)) (by have q := tB_len (w := faultB 2) (l := [rk, bk, ro, co, bi]) fl (by simp <;> omega) (by simp); simp only [List.length_append, List.length_cons, List.length_nil]; omega))) <| x_b H [.m] ?_
    refine x_nil <| x_blk <| x_then <| x_region <| x_b H [.m, .m] <| x_nil <| x_then ?_
    replace H := H.pk [0, 1]
    replace H : Hs [] w0 _ [.blk g2 #[.bool true, .bool true, .bool true, .bool false, .bool true, .bool true] 104, .blk g1 #[.int .i64 2, .int .i64 rk, .int .i64 bk, .int .i64 ro, .int .i64 co, .int .i64 ch, .int .i64 bi, .int .i64 va] 39] := hsAs H (by kernel_rfl)
    exact ⟨6, (by omega), _, frm_of, H, (by omega), (by omega)⟩
  · skip
    replace H : Hs [] w0 _ [.blk g2 #[.bool true, .bool true, .bool true, .bool false, .bool true, .bool true] 104, .blk g1 #[.int .i64 2, .int .i64 rk, .int .i64 bk, .int .i64 ro, .int .i64 co, .int .i64 ch, .int .i64 bi, .int .i64 va] 39] := hsAs H (by kernel_rfl)
    refine x_seq <| x_region <| x_b H [.m] <| x_nil <| x_then <| x_seq <| x_f (by kernel_rfl) ?_
    refine x_exit <| x_then_exit <| x_then_exit <| x_blk_exit <| x_then <| x_seq <| x_region ?_
    refine x_b H [.m, .m, .m] <| x_nil <| x_then <| x_retc <| x_ret (.tuple #[S (tB (faultB 2) [rk, bk, ro, co, bi, va]), .bool true]) (by kernel_rfl) (by kernel_rfl) ?_
    exact ⟨by rw [show txtS (⟨8, 0, fun _ => 0, 0, 2, rk, bk, ro, co, ch, bi, va⟩ : Stp) = Lib.join (faultB 2 :: (numsS (⟨8, 0, fun _ => 0, 0, 2, rk, bk, ro, co, ch, bi, va⟩ : Stp)).map itoa) [32] from rfl]; simp [tB, numsS, Lib.join, List.intercalate], H.below⟩
set_option maxRecDepth 100000 in
set_option maxHeartbeats 4000000 in
theorem broken_n2 {rk bk ro co ch bi va : Int} (hx : Rng (⟨8, 0, fun _ => 0, 0, 2, rk, bk, ro, co, ch, bi, va⟩ : Stp)) (hz : ¬ (ch = 0)) (w0 : World) :
    Calls Tryd.prog 36 #[.agg #[.int .i64 2, .int .i64 rk, .int .i64 bk, .int .i64 ro, .int .i64 co, .int .i64 ch, .int .i64 bi, .int .i64 va]] w0 fun e w' => e = .returned (.tuple #[S [], .bool false]) ∧ Below w0.heap.size w0 w' := by
  refine z_enter Tryd.func36 rfl ?_
  have H := Hs.nil w0
  have fl := faultLen 2
  have l_rk : (itoa rk).length ≤ 22 := itl hx.rk
  have l_bk : (itoa bk).length ≤ 22 := itl hx.bk
  have l_ro : (itoa ro).length ≤ 22 := itl hx.ro
  have l_co : (itoa co).length ≤ 22 := itl hx.co
  have l_ch : (itoa ch).length ≤ 22 := itl hx.ch
  have l_bi : (itoa bi).length ≤ 22 := itl hx.bi
  have l_va : (itoa va).length ≤ 22 := itl hx.va
  refine x_seq <| x_region <| z_box H #[.int .i64 2, .int .i64 rk, .int .i64 bk, .int .i64 ro, .int .i64 co, .int .i64 ch, .int .i64 bi, .int .i64 va] 39 (fun v1 g1 H => ?_)
  refine x_b H [.m, .m] <| x_nil <| x_then <| x_seq <| x_seq <| x_region <| x_b H [.m, .l 0 0, .m, .m, .m, .l 0 0, .m, .m] ?_
  refine x_nil <| x_then <| x_f (by kernel_rfl) <| x_skipc <| x_then <| x_seq <| x_region ?_
  refine x_b H [.m, .l 0 0] <| z_callB H (Has_2 _) fun v2 H => z_box H #[.bool false, .bool false, .bool false, .bool false, .bool false, .bool false] 104 (fun v3 g2 H => ?_)
  refine z_store H 0 0 [.bool true, .bool true, .bool true, .bool false, .bool true, .bool true] (fun v4 H => ?_)
  refine x_nil <| x_then <| x_seq <| x_region <| x_b H [.m, .l 1 0] <| z_callB H (Word_2 _) fun v5 H => x_b H [.m] ?_
  refine x_nil <| x_then <| x_seq <| x_seq <| x_region <| x_b H [.m, .l 1 0, .m] <| x_nil ?_
  refine x_then <| x_t (by kernel_rfl) <| x_region <| x_b H [.m, .m, .m, .l 1 1] <| z_callB H (Number_of hx.rk _) fun v6 H => x_val (S (([32] : List UInt8) ++ (itoa rk))) (by kernel_rfl) rfl (Eq.trans (by kernel_rfl) (strAdd (P := Tryd.prog) (t := 9) (a := ([32] : List UInt8)) (b := itoa rk) (by simp only [List.length_append, List.length_cons, List.length_nil]; omega))) <| x_val (S (tB (faultB 2) [rk])) (by kernel_rfl) rfl (Eq.trans (by kernel_rfl) (strAdd (P := Tryd.prog) (t := 9) (a := tB (faultB 2) []) (b := ([32] : List UInt8) ++ (itoa rk)) (by have q := tB_len (w := faultB 2) (l := []) fl (by simp <;> omega) (by simp); simp only [List.length_append, List.length_cons, List.length_nil]; omega))) ?_
  refine x_b H [.m] <| x_nil <| x_then <| x_seq <| x_seq <| x_region <| x_b H [.m, .m, .l 1 2, .m, .m, .l 1 3, .m, .m, .l 1 4, .m, .l 1 5, .m, .l 1 6, .m, .l 1 7, .m, .m] ?_
  refine x_nil <| z_fr 68 [(4, .pointer (some ⟨g2, 0, none⟩)), (5, S (tB (faultB 2) [rk])), (51, .agg #[.int .i64 bk, .int .i64 ro, .int .i64 co, .int .i64 ch, .int .i64 bi, .int .i64 va]), (52, .int .i64 0)] [] fun uf1 => x_then <| x_block <| x_loop (G := Nat) (fun (c : Nat) a w' => ∃ uf2 : Nat → Value, a = frm 68 uf2 [(4, .pointer (some ⟨g2, 0, none⟩)), (5, S (([tB (faultB 2) [rk], tB (faultB 2) [rk, bk], tB (faultB 2) [rk, bk, ro], tB (faultB 2) [rk, bk, ro, co], tB (faultB 2) [rk, bk, ro, co], tB (faultB 2) [rk, bk, ro, co, bi], tB (faultB 2) [rk, bk, ro, co, bi, va]] : List (List UInt8)).getD c [])), (51, .agg #[.int .i64 bk, .int .i64 ro, .int .i64 co, .int .i64 ch, .int .i64 bi, .int .i64 va]), (52, .int .i64 (c : Int))] [] ∧ Hs [] w0 w' [.blk g2 #[.bool true, .bool true, .bool true, .bool false, .bool true, .bool true] 104, .blk g1 #[.int .i64 2, .int .i64 rk, .int .i64 bk, .int .i64 ro, .int .i64 co, .int .i64 ch, .int .i64 bi, .int .i64 va] 39] ∧ (c ≤ 6) ∧ (3 < c → ch = 0)) (fun (c : Nat) => 6 - c) 0 ⟨_, frm_of, H, (Nat.zero_le _), (by omega)⟩ ?_
  clear H
  rintro c _ v7 ⟨uf2, rfl, H, r1, r2⟩
  rcases (show c = 0 ∨ c = 1 ∨ c = 2 ∨ c = 3 ∨ c = 4 ∨ c = 5 ∨ c = 6 by omega) with rfl | rfl | rfl | rfl | rfl | rfl | rfl
  · skip
    replace H : Hs [] w0 _ [.blk g2 #[.bool true, .bool true, .bool true, .bool false, .bool true, .bool true] 104, .blk g1 #[.int .i64 2, .int .i64 rk, .int .i64 bk, .int .i64 ro, .int .i64 co, .int .i64 ch, .int .i64 bi, .int .i64 va] 39] := hsAs H (by kernel_rfl)
    refine x_seq <| x_region <| x_b H [.m] <| x_nil <| x_then <| x_seq <| x_t (by kernel_rfl) ?_
    refine x_skipc <| x_then <| x_seq <| x_block <| x_seq <| x_region <| x_b H [.m, .m, .m, .m] ?_
    refine x_nil <| x_then <| x_seq <| x_region <| x_b H [.m, .m, .l 0 0] <| x_nil <| x_then ?_
    refine x_t (by kernel_rfl) <| x_region <| x_b H [.m, .m] <| z_callB H (Number_of hx.bk _) fun v8 H => x_val (S (([32] : List UInt8) ++ (itoa bk))) (by kernel_rfl) rfl (Eq.trans (by kernel_rfl) (strAdd (P := Tryd.prog) (t := 9) (a := ([32] : List UInt8)) (b := itoa bk) (by simp only [List.length_append, List.length_cons, List.length_nil]; omega))) <| x_val (S (tB (faultB 2) [rk, bk])) (by kernel_rfl) rfl (Eq.trans (by kernel_rfl) (strAdd (P := Tryd.prog) (t := 9) (a := tB (faultB 2) [rk]) (b := ([32] : List UInt8) ++ (itoa bk)) (by have q := tB_len (w := faultB 2) (l := [rk]) fl (by simp <;> omega) (by simp); simp only [List.length_append, List.length_cons, List.length_nil]; omega))) <| x_b H [.m] ?_
    refine x_nil <| x_blk <| x_then <| x_region <| x_b H [.m, .m] <| x_nil <| x_then ?_
    replace H := H.pk [0, 1]
    replace H : Hs [] w0 _ [.blk g2 #[.bool true, .bool true, .bool true, .bool false, .bool true, .bool true] 104, .blk g1 #[.int .i64 2, .int .i64 rk, .int .i64 bk, .int .i64 ro, .int .i64 co, .int .i64 ch, .int .i64 bi, .int .i64 va] 39] := hsAs H (by kernel_rfl)
    exact ⟨1, (by omega), _, frm_of, H, (by omega), (by omega)⟩
  · skip
    replace H : Hs [] w0 _ [.blk g2 #[.bool true, .bool true, .bool true, .bool false, .bool true, .bool true] 104, .blk g1 #[.int .i64 2, .int .i64 rk, .int .i64 bk, .int .i64 ro, .int .i64 co, .int .i64 ch, .int .i64 bi, .int .i64 va] 39] := hsAs H (by kernel_rfl)
    refine x_seq <| x_region <| x_b H [.m] <| x_nil <| x_then <| x_seq <| x_t (by kernel_rfl) ?_
    refine x_skipc <| x_then <| x_seq <| x_block <| x_seq <| x_region <| x_b H [.m, .m, .m, .m] ?_
    refine x_nil <| x_then <| x_seq <| x_region <| x_b H [.m, .m, .l 0 1] <| x_nil <| x_then ?_
    refine x_t (by kernel_rfl) <| x_region <| x_b H [.m, .m] <| z_callB H (Number_of hx.ro _) fun v9 H => x_val (S (([32] : List UInt8) ++ (itoa ro))) (by kernel_rfl) rfl (Eq.trans (by kernel_rfl) (strAdd (P := Tryd.prog) (t := 9) (a := ([32] : List UInt8)) (b := itoa ro) (by simp only [List.length_append, List.length_cons, List.length_nil]; omega))) <| x_val (S (tB (faultB 2) [rk, bk, ro])) (by kernel_rfl) rfl (Eq.trans (by kernel_rfl) (strAdd (P := Tryd.prog) (t := 9) (a := tB (faultB 2) [rk, bk]) (b := ([32] : List UInt8) ++ (itoa ro)) (by have q := tB_len (w := faultB 2) (l := [rk, bk]) fl (by simp <;> omega) (by simp); simp only [List.length_append, List.length_cons, List.length_nil]; omega))) <| x_b H [.m] ?_
    refine x_nil <| x_blk <| x_then <| x_region <| x_b H [.m, .m] <| x_nil <| x_then ?_
    replace H := H.pk [0, 1]
    replace H : Hs [] w0 _ [.blk g2 #[.bool true, .bool true, .bool true, .bool false, .bool true, .bool true] 104, .blk g1 #[.int .i64 2, .int .i64 rk, .int .i64 bk, .int .i64 ro, .int .i64 co, .int .i64 ch, .int .i64 bi, .int .i64 va] 39] := hsAs H (by kernel_rfl)
    exact ⟨2, (by omega), _, frm_of, H, (by omega), (by omega)⟩
  · skip
    replace H : Hs [] w0 _ [.blk g2 #[.bool true, .bool true, .bool true, .bool false, .bool true, .bool true] 104, .blk g1 #[.int .i64 2, .int .i64 rk, .int .i64 bk, .int .i64 ro, .int .i64 co, .int .i64 ch, .int .i64 bi, .int .i64 va] 39] := hsAs H (by kernel_rfl)
    refine x_seq <| x_region <| x_b H [.m] <| x_nil <| x_then <| x_seq <| x_t (by kernel_rfl) ?_
    refine x_skipc <| x_then <| x_seq <| x_block <| x_seq <| x_region <| x_b H [.m, .m, .m, .m] ?_
    refine x_nil <| x_then <| x_seq <| x_region <| x_b H [.m, .m, .l 0 2] <| x_nil <| x_then ?_
    refine x_t (by kernel_rfl) <| x_region <| x_b H [.m, .m] <| z_callB H (Number_of hx.co _) fun v10 H => x_val (S (([32] : List UInt8) ++ (itoa co))) (by kernel_rfl) rfl (Eq.trans (by kernel_rfl) (strAdd (P := Tryd.prog) (t := 9) (a := ([32] : List UInt8)) (b := itoa co) (by simp only [List.length_append, List.length_cons, List.length_nil]; omega))) <| x_val (S (tB (faultB 2) [rk, bk, ro, co])) (by kernel_rfl) rfl (Eq.trans (by kernel_rfl) (strAdd (P := Tryd.prog) (t := 9) (a := tB (faultB 2) [rk, bk, ro]) (b := ([32] : List UInt8) ++ (itoa co)) (by have q := tB_len (w := faultB 2) (l := [rk, bk, ro]) fl (by simp <;> omega) (by simp); simp only [List.length_append, List.length_cons, List.length_nil]; omega))) <| x_b H [.m] ?_
    refine x_nil <| x_blk <| x_then <| x_region <| x_b H [.m, .m] <| x_nil <| x_then ?_
    replace H := H.pk [0, 1]
    replace H : Hs [] w0 _ [.blk g2 #[.bool true, .bool true, .bool true, .bool false, .bool true, .bool true] 104, .blk g1 #[.int .i64 2, .int .i64 rk, .int .i64 bk, .int .i64 ro, .int .i64 co, .int .i64 ch, .int .i64 bi, .int .i64 va] 39] := hsAs H (by kernel_rfl)
    exact ⟨3, (by omega), _, frm_of, H, (by omega), (by omega)⟩
  · skip
    replace H : Hs [] w0 _ [.blk g2 #[.bool true, .bool true, .bool true, .bool false, .bool true, .bool true] 104, .blk g1 #[.int .i64 2, .int .i64 rk, .int .i64 bk, .int .i64 ro, .int .i64 co, .int .i64 ch, .int .i64 bi, .int .i64 va] 39] := hsAs H (by kernel_rfl)
    refine x_seq <| x_region <| x_b H [.m] <| x_nil <| x_then <| x_seq <| x_t (by kernel_rfl) ?_
    refine x_skipc <| x_then <| x_seq <| x_block <| x_seq <| x_region <| x_b H [.m, .m, .m, .m] ?_
    refine x_nil <| x_then <| x_seq <| x_region <| x_b H [.m, .m, .l 0 3] <| x_nil <| x_then ?_
    refine x_f (by kernel_rfl) <| x_seq <| x_region <| x_b H [.m, .v (.bool (!(decide (ch = 0))))] <| x_nil <| x_then ?_
    cases h1 : decide (ch = 0)
    · skip
      have h1p := of_decide_eq_false h1
      refine x_t (by kernel_rfl) <| x_seq <| x_region <| x_b H [.m, .m] <| x_nil <| x_then <| x_retc ?_
      refine x_blk_ret <| x_then_ret <| x_then_ret <| x_blk_ret <| x_then_ret <| x_ret (.tuple #[S ([] : List UInt8), .bool false]) (by kernel_rfl) (by kernel_rfl) ?_
      exact ⟨rfl, H.below⟩
    have h1p := of_decide_eq_true h1
    refine x_f (by kernel_rfl) <| x_skipc <| x_blk <| x_then <| x_region <| x_b H [.m, .m] <| x_nil ?_
    refine x_then ?_
    replace H := H.pk [0, 1]
    replace H : Hs [] w0 _ [.blk g2 #[.bool true, .bool true, .bool true, .bool false, .bool true, .bool true] 104, .blk g1 #[.int .i64 2, .int .i64 rk, .int .i64 bk, .int .i64 ro, .int .i64 co, .int .i64 ch, .int .i64 bi, .int .i64 va] 39] := hsAs H (by kernel_rfl)
    exact ⟨4, (by omega), _, frm_of, H, (by omega), (by omega)⟩
  · skip
    replace H : Hs [] w0 _ [.blk g2 #[.bool true, .bool true, .bool true, .bool false, .bool true, .bool true] 104, .blk g1 #[.int .i64 2, .int .i64 rk, .int .i64 bk, .int .i64 ro, .int .i64 co, .int .i64 ch, .int .i64 bi, .int .i64 va] 39] := hsAs H (by kernel_rfl)
    refine x_seq <| x_region <| x_b H [.m] <| x_nil <| x_then <| x_seq <| x_t (by kernel_rfl) ?_
    refine x_skipc <| x_then <| x_seq <| x_block <| x_seq <| x_region <| x_b H [.m, .m, .m, .m] ?_
    refine x_nil <| x_then <| x_seq <| x_region <| x_b H [.m, .m, .l 0 4] <| x_nil <| x_then ?_
    refine x_t (by kernel_rfl) <| x_region <| x_b H [.m, .m] <| z_callB H (Number_of hx.bi _) fun v11 H => x_val (S (([32] : List UInt8) ++ (itoa bi))) (by kernel_rfl) rfl (Eq.trans (by kernel_rfl) (strAdd (P := Tryd.prog) (t := 9) (a := ([32] : List UInt8)) (b := itoa bi) (by simp only [List.length_append, List.length_cons, List.length_nil]; omega))) <| x_val (S (tB (faultB 2) [rk, bk, ro, co, bi])) (by kernel_rfl) rfl (Eq.trans (by kernel_rfl) (strAdd (P := Tryd.prog) (t := 9) (a := tB (faultB 2) [rk, bk, ro, co]) (b := ([32] : List UInt8) ++ (itoa bi)) (by have q := tB_len (w := faultB 2) (l := [rk, bk, ro, co]) fl (by simp <;> omega) (by simp); simp only [List.length_append, List.length_cons, List.length_nil]; omega))) <| x_b H [.m] ?_
    refine x_nil <| x_blk <| x_then <| x_region <| x_b H [.m, .m] <| x_nil <| x_then ?_
    replace H := H.pk [0, 1]
    replace H : Hs [] w0 _ [.blk g2 #[.bool true, .bool true, .bool true, .bool false, .bool true, .bool true] 104, .blk g1 #[.int .i64 2, .int .i64 rk, .int .i64 bk, .int .i64 ro, .int .i64 co, .int .i64 ch, .int .i64 bi, .int .i64 va] 39] := hsAs H (by kernel_rfl)
    exact ⟨5, (by omega), _, frm_of, H, (by omega), (by omega)⟩
  · skip
    replace H : Hs [] w0 _ [.blk g2 #[.bool true, .bool true, .bool true, .bool false, .bool true, .bool true] 104, .blk g1 #[.int .i64 2, .int .i64 rk, .int .i64 bk, .int .i64 ro, .int .i64 co, .int .i64 ch, .int .i64 bi, .int .i64 va] 39] := hsAs H (by kernel_rfl)
    refine x_seq <| x_region <| x_b H [.m] <| x_nil <| x_then <| x_seq <| x_t (by kernel_rfl) ?_
    refine x_skipc <| x_then <| x_seq <| x_block <| x_seq <| x_region <| x_b H [.m, .m, .m, .m] ?_
    refine x_nil <| x_then <| x_seq <| x_region <| x_b H [.m, .m, .l 0 5] <| x_nil <| x_then ?_
    refine x_t (by kernel_rfl) <| x_region <| x_b H [.m, .m] <| z_callB H (Number_of hx.va _) fun v12 H => x_val (S (([32] : List UInt8) ++ (itoa va))) (by kernel_rfl) rfl (Eq.trans (by kernel_rfl) (strAdd (P := Tryd.prog) (t := 9) (a := ([32] : List UInt8)) (b := itoa va) (by simp only [List.length_append, List.length_cons, List.length_nil]; omega))) <| x_val (S (tB (faultB 2) [rk, bk, ro, co, bi, va])) (by kernel_rfl) rfl (Eq.trans (by kernel_rfl) (strAdd (P := Tryd.prog) (t := 9) (a := tB (faultB 2) [rk, bk, ro, co, bi]) (b := ([32] : List UInt8) ++ (itoa va)) (by have q := tB_len (w := faultB 2) (l := [rk, bk, ro, co, bi]) fl (by simp <;> omega) (by simp); simp only [List.length_append, List.length_cons, List.length_nil]; omega))) <| x_b H [.m] ?_
    refine x_nil <| x_blk <| x_then <| x_region <| x_b H [.m, .m] <| x_nil <| x_then ?_
    replace H := H.pk [0, 1]
    replace H : Hs [] w0 _ [.blk g2 #[.bool true, .bool true, .bool true, .bool false, .bool true, .bool true] 104, .blk g1 #[.int .i64 2, .int .i64 rk, .int .i64 bk, .int .i64 ro, .int .i64 co, .int .i64 ch, .int .i64 bi, .int .i64 va] 39] := hsAs H (by kernel_rfl)
    exact ⟨6, (by omega), _, frm_of, H, (by omega), (by omega)⟩
  · skip
    replace H : Hs [] w0 _ [.blk g2 #[.bool true, .bool true, .bool true, .bool false, .bool true, .bool true] 104, .blk g1 #[.int .i64 2, .int .i64 rk, .int .i64 bk, .int .i64 ro, .int .i64 co, .int .i64 ch, .int .i64 bi, .int .i64 va] 39] := hsAs H (by kernel_rfl)
    refine x_seq <| x_region <| x_b H [.m] <| x_nil <| x_then <| x_seq <| x_f (by kernel_rfl) ?_
    refine x_exit <| x_then_exit <| x_then_exit <| x_blk_exit <| x_then <| x_seq <| x_region ?_
    refine x_b H [.m, .m, .m] <| x_nil <| x_then <| x_retc <| x_ret (.tuple #[S (tB (faultB 2) [rk, bk, ro, co, bi, va]), .bool true]) (by kernel_rfl) (by kernel_rfl) ?_
    exfalso; exact hz (by omega)
set_option maxRecDepth 100000 in
set_option maxHeartbeats 4000000 in
theorem broken_y3 {rk bk ro co ch bi va : Int} (hx : Rng (⟨8, 0, fun _ => 0, 0, 3, rk, bk, ro, co, ch, bi, va⟩ : Stp)) (hz : (co = 0 ∧ bi = 0)) (w0 : World) :
    Calls Tryd.prog 36 #[.agg #[.int .i64 3, .int .i64 rk, .int .i64 bk, .int .i64 ro, .int .i64 co, .int .i64 ch, .int .i64 bi, .int .i64 va]] w0 fun e w' => e = .returned (.tuple #[S (txtS (⟨8, 0, fun _ => 0, 0, 3, rk, bk, ro, co, ch, bi, va⟩ : Stp)), .bool true]) ∧ Below w0.heap.size w0 w' := by
  refine z_enter Tryd.func36 rfl ?_
  have H := Hs.nil w0
  have fl := faultLen 3
  have l_rk : (itoa rk).length ≤ 22 := itl hx.rk
  have l_bk : (itoa bk).length ≤ 22 := itl hx.bk
  have l_ro : (itoa ro).length ≤ 22 := itl hx.ro
  have l_co : (itoa co).length ≤ 22 := itl hx.co
  have l_ch : (itoa ch).length ≤ 22 := itl hx.ch
  have l_bi : (itoa bi).length ≤ 22 := itl hx.bi
  have l_va : (itoa va).length ≤ 22 := itl hx.va
  refine x_seq <| x_region <| z_box H #[.int .i64 3, .int .i64 rk, .int .i64 bk, .int .i64 ro, .int .i64 co, .int .i64 ch, .int .i64 bi, .int .i64 va] 39 (fun v1 g1 H => ?_)
  refine x_b H [.m, .m] <| x_nil <| x_then <| x_seq <| x_seq <| x_region <| x_b H [.m, .l 0 0, .m, .m, .m, .l 0 0, .m, .m] ?_
  refine x_nil <| x_then <| x_f (by kernel_rfl) <| x_skipc <| x_then <| x_seq <| x_region ?_
  refine x_b H [.m, .l 0 0] <| z_callB H (Has_3 _) fun v2 H => z_box H #[.bool false, .bool false, .bool false, .bool false, .bool false, .bool false] 104 (fun v3 g2 H => ?_)
  refine z_store H 0 0 [.bool true, .bool true, .bool false, .bool true, .bool false, .bool true] (fun v4 H => ?_)
  refine x_nil <| x_then <| x_seq <| x_region <| x_b H [.m, .l 1 0] <| z_callB H (Word_3 _) fun v5 H => x_b H [.m] ?_
  refine x_nil <| x_then <| x_seq <| x_seq <| x_region <| x_b H [.m, .l 1 0, .m] <| x_nil ?_
  refine x_then <| x_t (by kernel_rfl) <| x_region <| x_b H [.m, .m, .m, .l 1 1] <| z_callB H (Number_of hx.rk _) fun v6 H => x_val (S (([32] : List UInt8) ++ (itoa rk))) (by kernel_rfl) rfl (Eq.trans (by kernel_rfl) (strAdd (P := Tryd.prog) (t := 9) (a := ([32] : List UInt8)) (b := itoa rk) (by simp only [List.length_append, List.length_cons, List.length_nil]; omega))) <| x_val (S (tB (faultB 3) [rk])) (by kernel_rfl) rfl (Eq.trans (by kernel_rfl) (strAdd (P := Tryd.prog) (t := 9) (a := tB (faultB 3) []) (b := ([32] : List UInt8) ++ (itoa rk)) (by have q := tB_len (w := faultB 3) (l := []) fl (by simp <;> omega) (by simp); simp only [List.length_append, List.length_cons, List.length_nil]; omega))) ?_
  refine x_b H [.m] <| x_nil <| x_then <| x_seq <| x_seq <| x_region <| x_b H [.m, .m, .l 1 2, .m, .m, .l 1 3, .m, .m, .l 1 4, .m, .l 1 5, .m, .l 1 6, .m, .l 1 7, .m, .m] ?_
  refine x_nil <| z_fr 68 [(4, .pointer (some ⟨g2, 0, none⟩)), (5, S (tB (faultB 3) [rk])), (51, .agg #[.int .i64 bk, .int .i64 ro, .int .i64 co, .int .i64 ch, .int .i64 bi, .int .i64 va]), (52, .int .i64 0)] [] fun uf1 => x_then <| x_block <| x_loop (G := Nat) (fun (c : Nat) a w' => ∃ uf2 : Nat → Value, a = frm 68 uf2 [(4, .pointer (some ⟨g2, 0, none⟩)), (5, S (([tB (faultB 3) [rk], tB (faultB 3) [rk, bk], tB (faultB 3) [rk, bk, ro], tB (faultB 3) [rk, bk, ro], tB (faultB 3) [rk, bk, ro, ch], tB (faultB 3) [rk, bk, ro, ch], tB (faultB 3) [rk, bk, ro, ch, va]] : List (List UInt8)).getD c [])), (51, .agg #[.int .i64 bk, .int .i64 ro, .int .i64 co, .int .i64 ch, .int .i64 bi, .int .i64 va]), (52, .int .i64 (c : Int))] [] ∧ Hs [] w0 w' [.blk g2 #[.bool true, .bool true, .bool false, .bool true, .bool false, .bool true] 104, .blk g1 #[.int .i64 3, .int .i64 rk, .int .i64 bk, .int .i64 ro, .int .i64 co, .int .i64 ch, .int .i64 bi, .int .i64 va] 39] ∧ (c ≤ 6) ∧ (2 < c → co = 0) ∧ (4 < c → bi = 0)) (fun (c : Nat) => 6 - c) 0 ⟨_, frm_of, H, (Nat.zero_le _), (by omega), (by omega)⟩ ?_
  clear H
  rintro c _ v7 ⟨uf2, rfl, H, r1, r2, r3⟩
  rcases (show c = 0 ∨ c = 1 ∨ c = 2 ∨ c = 3 ∨ c = 4 ∨ c = 5 ∨ c = 6 by omega) with rfl | rfl | rfl | rfl | rfl | rfl | rfl
  · skip
    replace H : Hs [] w0 _ [.blk g2 #[.bool true, .bool true, .bool false, .bool true, .bool false, .bool true] 104, .blk g1 #[.int .i64 3, .int .i64 rk, .int .i64 bk, .int .i64 ro, .int .i64 co, .int .i64 ch, .int .i64 bi, .int .i64 va] 39] := hsAs H (by kernel_rfl)
    refine x_seq <| x_region <| x_b H [.m] <| x_nil <| x_then <| x_seq <| x_t (by kernel_rfl) ?_
    refine x_skipc <| x_then <| x_seq <| x_block <| x_seq <| x_region <| x_b H [.m, .m, .m, .m] ?_
    refine x_nil <| x_then <| x_seq <| x_region <| x_b H [.m, .m, .l 0 0] <| x_nil <| x_then ?_
    refine x_t (by kernel_rfl) <| x_region <| x_b H [.m, .m] <| z_callB H (Number_of hx.bk _) fun v8 H => x_val (S (([32] : List UInt8) ++ (itoa bk))) (by kernel_rfl) rfl (Eq.trans (by kernel_rfl) (strAdd (P := Tryd.prog) (t := 9) (a := ([32] : List UInt8)) (b := itoa bk) (by simp only [List.length_append, List.length_cons, List.length_nil]; omega))) <| x_val (S (tB (faultB 3) [rk, bk])) (by kernel_rfl) rfl (Eq.trans (by kernel_rfl) (strAdd (P := Tryd.prog) (t := 9) (a := tB (faultB 3) [rk]) (b := ([32] : List UInt8) ++ (itoa bk)) (by have q := tB_len (w := faultB 3) (l := [rk]) fl (by simp <;> omega) (by simp); simp only [List.length_append, List.length_cons, List.length_nil]; omega))) <| x_b H [.m] ?_
    refine x_nil <| x_blk <| x_then <| x_region <| x_b H [.m, .m] <| x_nil <| x_then ?_
    replace H := H.pk [0, 1]
    replace H : Hs [] w0 _ [.blk g2 #[.bool true, .bool true, .bool false, .bool true, .bool false, .bool true] 104, .blk g1 #[.int .i64 3, .int .i64 rk, .int .i64 bk, .int .i64 ro, .int .i64 co, .int .i64 ch, .int .i64 bi, .int .i64 va] 39] := hsAs H (by kernel_rfl)
    exact ⟨1, (by omega), _, frm_of, H, (by omega), (by omega), (by omega)⟩
  · skip
    replace H : Hs [] w0 _ [.blk g2 #[.bool true, .bool true, .bool false, .bool true, .bool false, .bool true] 104, .blk g1 #[.int .i64 3, .int .i64 rk, .int .i64 bk, .int .i64 ro, .int .i64 co, .int .i64 ch, .int .i64 bi, .int .i64 va] 39] := hsAs H (by kernel_rfl)
    refine x_seq <| x_region <| x_b H [.m] <| x_nil <| x_then <| x_seq <| x_t (by kernel_rfl) ?_
    refine x_skipc <| x_then <| x_seq <| x_block <| x_seq <| x_region <| x_b H [.m, .m, .m, .m] ?_
    refine x_nil <| x_then <| x_seq <| x_region <| x_b H [.m, .m, .l 0 1] <| x_nil <| x_then ?_
    refine x_t (by kernel_rfl) <| x_region <| x_b H [.m, .m] <| z_callB H (Number_of hx.ro _) fun v9 H => x_val (S (([32] : List UInt8) ++ (itoa ro))) (by kernel_rfl) rfl (Eq.trans (by kernel_rfl) (strAdd (P := Tryd.prog) (t := 9) (a := ([32] : List UInt8)) (b := itoa ro) (by simp only [List.length_append, List.length_cons, List.length_nil]; omega))) <| x_val (S (tB (faultB 3) [rk, bk, ro])) (by kernel_rfl) rfl (Eq.trans (by kernel_rfl) (strAdd (P := Tryd.prog) (t := 9) (a := tB (faultB 3) [rk, bk]) (b := ([32] : List UInt8) ++ (itoa ro)) (by have q := tB_len (w := faultB 3) (l := [rk, bk]) fl (by simp <;> omega) (by simp); simp only [List.length_append, List.length_cons, List.length_nil]; omega))) <| x_b H [.m] ?_
    refine x_nil <| x_blk <| x_then <| x_region <| x_b H [.m, .m] <| x_nil <| x_then ?_
    replace H := H.pk [0, 1]
    replace H : Hs [] w0 _ [.blk g2 #[.bool true, .bool true, .bool false, .bool true, .bool false, .bool true] 104, .blk g1 #[.int .i64 3, .int .i64 rk, .int .i64 bk, .int .i64 ro, .int .i64 co, .int .i64 ch, .int .i64 bi, .int .i64 va] 39] := hsAs H (by kernel_rfl)
    exact ⟨2, (by omega), _, frm_of, H, (by omega), (by omega), (by omega)⟩
  · skip
    replace H : Hs [] w0 _ [.blk g2 #[.bool true, .bool true, .bool false, .bool true, .bool false, .bool true] 104, .blk g1 #[.int .i64 3, .int .i64 rk, .int .i64 bk, .int .i64 ro, .int .i64 co, .int .i64 ch, .int .i64 bi, .int .i64 va] 39] := hsAs H (by kernel_rfl)
    refine x_seq <| x_region <| x_b H [.m] <| x_nil <| x_then <| x_seq <| x_t (by kernel_rfl) ?_
    refine x_skipc <| x_then <| x_seq <| x_block <| x_seq <| x_region <| x_b H [.m, .m, .m, .m] ?_
    refine x_nil <| x_then <| x_seq <| x_region <| x_b H [.m, .m, .l 0 2] <| x_nil <| x_then ?_
    refine x_f (by kernel_rfl) <| x_seq <| x_region <| x_b H [.m, .v (.bool (!(decide (co = 0))))] <| x_nil <| x_then ?_
    cases h1 : decide (co = 0)
    · skip
      have h1p := of_decide_eq_false h1
      exact absurd (by omega) h1p
    have h1p := of_decide_eq_true h1
    refine x_f (by kernel_rfl) <| x_skipc <| x_blk <| x_then <| x_region <| x_b H [.m, .m] <| x_nil ?_
    refine x_then ?_
    replace H := H.pk [0, 1]
    replace H : Hs [] w0 _ [.blk g2 #[.bool true, .bool true, .bool false, .bool true, .bool false, .bool true] 104, .blk g1 #[.int .i64 3, .int .i64 rk, .int .i64 bk, .int .i64 ro, .int .i64 co, .int .i64 ch, .int .i64 bi, .int .i64 va] 39] := hsAs H (by kernel_rfl)
    exact ⟨3, (by omega), _, frm_of, H, (by omega), (by omega), (by omega)⟩
  · skip
    replace H : Hs [] w0 _ [.blk g2 #[.bool true, .bool true, .bool false, .bool true, .bool false, .bool true] 104, .blk g1 #[.int .i64 3, .int .i64 rk, .int .i64 bk, .int .i64 ro, .int .i64 co, .int .i64 ch, .int .i64 bi, .int .i64 va] 39] := hsAs H (by kernel_rfl)
    refine x_seq <| x_region <| x_b H [.m] <| x_nil <| x_then <| x_seq <| x_t (by kernel_rfl) ?_
    refine x_skipc <| x_then <| x_seq <| x_block <| x_seq <| x_region <| x_b H [.m, .m, .m, .m] ?_
    refine x_nil <| x_then <| x_seq <| x_region <| x_b H [.m, .m, .l 0 3] <| x_nil <| x_then ?_
    refine x_t (by kernel_rfl) <| x_region <| x_b H [.m, .m] <| z_callB H (Number_of hx.ch _) fun v10 H => x_val (S (([32] : List UInt8) ++ (itoa ch))) (by kernel_rfl) rfl (Eq.trans (by kernel_rfl) (strAdd (P := Tryd.prog) (t := 9) (a := ([32] : List UInt8)) (b := itoa ch) (by simp only [List.length_append, List.length_cons, List.length_nil]; omega))) <| x_val (S (tB (faultB 3) [rk, bk, ro, ch])) (by kernel_rfl) rfl (Eq.trans (by kernel_rfl) (strAdd (P := Tryd.prog) (t := 9) (a := tB (faultB 3) [rk, bk, ro]) (b := ([32] : List UInt8) ++ (itoa ch)) (by have q := tB_len (w := faultB 3) (l := [rk, bk, ro]) fl (by simp <;> omega) (by simp); simp only [List.length_append, List.length_cons, List.length_nil]; omega))) <| x_b H [.m] ?_
    refine x_nil <| x_blk <| x_then <| x_region <| x_b H [.m, .m] <| x_nil <| x_then ?_
    replace H := H.pk [0, 1]
    replace H : Hs [] w0 _ [.blk g2 #[.bool true, .bool true, .bool false, .bool true, .bool false, .bool true] 104, .blk g1 #[.int .i64 3, .int .i64 rk, .int .i64 bk, .int .i64 ro, .int .i64 co, .int .i64 ch, .int .i64 bi, .int .i64 va] 39] := hsAs H (by kernel_rfl)
    exact ⟨4, (by omega), _, frm_of, H, (by omega), (by omega), (by omega)⟩
  · skip
    replace H : Hs [] w0 _ [.blk g2 #[.bool true, .bool true, .bool false, .bool true, .bool false, .bool true] 104, .blk g1 #[.int .i64 3, .int .i64 rk, .int .i64 bk, .int .i64 ro, .int .i64 co, .int .i64 ch, .int .i64 bi, .int .i64 va] 39] := hsAs H (by kernel_rfl)
    refine x_seq <| x_region <| x_b H [.m] <| x_nil <| x_then <| x_seq <| x_t (by kernel_rfl) ?_
    refine x_skipc <| x_then <| x_seq <| x_block <| x_seq <| x_region <| x_b H [.m, .m, .m, .m] ?_
    refine x_nil <| x_then <| x_seq <| x_region <| x_b H [.m, .m, .l 0 4] <| x_nil <| x_then ?_
    refine x_f (by kernel_rfl) <| x_seq <| x_region <| x_b H [.m, .v (.bool (!(decide (bi = 0))))] <| x_nil <| x_then ?_
    cases h2 : decide (bi = 0)
    · skip
      have h2p := of_decide_eq_false h2
      exact absurd (by omega) h2p
    have h2p := of_decide_eq_true h2
    refine x_f (by kernel_rfl) <| x_skipc <| x_blk <| x_then <| x_region <| x_b H [.m, .m] <| x_nil ?_
    refine x_then ?_
    replace H := H.pk [0, 1]
    replace H : Hs [] w0 _ [.blk g2 #[.bool true, .bool true, .bool false, .bool true, .bool false, .bool true] 104, .blk g1 #[.int .i64 3, .int .i64 rk, .int .i64 bk, .int .i64 ro, .int .i64 co, .int .i64 ch, .int .i64 bi, .int .i64 va] 39] := hsAs H (by kernel_rfl)
    exact ⟨5, (by omega), _, frm_of, H, (by omega), (by omega), (by omega)⟩
  · skip
    replace H : Hs [] w0 _ [.blk g2 #[.bool true, .bool true, .bool false, .bool true, .bool false, .bool true] 104, .blk g1 #[.int .i64 3, .int .i64 rk, .int .i64 bk, .int .i64 ro, .int .i64 co, .int .i64 ch, .int .i64 bi, .int .i64 va] 39] := hsAs H (by kernel_rfl)
    refine x_seq <| x_region <| x_b H [.m] <| x_nil <| x_then <| x_seq <| x_t (by kernel_rfl) ?_
    refine x_skipc <| x_then <| x_seq <| x_block <| x_seq <| x_region <| x_b H [.m, .m, .m, .m] ?_
    refine x_nil <| x_then <| x_seq <| x_region <| x_b H [.m, .m, .l 0 5] <| x_nil <| x_then ?_
    refine x_t (by kernel_rfl) <| x_region <| x_b H [.m, .m] <| z_callB H (Number_of hx.va _) fun v11 H => x_val (S (([32] : List UInt8) ++ (itoa va))) (by kernel_rfl) rfl (Eq.trans (by kernel_rfl) (strAdd (P := Tryd.prog) (t := 9) (a := ([32] : List UInt8)) (b := itoa va) (by simp only [List.length_append, List.length_cons, List.length_nil]; omega))) <| x_val (S (tB (faultB 3) [rk, bk, ro, ch, va])) (by kernel_rfl) rfl (Eq.trans (by kernel_rfl) (strAdd (P := Tryd.prog) (t := 9) (a := tB (faultB 3) [rk, bk, ro, ch]) (b := ([32] : List UInt8) ++ (itoa va)) (by have q := tB_len (w := faultB 3) (l := [rk, bk, ro, ch]) fl (by simp <;> omega) (by simp); simp only [List.length_append, List.length_cons, List.length_nil]; omega))) <| x_b H [.m] ?_
    refine x_nil <| x_blk <| x_then <| x_region <| x_b H [.m, .m] <| x_nil <| x_then ?_
    replace H := H.pk [0, 1]
    replace H : Hs [] w0 _ [.blk g2 #[.bool true, .bool true, .bool false, .bool true, .bool false, .bool true] 104, .blk g1 #[.int .i64 3, .int .i64 rk, .int .i64 bk, .int .i64 ro, .int .i64 co, .int .i64 ch, .int .i64 bi, .int .i64 va] 39] := hsAs H (by kernel_rfl)
    exact ⟨6, (by omega), _, frm_of, H, (by omega), (by omega), (by omega)⟩
  · skip
    replace H : Hs [] w0 _ [.blk g2 #[.bool true, .bool true, .bool false, .bool true, .bool false, .bool true] 104, .blk g1 #[.int .i64 3, .int .i64 rk, .int .i64 bk, .int .i64 ro, .int .i64 co, .int .i64 ch, .int .i64 bi, .int .i64 va] 39] := hsAs H (by kernel_rfl)
    refine x_seq <| x_region <| x_b H [.m] <| x_nil <| x_then <| x_seq <| x_f (by kernel_rfl) ?_
    refine x_exit <| x_then_exit <| x_then_exit <| x_blk_exit <| x_then <| x_seq <| x_region ?_
    refine x_b H [.m, .m, .m] <| x_nil <| x_then <| x_retc <| x_ret (.tuple #[S (tB (faultB 3) [rk, bk, ro, ch, va]), .bool true]) (by kernel_rfl) (by kernel_rfl) ?_
    exact ⟨by rw [show txtS (⟨8, 0, fun _ => 0, 0, 3, rk, bk, ro, co, ch, bi, va⟩ : Stp) = Lib.join (faultB 3 :: (numsS (⟨8, 0, fun _ => 0, 0, 3, rk, bk, ro, co, ch, bi, va⟩ : Stp)).map itoa) [32] from rfl]; simp [tB, numsS, Lib.join, List.intercalate], H.below⟩
set_option maxRecDepth 100000 in
set_option maxHeartbeats 4000000 in
theorem broken_n3 {rk bk ro co ch bi va : Int} (hx : Rng (⟨8, 0, fun _ => 0, 0, 3, rk, bk, ro, co, ch, bi, va⟩ : Stp)) (hz : ¬ (co = 0 ∧ bi = 0)) (w0 : World) :
    Calls Tryd.prog 36 #[.agg #[.int .i64 3, .int .i64 rk, .int .i64 bk, .int .i64 ro, .int .i64 co, .int .i64 ch, .int .i64 bi, .int .i64 va]] w0 fun e w' => e = .returned (.tuple #[S [], .bool false]) ∧ Below w0.heap.size w0 w' := by
  refine z_enter Tryd.func36 rfl ?_
  have H := Hs.nil w0
  have fl := faultLen 3
  have l_rk : (itoa rk).length ≤ 22 := itl hx.rk
  have l_bk : (itoa bk).length ≤ 22 := itl hx.bk
  have l_ro : (itoa ro).length ≤ 22 := itl hx.ro
  have l_co : (itoa co).length ≤ 22 := itl hx.co
  have l_ch : (itoa ch).length ≤ 22 := itl hx.ch
  have l_bi : (itoa bi).length ≤ 22 := itl hx.bi
  have l_va : (itoa va).length ≤ 22 := itl hx.va
  refine x_seq <| x_region <| z_box H #[.int .i64 3, .int .i64 rk, .int .i64 bk, .int .i64 ro, .int .i64 co, .int .i64 ch, .int .i64 bi, .int .i64 va] 39 (fun v1 g1 H => ?_)
  refine x_b H [.m, .m] <| x_nil <| x_then <| x_seq <| x_seq <| x_region <| x_b H [.m, .l 0 0, .m, .m, .m, .l 0 0, .m, .m] ?_
  refine x_nil <| x_then <| x_f (by kernel_rfl) <| x_skipc <| x_then <| x_seq <| x_region ?_
  refine x_b H [.m, .l 0 0] <| z_callB H (Has_3 _) fun v2 H => z_box H #[.bool false, .bool false, .bool false, .bool false, .bool false, .bool false] 104 (fun v3 g2 H => ?_)
  refine z_store H 0 0 [.bool true, .bool true, .bool false, .bool true, .bool false, .bool true] (fun v4 H => ?_)
  refine x_nil <| x_then <| x_seq <| x_region <| x_b H [.m, .l 1 0] <| z_callB H (Word_3 _) fun v5 H => x_b H [.m] ?_
  refine x_nil <| x_then <| x_seq <| x_seq <| x_region <| x_b H [.m, .l 1 0, .m] <| x_nil ?_
  refine x_then <| x_t (by kernel_rfl) <| x_region <| x_b H [.m, .m, .m, .l 1 1] <| z_callB H (Number_of hx.rk _) fun v6 H => x_val (S (([32] : List UInt8) ++ (itoa rk))) (by kernel_rfl) rfl (Eq.trans (by kernel_rfl) (strAdd (P := Tryd.prog) (t := 9) (a := ([32] : List UInt8)) (b := itoa rk) (by simp only [List.length_append, List.length_cons, List.length_nil]; omega))) <| x_val (S (tB (faultB 3) [rk])) (by kernel_rfl) rfl (Eq.trans (by kernel_rfl) (strAdd (P := Tryd.prog) (t := 9) (a := tB (faultB 3) []) (b := ([32] : List UInt8) ++ (itoa rk)) (by have q := tB_len (w := faultB 3) (l := []) fl (by simp <;> omega) (by simp); simp only [List.length_append, List.length_cons, List.length_nil]; omega))) ?_
  refine x_b H [.m] <| x_nil <| x_then <| x_seq <| x_seq <| x_region <| x_b H [.m, .m, .l 1 2, .m, .m, .l 1 3, .m, .m, .l 1 4, .m, .l 1 5, .m, .l 1 6, .m, .l 1 7, .m, .m] ?_
  refine x_nil <| z_fr 68 [(4, .pointer (some ⟨g2, 0, none⟩)), (5, S (tB (faultB 3) [rk])), (51, .agg #[.int .i64 bk, .int .i64 ro, .int .i64 co, .int .i64 ch, .int .i64 bi, .int .i64 va]), (52, .int .i64 0)] [] fun uf1 => x_then <| x_block <| x_loop (G := Nat) (fun (c : Nat) a w' => ∃ uf2 : Nat → Value, a = frm 68 uf2 [(4, .pointer (some ⟨g2, 0, none⟩)), (5, S (([tB (faultB 3) [rk], tB (faultB 3) [rk, bk], tB (faultB 3) [rk, bk, ro], tB (faultB 3) [rk, bk, ro], tB (faultB 3) [rk, bk, ro, ch], tB (faultB 3) [rk, bk, ro, ch], tB (faultB 3) [rk, bk, ro, ch, va]] : List (List UInt8)).getD c [])), (51, .agg #[.int .i64 bk, .int .i64 ro, .int .i64 co, .int .i64 ch, .int .i64 bi, .int .i64 va]), (52, .int .i64 (c : Int))] [] ∧ Hs [] w0 w' [.blk g2 #[.bool true, .bool true, .bool false, .bool true, .bool false, .bool true] 104, .blk g1 #[.int .i64 3, .int .i64 rk, .int .i64 bk, .int .i64 ro, .int .i64 co, .int .i64 ch, .int .i64 bi, .int .i64 va] 39] ∧ (c ≤ 6) ∧ (2 < c → co = 0) ∧ (4 < c → bi = 0)) (fun (c : Nat) => 6 - c) 0 ⟨_, frm_of, H, (Nat.zero_le _), (by omega), (by omega)⟩ ?_
  clear H
  rintro c _ v7 ⟨uf2, rfl, H, r1, r2, r3⟩
  rcases (show c = 0 ∨ c = 1 ∨ c = 2 ∨ c = 3 ∨ c = 4 ∨ c = 5 ∨ c = 6 by omega) with rfl | rfl | rfl | rfl | rfl | rfl | rfl
  · skip
    replace H : Hs [] w0 _ [.blk g2 #[.bool true, .bool true, .bool false, .bool true, .bool false, .bool true] 104, .blk g1 #[.int .i64 3, .int .i64 rk, .int .i64 bk, .int .i64 ro, .int .i64 co, .int .i64 ch, .int .i64 bi, .int .i64 va] 39] := hsAs H (by kernel_rfl)
    refine x_seq <| x_region <| x_b H [.m] <| x_nil <| x_then <| x_seq <| x_t (by kernel_rfl) ?_
    refine x_skipc <| x_then <| x_seq <| x_block <| x_seq <| x_region <| x_b H [.m, .m, .m, .m] ?_
    refine x_nil <| x_then <| x_seq <| x_region <| x_b H [.m, .m, .l 0 0] <| x_nil <| x_then ?_
    refine x_t (by kernel_rfl) <| x_region <| x_b H [.m, .m] <| z_callB H (Number_of hx.bk _) fun v8 H => x_val (S (([32] : List UInt8) ++ (itoa bk))) (by kernel_rfl) rfl (Eq.trans (by kernel_rfl) (strAdd (P := Tryd.prog) (t := 9) (a := ([32] : List UInt8)) (b := itoa bk) (by simp only [List.length_append, List.length_cons, List.length_nil]; omega))) <| x_val (S (tB (faultB 3) [rk, bk])) (by kernel_rfl) rfl (Eq.trans (by kernel_rfl) (strAdd (P := Tryd.prog) (t := 9) (a := tB (faultB 3) [rk]) (b := ([32] : List UInt8) ++ (itoa bk)) (by have q := tB_len (w := faultB 3) (l := [rk]) fl (by simp <;> omega) (by simp); simp only [List.length_append, List.length_cons, List.length_nil]; omega))) <| x_b H [.m] ?_
    refine x_nil <| x_blk <| x_then <| x_region <| x_b H [.m, .m] <| x_nil <| x_then ?_
    replace H := H.pk [0, 1]
    replace H : Hs [] w0 _ [.blk g2 #[.bool true, .bool true, .bool false, .bool true, .bool false, .bool true] 104, .blk g1 #[.int .i64 3, .int .i64 rk, .int .i64 bk, .int .i64 ro, .int .i64 co, .int .i64 ch, .int .i64 bi, .int .i64 va] 39] := hsAs H (by kernel_rfl)
    exact ⟨1, (by omega), _, frm_of, H, (by omega), (by omega), (by omega)⟩
  · skip
    replace H : Hs [] w0 _ [.blk g2 #[.bool true, .bool true, .bool false, .bool true, .bool false, .bool true] 104, .blk g1 #[.int .i64 3, .int .i64 rk, .int .i64 bk, .int .i64 ro, .int .i64 co, .int .i64 ch, .int .i64 bi, .int .i64 va] 39] := hsAs H (by kernel_rfl)
    refine x_seq <| x_region <| x_b H [.m] <| x_nil <| x_then <| x_seq <| x_t (by kernel_rfl) ?_
    refine x_skipc <| x_then <| x_seq <| x_block <| x_seq <| x_region <| x_b H [.m, .m, .m, .m] ?_
    refine x_nil <| x_then <| x_seq <| x_region <| x_b H [.m, .m, .l 0 1] <| x_nil <| x_then ?_
    refine x_t (by kernel_rfl) <| x_region <| x_b H [.m, .m] <| z_callB H (Number_of hx.ro _) fun v9 H => x_val (S (([32] : List UInt8) ++ (itoa ro))) (by kernel_rfl) rfl (Eq.trans (by kernel_rfl) (strAdd (P := Tryd.prog) (t := 9) (a := ([32] : List UInt8)) (b := itoa ro) (by simp only [List.length_append, List.length_cons, List.length_nil]; omega))) <| x_val (S (tB (faultB 3) [rk, bk, ro])) (by kernel_rfl) rfl (Eq.trans (by kernel_rfl) (strAdd (P := Tryd.prog) (t := 9) (a := tB (faultB 3) [rk, bk]) (b := ([32] : List UInt8) ++ (itoa ro)) (by have q := tB_len (w := faultB 3) (l := [rk, bk]) fl (by simp <;> omega) (by simp); simp only [List.length_append, List.length_cons, List.length_nil]; omega))) <| x_b H [.m] ?_
    refine x_nil <| x_blk <| x_then <| x_region <| x_b H [.m, .m] <| x_nil <| x_then ?_
    replace H := H.pk [0, 1]
    replace H : Hs [] w0 _ [.blk g2 #[.bool true, .bool true, .bool false, .bool true, .bool false, .bool true] 104, .blk g1 #[.int .i64 3, .int .i64 rk, .int .i64 bk, .int .i64 ro, .int .i64 co, .int .i64 ch, .int .i64 bi, .int .i64 va] 39] := hsAs H (by kernel_rfl)
    exact ⟨2, (by omega), _, frm_of, H, (by omega), (by omega), (by omega)⟩
  · skip
    replace H : Hs [] w0 _ [.blk g2 #[.bool true, .bool true, .bool false, .bool true, .bool false, .bool true] 104, .blk g1 #[.int .i64 3, .int .i64 rk, .int .i64 bk, .int .i64 ro, .int .i64 co, .int .i64 ch, .int .i64 bi, .int .i64 va] 39] := hsAs H (by kernel_rfl)
    refine x_seq <| x_region <| x_b H [.m] <| x_nil <| x_then <| x_seq <| x_t (by kernel_rfl) ?_
    refine x_skipc <| x_then <| x_seq <| x_block <| x_seq <| x_region <| x_b H [.m, .m, .m, .m] ?_
    refine x_nil <| x_then <| x_seq <| x_region <| x_b H [.m, .m, .l 0 2] <| x_nil <| x_then ?_
    refine x_f (by kernel_rfl) <| x_seq <| x_region <| x_b H [.m, .v (.bool (!(decide (co = 0))))] <| x_nil <| x_then ?_
    cases h1 : decide (co = 0)
    · skip
      have h1p := of_decide_eq_false h1
      refine x_t (by kernel_rfl) <| x_seq <| x_region <| x_b H [.m, .m] <| x_nil <| x_then <| x_retc ?_
      refine x_blk_ret <| x_then_ret <| x_then_ret <| x_blk_ret <| x_then_ret <| x_ret (.tuple #[S ([] : List UInt8), .bool false]) (by kernel_rfl) (by kernel_rfl) ?_
      exact ⟨rfl, H.below⟩
    have h1p := of_decide_eq_true h1
    refine x_f (by kernel_rfl) <| x_skipc <| x_blk <| x_then <| x_region <| x_b H [.m, .m] <| x_nil ?_
    refine x_then ?_
    replace H := H.pk [0, 1]
    replace H : Hs [] w0 _ [.blk g2 #[.bool true, .bool true, .bool false, .bool true, .bool false, .bool true] 104, .blk g1 #[.int .i64 3, .int .i64 rk, .int .i64 bk, .int .i64 ro, .int .i64 co, .int .i64 ch, .int .i64 bi, .int .i64 va] 39] := hsAs H (by kernel_rfl)
    exact ⟨3, (by omega), _, frm_of, H, (by omega), (by omega), (by omega)⟩
  · skip
    replace H : Hs [] w0 _ [.blk g2 #[.bool true, .bool true, .bool false, .bool true, .bool false, .bool true] 104, .blk g1 #[.int .i64 3, .int .i64 rk, .int .i64 bk, .int .i64 ro, .int .i64 co, .int .i64 ch, .int .i64 bi, .int .i64 va] 39] := hsAs H (by kernel_rfl)
    refine x_seq <| x_region <| x_b H [.m] <| x_nil <| x_then <| x_seq <| x_t (by kernel_rfl) ?_
    refine x_skipc <| x_then <| x_seq <| x_block <| x_seq <| x_region <| x_b H [.m, .m, .m, .m] ?_
    refine x_nil <| x_then <| x_seq <| x_region <| x_b H [.m, .m, .l 0 3] <| x_nil <| x_then ?_
    refine x_t (by kernel_rfl) <| x_region <| x_b H [.m, .m] <| z_callB H (Number_of hx.ch _) fun v10 H => x_val (S (([32] : List UInt8) ++ (itoa ch))) (by kernel_rfl) rfl (Eq.trans (by kernel_rfl) (strAdd (P := Tryd.prog) (t := 9) (a := ([32] : List UInt8)) (b := itoa ch) (by simp only [List.length_append, List.length_cons, List.length_nil]; omega))) <| x_val (S (tB (faultB 3) [rk, bk, ro, ch])) (by kernel_rfl) rfl (Eq.trans (by kernel_rfl) (strAdd (P := Tryd.prog) (t := 9) (a := tB (faultB 3) [rk, bk, ro]) (b := ([32] : List UInt8) ++ (itoa ch)) (by have q := tB_len (w := faultB 3) (l := [rk, bk, ro]) fl (by simp <;> omega) (by simp); simp only [List.length_append, List.length_cons, List.length_nil]; omega))) <| x_b H [.m] ?_
    refine x_nil <| x_blk <| x_then <| x_region <| x_b H [.m, .m] <| x_nil <| x_then ?_
    replace H := H.pk [0, 1]
    replace H : Hs [] w0 _ [.blk g2 #[.bool true, .bool true, .bool false, .bool true, .bool false, .bool true] 104, .blk g1 #[.int .i64 3, .int .i64 rk, .int .i64 bk, .int .i64 ro, .int .i64 co, .int .i64 ch, .int .i64 bi, .int .i64 va] 39] := hsAs H (by kernel_rfl)
    exact ⟨4, (by omega), _, frm_of, H, (by omega), (by omega), (by omega)⟩
  · skip
    replace H : Hs [] w0 _ [.blk g2 #[.bool true, .bool true, .bool false, .bool true, .bool false, .bool true] 104, .blk g1 #[.int .i64 3, .int .i64 rk, .int .i64 bk, .int .i64 ro, .int .i64 co, .int .i64 ch, .int .i64 bi, .int .i64 va] 39] := hsAs H (by kernel_rfl)
    refine x_seq <| x_region <| x_b H [.m] <| x_nil <| x_then <| x_seq <| x_t (by kernel_rfl) ?_
    refine x_skipc <| x_then <| x_seq <| x_block <| x_seq <| x_region <| x_b H [.m, .m, .m, .m] ?_
    refine x_nil <| x_then <| x_seq <| x_region <| x_b H [.m, .m, .l 0 4] <| x_nil <| x_then ?_
    refine x_f (by kernel_rfl) <| x_seq <| x_region <| x_b H [.m, .v (.bool (!(decide (bi = 0))))] <| x_nil <| x_then ?_
    cases h2 : decide (bi = 0)
    · skip
      have h2p := of_decide_eq_false h2
      refine x_t (by kernel_rfl) <| x_seq <| x_region <| x_b H [.m, .m] <| x_nil <| x_then <| x_retc ?_
      refine x_blk_ret <| x_then_ret <| x_then_ret <| x_blk_ret <| x_then_ret <| x_ret (.tuple #[S ([] : List UInt8), .bool false]) (by kernel_rfl) (by kernel_rfl) ?_
      exact ⟨rfl, H.below⟩
    have h2p := of_decide_eq_true h2
    refine x_f (by kernel_rfl) <| x_skipc <| x_blk <| x_then <| x_region <| x_b H [.m, .m] <| x_nil ?_
    refine x_then ?_
    replace H := H.pk [0, 1]
    replace H : Hs [] w0 _ [.blk g2 #[.bool true, .bool true, .bool false, .bool true, .bool false, .bool true] 104, .blk g1 #[.int .i64 3, .int .i64 rk, .int .i64 bk, .int .i64 ro, .int .i64 co, .int .i64 ch, .int .i64 bi, .int .i64 va] 39] := hsAs H (by kernel_rfl)
    exact ⟨5, (by omega), _, frm_of, H, (by omega), (by omega), (by omega)⟩
  · skip
    replace H : Hs [] w0 _ [.blk g2 #[.bool true, .bool true, .bool false, .bool true, .bool false, .bool true] 104, .blk g1 #[.int .i64 3, .int .i64 rk, .int .i64 bk, .int .i64 ro, .int .i64 co, .int .i64 ch, .int .i64 bi, .int .i64 va] 39] := hsAs H (by kernel_rfl)
    refine x_seq <| x_region <| x_b H [.m] <| x_nil <| x_then <| x_seq <| x_t (by kernel_rfl) ?_
    refine x_skipc <| x_then <| x_seq <| x_block <| x_seq <| x_region <| x_b H [.m, .m, .m, .m] ?_
    refine x_nil <| x_then <| x_seq <| x_region <| x_b H [.m, .m, .l 0 5] <| x_nil <| x_then ?_
    refine x_t (by kernel_rfl) <| x_region <| x_b H [.m, .m] <| z_callB H (Number_of hx.va _) fun v11 H => x_val (S (([32] : List UInt8) ++ (itoa va))) (by kernel_rfl) rfl (Eq.trans (by kernel_rfl) (strAdd (P := Tryd.prog) (t := 9) (a := ([32] : List UInt8)) (b := itoa va) (by simp only [List.length_append, List.length_cons, List.length_nil]; omega))) <| x_val (S (tB (faultB 3) [rk, bk, ro, ch, va])) (by kernel_rfl) rfl (Eq.trans (by kernel_rfl) (strAdd (P := Tryd.prog) (t := 9) (a := tB (faultB 3) [rk, bk, ro, ch]) (b := ([32] : List UInt8) ++ (itoa va)) (by have q := tB_len (w := faultB 3) (l := [rk, bk, ro, ch]) fl (by simp <;> omega) (by simp); simp only [List.length_append, List.length_cons, List.length_nil]; omega))) <| x_b H [.m] ?_
    refine x_nil <| x_blk <| x_then <| x_region <| x_b H [.m, .m] <| x_nil <| x_then ?_
    replace H := H.pk [0, 1]
    replace H : Hs [] w0 _ [.blk g2 #[.bool true, .bool true, .bool false, .bool true, .bool false, .bool true] 104, .blk g1 #[.int .i64 3, .int .i64 rk, .int .i64 bk, .int .i64 ro, .int .i64 co, .int .i64 ch, .int .i64 bi, .int .i64 va] 39] := hsAs H (by kernel_rfl)
    exact ⟨6, (by omega), _, frm_of, H, (by omega), (by omega), (by omega)⟩
  · skip
    replace H : Hs [] w0 _ [.blk g2 #[.bool true, .bool true, .bool false, .bool true, .bool false, .bool true] 104, .blk g1 #[.int .i64 3, .int .i64 rk, .int .i64 bk, .int .i64 ro, .int .i64 co, .int .i64 ch, .int .i64 bi, .int .i64 va] 39] := hsAs H (by kernel_rfl)
    refine x_seq <| x_region <| x_b H [.m] <| x_nil <| x_then <| x_seq <| x_f (by kernel_rfl) ?_
    refine x_exit <| x_then_exit <| x_then_exit <| x_blk_exit <| x_then <| x_seq <| x_region ?_
    refine x_b H [.m, .m, .m] <| x_nil <| x_then <| x_retc <| x_ret (.tuple #[S (tB (faultB 3) [rk, bk, ro, ch, va]), .bool true]) (by kernel_rfl) (by kernel_rfl) ?_
    exfalso; exact hz (by omega)
set_option maxRecDepth 100000 in
set_option maxHeartbeats 4000000 in
theorem broken_y4 {rk bk ro co ch bi va : Int} (hx : Rng (⟨8, 0, fun _ => 0, 0, 4, rk, bk, ro, co, ch, bi, va⟩ : Stp)) (hz : (ro = 0 ∧ bi = 0)) (w0 : World) :
    Calls Tryd.prog 36 #[.agg #[.int .i64 4, .int .i64 rk, .int .i64 bk, .int .i64 ro, .int .i64 co, .int .i64 ch, .int .i64 bi, .int .i64 va]] w0 fun e w' => e = .returned (.tuple #[S (txtS (⟨8, 0, fun _ => 0, 0, 4, rk, bk, ro, co, ch, bi, va⟩ : Stp)), .bool true]) ∧ Below w0.heap.size w0 w' := by
  refine z_enter Tryd.func36 rfl ?_
  have H := Hs.nil w0
  have fl := faultLen 4
  have l_rk : (itoa rk).length ≤ 22 := itl hx.rk
  have l_bk : (itoa bk).length ≤ 22 := itl hx.bk
  have l_ro : (itoa ro).length ≤ 22 := itl hx.ro
  have l_co : (itoa co).length ≤ 22 := itl hx.co
  have l_ch : (itoa ch).length ≤ 22 := itl hx.ch
  have l_bi : (itoa bi).length ≤ 22 := itl hx.bi
  have l_va : (itoa va).length ≤ 22 := itl hx.va
  refine x_seq <| x_region <| z_box H #[.int .i64 4, .int .i64 rk, .int .i64 bk, .int .i64 ro, .int .i64 co, .int .i64 ch, .int .i64 bi, .int .i64 va] 39 (fun v1 g1 H => ?_)
  refine x_b H [.m, .m] <| x_nil <| x_then <| x_seq <| x_seq <| x_region <| x_b H [.m, .l 0 0, .m, .m, .m, .l 0 0, .m, .m] ?_
  refine x_nil <| x_then <| x_f (by kernel_rfl) <| x_skipc <| x_then <| x_seq <| x_region ?_
  refine x_b H [.m, .l 0 0] <| z_callB H (Has_4 _) fun v2 H => z_box H #[.bool false, .bool false, .bool false, .bool false, .bool false, .bool false] 104 (fun v3 g2 H => ?_)
  refine z_store H 0 0 [.bool true, .bool false, .bool true, .bool true, .bool false, .bool true] (fun v4 H => ?_)
  refine x_nil <| x_then <| x_seq <| x_region <| x_b H [.m, .l 1 0] <| z_callB H (Word_4 _) fun v5 H => x_b H [.m] ?_
  refine x_nil <| x_then <| x_seq <| x_seq <| x_region <| x_b H [.m, .l 1 0, .m] <| x_nil ?_
  refine x_then <| x_t (by kernel_rfl) <| x_region <| x_b H [.m, .m, .m, .l 1 1] <| z_callB H (Number_of hx.rk _) fun v6 H => x_val (S (([32] : List UInt8) ++ (itoa rk))) (by kernel_rfl) rfl (Eq.trans (by kernel_rfl) (strAdd (P := Tryd.prog) (t := 9) (a := ([32] : List UInt8)) (b := itoa rk) (by simp only [List.length_append, List.length_cons, List.length_nil]; omega))) <| x_val (S (tB (faultB 4) [rk])) (by kernel_rfl) rfl (Eq.trans (by kernel_rfl) (strAdd (P := Tryd.prog) (t := 9) (a := tB (faultB 4) []) (b := ([32] : List UInt8) ++ (itoa rk)) (by have q := tB_len (w := faultB 4) (l := []) fl (by simp <;> omega) (by simp); simp only [List.length_append, List.length_cons, List.length_nil]; omega))) ?_
  refine x_b H [.m] <| x_nil <| x_then <| x_seq <| x_seq <| x_region <| x_b H [.m, .m, .l 1 2, .m, .m, .l 1 3, .m, .m, .l 1 4, .m, .l 1 5, .m, .l 1 6, .m, .l 1 7, .m, .m] ?_
  refine x_nil <| z_fr 68 [(4, .pointer (some ⟨g2, 0, none⟩)), (5, S (tB (faultB 4) [rk])), (51, .agg #[.int .i64 bk, .int .i64 ro, .int .i64 co, .int .i64 ch, .int .i64 bi, .int .i64 va]), (52, .int .i64 0)] [] fun uf1 => x_then <| x_block <| x_loop (G := Nat) (fun (c : Nat) a w' => ∃ uf2 : Nat → Value, a = frm 68 uf2 [(4, .pointer (some ⟨g2, 0, none⟩)), (5, S (([tB (faultB 4) [rk], tB (faultB 4) [rk, bk], tB (faultB 4) [rk, bk], tB (faultB 4) [rk, bk, co], tB (faultB 4) [rk, bk, co, ch], tB (faultB 4) [rk, bk, co, ch], tB (faultB 4) [rk, bk, co, ch, va]] : List (List UInt8)).getD c [])), (51, .agg #[.int .i64 bk, .int .i64 ro, .int .i64 co, .int .i64 ch, .int .i64 bi, .int .i64 va]), (52, .int .i64 (c : Int))] [] ∧ Hs [] w0 w' [.blk g2 #[.bool true, .bool false, .bool true, .bool true, .bool false, .bool true] 104, .blk g1 #[.int .i64 4, .int .i64 rk, .int .i64 bk, .int .i64 ro, .int .i64 co, .int .i64 ch, .int .i64 bi, .int .i64 va] 39] ∧ (c ≤ 6) ∧ (1 < c → ro = 0) ∧ (4 < c → bi = 0)) (fun (c : Nat) => 6 - c) 0 ⟨_, frm_of, H, (Nat.zero_le _), (by omega), (by omega)⟩ ?_
  clear H
  rintro c _ v7 ⟨uf2, rfl, H, r1, r2, r3⟩
  rcases (show c = 0 ∨ c = 1 ∨ c = 2 ∨ c = 3 ∨ c = 4 ∨ c = 5 ∨ c = 6 by omega) with rfl | rfl | rfl | rfl | rfl | rfl | rfl
  · skip
    replace H : Hs [] w0 _ [.blk g2 #[.bool true, .bool false, .bool true, .bool true, .bool false, .bool true] 104, .blk g1 #[.int .i64 4, .int .i64 rk, .int .i64 bk, .int .i64 ro, .int .i64 co, .int .i64 ch, .int .i64 bi, .int .i64 va] 39] := hsAs H (by kernel_rfl)
    refine x_seq <| x_region <| x_b H [.m] <| x_nil <| x_then <| x_seq <| x_t (by kernel_rfl) ?_
    refine x_skipc <| x_then <| x_seq <| x_block <| x_seq <| x_region <| x_b H [.m, .m, .m, .m] ?_
    refine x_nil <| x_then <| x_seq <| x_region <| x_b H [.m, .m, .l 0 0] <| x_nil <| x_then ?_
    refine x_t (by kernel_rfl) <| x_region <| x_b H [.m, .m] <| z_callB H (Number_of hx.bk _) fun v8 H => x_val (S (([32] : List UInt8) ++ (itoa bk))) (by kernel_rfl) rfl (Eq.trans (by kernel_rfl) (strAdd (P := Tryd.prog) (t := 9) (a := ([32] : List UInt8)) (b := itoa bk) (by simp only [List.length_append, List.length_cons, List.length_nil]; omega))) <| x_val (S (tB (faultB 4) [rk, bk])) (by kernel_rfl) rfl (Eq.trans (by kernel_rfl) (strAdd (P := Tryd.prog) (t := 9) (a := tB (faultB 4) [rk]) (b := ([32] : List UInt8) ++ (itoa bk)) (by have q := tB_len (w := faultB 4) (l := [rk]) fl (by simp <;> omega) (by simp); simp only [List.length_append, List.length_cons, List.length_nil]; omega))) <| x_b H [.m] ?_
    refine x_nil <| x_blk <| x_then <| x_region <| x_b H [.m, .m] <| x_nil <| x_then ?_
    replace H := H.pk [0, 1]
    replace H : Hs [] w0 _ [.blk g2 #[.bool true, .bool false, .bool true, .bool true, .bool false, .bool true] 104, .blk g1 #[.int .i64 4, .int .i64 rk, .int .i64 bk, .int .i64 ro, .int .i64 co, .int .i64 ch, .int .i64 bi, .int .i64 va] 39] := hsAs H (by kernel_rfl)
    exact ⟨1, (by omega), _, frm_of, H, (by omega), (by omega), (by omega)⟩
  · skip
    replace H : Hs [] w0 _ [.blk g2 #[.bool true, .bool false, .bool true, .bool true, .bool false, .bool true] 104, .blk g1 #[.int .i64 4, .int .i64 rk, .int .i64 bk, .int .i64 ro, .int .i64 co, .int .i64 ch, .int .i64 bi, .int .i64 va] 39] := hsAs H (by kernel_rfl)
    refine x_seq <| x_region <| x_b H [.m] <| x_nil <| x_then <| x_seq <| x_t (by kernel_rfl) ?_
    refine x_skipc <| x_then <| x_seq <| x_block <| x_seq <| x_region <| x_b H [.m, .m, .m, .m] ?_
    refine x_nil <| x_then <| x_seq <| x_region <| x_b H [.m, .m, .l 0 1] <| x_nil <| x_then ?_
    refine x_f (by kernel_rfl) <| x_seq <| x_region <| x_b H [.m, .v (.bool (!(decide (ro = 0))))] <| x_nil <| x_then ?_
    cases h1 : decide (ro = 0)
    · skip
      have h1p := of_decide_eq_false h1
      exact absurd (by omega) h1p
    have h1p := of_decide_eq_true h1
    refine x_f (by kernel_rfl) <| x_skipc <| x_blk <| x_then <| x_region <| x_b H [.m, .m] <| x_nil ?_
    refine x_then ?_
    replace H := H.pk [0, 1]
    replace H : Hs [] w0 _ [.blk g2 #[.bool true, .bool false, .bool true, .bool true, .bool false, .bool true] 104, .blk g1 #[.int .i64 4, .int .i64 rk, .int .i64 bk, .int .i64 ro, .int .i64 co, .int .i64 ch, .int .i64 bi, .int .i64 va] 39] := hsAs H (by kernel_rfl)
    exact ⟨2, (by omega), _, frm_of, H, (by omega), (by omega), (by omega)⟩
  · skip
    replace H : Hs [] w0 _ [.blk g2 #[.bool true, .bool false, .bool true, .bool true, .bool false, .bool true] 104, .blk g1 #[.int .i64 4, .int .i64 rk, .int .i64 bk, .int .i64 ro, .int .i64 co, .int .i64 ch, .int .i64 bi, .int .i64 va] 39] := hsAs H (by kernel_rfl)
    refine x_seq <| x_region <| x_b H [.m] <| x_nil <| x_then <| x_seq <| x_t (by kernel_rfl) ?_
    refine x_skipc <| x_then <| x_seq <| x_block <| x_seq <| x_region <| x_b H [.m, .m, .m, .m] ?_
    refine x_nil <| x_then <| x_seq <| x_region <| x_b H [.m, .m, .l 0 2] <| x_nil <| x_then ?_
    refine x_t (by kernel_rfl) <| x_region <| x_b H [.m, .m] <| z_callB H (Number_of hx.co _) fun v9 H => x_val (S (([32] : List UInt8) ++ (itoa co))) (by kernel_rfl) rfl (Eq.trans (by kernel_rfl) (strAdd (P := Tryd.prog) (t := 9) (a := ([32] : List UInt8)) (b := itoa co) (by simp only [List.length_append, List.length_cons, List.length_nil]; omega))) <| x_val (S (tB (faultB 4) [rk, bk, co])) (by kernel_rfl) rfl (Eq.trans (by kernel_rfl) (strAdd (P := Tryd.prog) (t := 9) (a := tB (faultB 4) [rk, bk]) (b := ([32] : List UInt8) ++ (itoa co)) (by have q := tB_len (w := faultB 4) (l := [rk, bk]) fl (by simp <;> omega) (by simp); simp only [List.length_append, List.length_cons, List.length_nil]; omega))) <| x_b H [.m] ?_
    refine x_nil <| x_blk <| x_then <| x_region <| x_b H [.m, .m] <| x_nil <| x_then ?_
    replace H := H.pk [0, 1]
    replace H : Hs [] w0 _ [.blk g2 #[.bool true, .bool false, .bool true, .bool true, .bool false, .bool true] 104, .blk g1 #[.int .i64 4, .int .i64 rk, .int .i64 bk, .int .i64 ro, .int .i64 co, .int .i64 ch, .int .i64 bi, .int .i64 va] 39] := hsAs H (by kernel_rfl)
    exact ⟨3, (by omega), _, frm_of, H, (by omega), (by omega), (by omega)⟩
  · skip
    replace H : Hs [] w0 _ [.blk g2 #[.bool true, .bool false, .bool true, .bool true, .bool false, .bool true] 104, .blk g1 #[.int .i64 4, .int .i64 rk, .int .i64 bk, .int .i64 ro, .int .i64 co, .int .i64 ch, .int .i64 bi, .int .i64 va] 39] := hsAs H (by kernel_rfl)
    refine x_seq <| x_region <| x_b H [.m] <| x_nil <| x_then <| x_seq <| x_t (by kernel_rfl) ?_
    refine x_skipc <| x_then <| x_seq <| x_block <| x_seq <| x_region <| x_b H [.m, .m, .m, .m] ?_
    refine x_nil <| x_then <| x_seq <| x_region <| x_b H [.m, .m, .l 0 3] <| x_nil <| x_then ?_
    refine x_t (by kernel_rfl) <| x_region <| x_b H [.m, .m] <| z_callB H (Number_of hx.ch _) fun v10 H => x_val (S (([32] : List UInt8) ++ (itoa ch))) (by kernel_rfl) rfl (Eq.trans (by kernel_rfl) (strAdd (P := Tryd.prog) (t := 9) (a := ([32] : List UInt8)) (b := itoa ch) (by simp only [List.length_append, List.length_cons, List.length_nil]; omega))) <| x_val (S (tB (faultB 4) [rk, bk, co, ch])) (by kernel_rfl) rfl (Eq.trans (by kernel_rfl) (strAdd (P := Tryd.prog) (t := 9) (a := tB (faultB 4) [rk, bk, co]) (b := ([32] : List UInt8) ++ (itoa ch)) (by have q := tB_len (w := faultB 4) (l := [rk, bk, co]) fl (by simp <;> omega) (by simp); simp only [List.length_append, List.length_cons, List.length_nil]; omega))) <| x_b H [.m] ?_
    refine x_nil <| x_blk <| x_then <| x_region <| x_b H [.m, .m] <| x_nil <| x_then ?_
    replace H := H.pk [0, 1]
    replace H : Hs [] w0 _ [.blk g2 #[.bool true, .bool false, .bool true, .bool true, .bool false, .bool true] 104, .blk g1 #[.int .i64 4, .int .i64 rk, .int .i64 bk, .int .i64 ro, .int .i64 co, .int .i64 ch, .int .i64 bi, .int .i64 va] 39] := hsAs H (by kernel_rfl)
    exact ⟨4, (by omega), _, frm_of, H, (by omega), (by omega), (by omega)⟩
  · skip
    replace H : Hs [] w0 _ [.blk g2 #[.bool true, .bool false, .bool true, .bool true, .bool false, .bool true] 104, .blk g1 #[.int .i64 4, .int .i64 rk, .int .i64 bk, .int .i64 ro, .int .i64 co, .int .i64 ch, .int .i64 bi, .int .i64 va] 39] := hsAs H (by kernel_rfl)
    refine x_seq <| x_region <| x_b H [.m] <| x_nil <| x_then <| x_seq <| x_t (by kernel_rfl) ?_
    refine x_skipc <| x_then <| x_seq <| x_block <| x_seq <| x_region <| x_b H [.m, .m, .m, .m] ?_
    refine x_nil <| x_then <| x_seq <| x_region <| x_b H [.m, .m, .l 0 4] <| x_nil <| x_then ?_
    refine x_f (by kernel_rfl) <| x_seq <| x_region <| x_b H [.m, .v (.bool (!(decide (bi = 0))))] <| x_nil <| x_then ?_
    cases h2 : decide (bi = 0)
    · skip
      have h2p := of_decide_eq_false h2
      exact absurd (by omega) h2p
    have h2p := of_decide_eq_true h2
    refine x_f (by kernel_rfl) <| x_skipc <| x_blk <| x_then <| x_region <| x_b H [.m, .m] <| x_nil ?_
    refine x_then ?_
    replace H := H.pk [0, 1]
    replace H : Hs [] w0 _ [.blk g2 #[.bool true, .bool false, .bool true, .bool true, .bool false, .bool true] 104, .blk g1 #[.int .i64 4, .int .i64 rk, .int .i64 bk, .int .i64 ro, .int .i64 co, .int .i64 ch, .int .i64 bi, .int .i64 va] 39] := hsAs H (by kernel_rfl)
    exact ⟨5, (by omega), _, frm_of, H, (by omega), (by omega), (by omega)⟩
  · skip
    replace H : Hs [] w0 _ [.blk g2 #[.bool true, .bool false, .bool true, .bool true, .bool false, .bool true] 104, .blk g1 #[.int .i64 4, .int .i64 rk, .int .i64 bk, .int .i64 ro, .int .i64 co, .int .i64 ch, .int .i64 bi, .int .i64 va] 39] := hsAs H (by kernel_rfl)
    refine x_seq <| x_region <| x_b H [.m] <| x_nil <| x_then <| x_seq <| x_t (by kernel_rfl) ?_
    refine x_skipc <| x_then <| x_seq <| x_block <| x_seq <| x_region <| x_b H [.m, .m, .m, .m] ?_
    refine x_nil <| x_then <| x_seq <| x_region <| x_b H [.m, .m, .l 0 5] <| x_nil <| x_then ?_
    refine x_t (by kernel_rfl) <| x_region <| x_b H [.m, .m] <| z_callB H (Number_of hx.va _) fun v11 H => x_val (S (([32] : List UInt8) ++ (itoa va))) (by kernel_rfl) rfl (Eq.trans (by kernel_rfl) (strAdd (P := Tryd.prog) (t := 9) (a := ([32] : List UInt8)) (b := itoa va) (by simp only [List.length_append, List.length_cons, List.length_nil]; omega))) <| x_val (S (tB (faultB 4) [rk, bk, co, ch, va])) (by kernel_rfl) rfl (Eq.trans (by kernel_rfl) (strAdd (P := Tryd.prog) (t := 9) (a := tB (faultB 4) [rk, bk, co, ch]) (b := ([32] : List UInt8) ++ (itoa va)) (by have q := tB_len (w := faultB 4) (l := [rk, bk, co, ch]) fl (by simp <;> omega) (by simp); simp only [List.length_append, List.length_cons, List.length_nil]; omega))) <| x_b H [.m] ?_
    refine x_nil <| x_blk <| x_then <| x_region <| x_b H [.m, .m] <| x_nil <| x_then ?_
    replace H := H.pk [0, 1]
    replace H : Hs [] w0 _ [.blk g2 #[.bool true, .bool false, .bool true, .bool true, .bool false, .bool true] 104, .blk g1 #[.int .i64 4, .int .i64 rk, .int .i64 bk, .int .i64 ro, .int .i64 co, .int .i64 ch, .int .i64 bi, .int .i64 va] 39] := hsAs H (by kernel_rfl)
    exact ⟨6, (by omega), _, frm_of, H, (by omega), (by omega), (by omega)⟩
  · skip
    replace H : Hs [] w0 _ [.blk g2 #[.bool true, .bool false, .bool true, .bool true, .bool false, .bool true] 104, .blk g1 #[.int .i64 4, .int .i64 rk, .int .i64 bk, .int .i64 ro, .int .i64 co, .int .i64 ch, .int .i64 bi, .int .i64 va] 39] := hsAs H (by kernel_rfl)
    refine x_seq <| x_region <| x_b H [.m] <| x_nil <| x_then <| x_seq <| x_f (by kernel_rfl) ?_
    refine x_exit <| x_then_exit <| x_then_exit <| x_blk_exit <| x_then <| x_seq <| x_region ?_
    refine x_b H [.m, .m, .m] <| x_nil <| x_then <| x_retc <| x_ret (.tuple #[S (tB (faultB 4) [rk, bk, co, ch, va]), .bool true]) (by kernel_rfl) (by kernel_rfl) ?_
    exact ⟨by rw [show txtS (⟨8, 0, fun _ => 0, 0, 4, rk, bk, ro, co, ch, bi, va⟩ : Stp) = Lib.join (faultB 4 :: (numsS (⟨8, 0, fun _ => 0, 0, 4, rk, bk, ro, co, ch, bi, va⟩ : Stp)).map itoa) [32] from rfl]; simp [tB, numsS, Lib.join, List.intercalate], H.below⟩
set_option maxRecDepth 100000 in
set_option maxHeartbeats 4000000 in
theorem broken_n4 {rk bk ro co ch bi va : Int} (hx : Rng (⟨8, 0, fun _ => 0, 0, 4, rk, bk, ro, co, ch, bi, va⟩ : Stp)) (hz : ¬ (ro = 0 ∧ bi = 0)) (w0 : World) :
    Calls Tryd.prog 36 #[.agg #[.int .i64 4, .int .i64 rk, .int .i64 bk, .int .i64 ro, .int .i64 co, .int .i64 ch, .int .i64 bi, .int .i64 va]] w0 fun e w' => e = .returned (.tuple #[S [], .bool false]) ∧ Below w0.heap.size w0 w' := by
  refine z_enter Tryd.func36 rfl ?_
  have H := Hs.nil w0
  have fl := faultLen 4
  have l_rk : (itoa rk).length ≤ 22 := itl hx.rk
  have l_bk : (itoa bk).length ≤ 22 := itl hx.bk
  have l_ro : (itoa ro).length ≤ 22 := itl hx.ro
  have l_co : (itoa co).length ≤ 22 := itl hx.co
  have l_ch : (itoa ch).length ≤ 22 := itl hx.ch
  have l_bi : (itoa bi).length ≤ 22 := itl hx.bi
  have l_va : (itoa va).length ≤ 22 := itl hx.va
  refine x_seq <| x_region <| z_box H #[.int .i64 4, .int .i64 rk, .int .i64 bk, .int .i64 ro, .int .i64 co, .int .i64 ch, .int .i64 bi, .int .i64 va] 39 (fun v1 g1 H => ?_)
  refine x_b H [.m, .m] <| x_nil <| x_then <| x_seq <| x_seq <| x_region <| x_b H [.m, .l 0 0, .m, .m, .m, .l 0 0, .m, .m] ?_
  refine x_nil <| x_then <| x_f (by kernel_rfl) <| x_skipc <| x_then <| x_seq <| x_region ?_
  refine x_b H [.m, .l 0 0] <| z_callB H (Has_4 _) fun v2 H => z_box H #[.bool false, .bool false, .bool false, .bool false, .bool false, .bool false] 104 (fun v3 g2 H => ?_)
  refine z_store H 0 0 [.bool true, .bool false, .bool true, .bool true, .bool false, .bool true] (fun v4 H => ?_)
  refine x_nil <| x_then <| x_seq <| x_region <| x_b H [.m, .l 1 0] <| z_callB H (Word_4 _) fun v5 H => x_b H [.m] ?_
  refine x_nil <| x_then <| x_seq <| x_seq <| x_region <| x_b H [.m, .l 1 0, .m] <| x_nil ?_
  refine x_then <| x_t (by kernel_rfl) <| x_region <| x_b H [.m, .m, .m, .l 1 1] <| z_callB H (Number_of hx.rk _) fun v6 H => x_val (S (([32] : List UInt8) ++ (itoa rk))) (by kernel_rfl) rfl (Eq.trans (by kernel_rfl) (strAdd (P := Tryd.prog) (t := 9) (a := ([32] : List UInt8)) (b := itoa rk) (by simp only [List.length_append, List.length_cons, List.length_nil]; omega))) <| x_val (S (tB (faultB 4) [rk])) (by kernel_rfl) rfl (Eq.trans (by kernel_rfl) (strAdd (P := Tryd.prog) (t := 9) (a := tB (faultB 4) []) (b := ([32] : List UInt8) ++ (itoa rk)) (by have q := tB_len (w := faultB 4) (l := []) fl (by simp <;> omega) (by simp); simp only [List.length_append, List.length_cons, List.length_nil]; omega))) ?_
  refine x_b H [.m] <| x_nil <| x_then <| x_seq <| x_seq <| x_region <| x_b H [.m, .m, .l 1 2, .m, .m, .l 1 3, .m, .m, .l 1 4, .m, .l 1 5, .m, .l 1 6, .m, .l 1 7, .m, .m] ?_
  refine x_nil <| z_fr 68 [(4, .pointer (some ⟨g2, 0, none⟩)), (5, S (tB (faultB 4) [rk])), (51, .agg #[.int .i64 bk, .int .i64 ro, .int .i64 co, .int .i64 ch, .int .i64 bi, .int .i64 va]), (52, .int .i64 0)] [] fun uf1 => x_then <| x_block <| x_loop (G := Nat) (fun (c : Nat) a w' => ∃ uf2 : Nat → Value, a = frm 68 uf2 [(4, .pointer (some ⟨g2, 0, none⟩)), (5, S (([tB (faultB 4) [rk], tB (faultB 4) [rk, bk], tB (faultB 4) [rk, bk], tB (faultB 4) [rk, bk, co], tB (faultB 4) [rk, bk, co, ch], tB (faultB 4) [rk, bk, co, ch], tB (faultB 4) [rk, bk, co, ch, va]] : List (List UInt8)).getD c [])), (51, .agg #[.int .i64 bk, .int .i64 ro, .int .i64 co, .int .i64 ch, .int .i64 bi, .int .i64 va]), (52, .int .i64 (c : Int))] [] ∧ Hs [] w0 w' [.blk g2 #[.bool true, .bool false, .bool true, .bool true, .bool false, .bool true] 104, .blk g1 #[.int .i64 4, .int .i64 rk, .int .i64 bk, .int .i64 ro, .int .i64 co, .int .i64 ch, .int .i64 bi, .int .i64 va] 39] ∧ (c ≤ 6) ∧ (1 < c → ro = 0) ∧ (4 < c → bi = 0)) (fun (c : Nat) => 6 - c) 0 ⟨_, frm_of, H, (Nat.zero_le _), (by omega), (by omega)⟩ ?_
  clear H
  rintro c _ v7 ⟨uf2, rfl, H, r1, r2, r3⟩
  rcases (show c = 0 ∨ c = 1 ∨ c = 2 ∨ c = 3 ∨ c = 4 ∨ c = 5 ∨ c = 6 by omega) with rfl | rfl | rfl | rfl | rfl | rfl | rfl
  · skip
    replace H : Hs [] w0 _ [.blk g2 #[.bool true, .bool false, .bool true, .bool true, .bool false, .bool true] 104, .blk g1 #[.int .i64 4, .int .i64 rk, .int .i64 bk, .int .i64 ro, .int .i64 co, .int .i64 ch, .int .i64 bi, .int .i64 va] 39] := hsAs H (by kernel_rfl)
    refine x_seq <| x_region <| x_b H [.m] <| x_nil <| x_then <| x_seq <| x_t (by kernel_rfl) ?_
    refine x_skipc <| x_then <| x_seq <| x_block <| x_seq <| x_region <| x_b H [.m, .m, .m, .m] ?_
    refine x_nil <| x_then <| x_seq <| x_region <| x_b H [.m, .m, .l 0 0] <| x_nil <| x_then ?_
    refine x_t (by kernel_rfl) <| x_region <| x_b H [.m, .m] <| z_callB H (Number_of hx.bk _) fun v8 H => x_val (S (([32] : List UInt8) ++ (itoa bk))) (by kernel_rfl) rfl (Eq.trans (by kernel_rfl) (strAdd (P := Tryd.prog) (t := 9) (a := ([32] : List UInt8)) (b := itoa bk) (by simp only [List.length_append, List.length_cons, List.length_nil]; omega))) <| x_val (S (tB (faultB 4) [rk, bk])) (by kernel_rfl) rfl (Eq.trans (by kernel_rfl) (strAdd (P := Tryd.prog) (t := 9) (a := tB (faultB 4) [rk]) (b := ([32] : List UInt8) ++ (itoa bk)) (by have q := tB_len (w := faultB 4) (l := [rk]) fl (by simp <;> omega) (by simp); simp only [List.length_append, List.length_cons, List.length_nil]; omega))) <| x_b H [.m] ?_
    refine x_nil <| x_blk <| x_then <| x_region <| x_b H [.m, .m] <| x_nil <| x_then ?_
    replace H := H.pk [0, 1]
    replace H : Hs [] w0 _ [.blk g2 #[.bool true, .bool false, .bool true, .bool true, .bool false, .bool true] 104, .blk g1 #[.int .i64 4, .int .i64 rk, .int .i64 bk, .int .i64 ro, .int .i64 co, .int .i64 ch, .int .i64 bi, .int .i64 va] 39] := hsAs H (by kernel_rfl)
    exact ⟨1, (by omega), _, frm_of, H, (by omega), (by omega), (by omega)⟩
  · skip
    replace H : Hs [] w0 _ [.blk g2 #[.bool true, .bool false, .bool true, .bool true, .bool false, .bool true] 104, .blk g1 #[.int .i64 4, .int .i64 rk, .int .i64 bk, .int .i64 ro, .int .i64 co, .int .i64 ch, .int .i64 bi, .int .i64 va] 39] := hsAs H (by kernel_rfl)
    refine x_seq <| x_region <| x_b H [.m] <| x_nil <| x_then <| x_seq <| x_t (by kernel_rfl) ?_
    refine x_skipc <| x_then <| x_seq <| x_block <| x_seq <| x_region <| x_b H [.m, .m, .m, .m] ?_
    refine x_nil <| x_then <| x_seq <| x_region <| x_b H [.m, .m, .l 0 1] <| x_nil <| x_then ?_
    refine x_f (by kernel_rfl) <| x_seq <| x_region <| x_b H [.m, .v (.bool (!(decide (ro = 0))))] <| x_nil <| x_then ?_
    cases h1 : decide (ro = 0)
    · skip
      have h1p := of_decide_eq_false h1
      refine x_t (by kernel_rfl) <| x_seq <| x_region <| x_b H [.m, .m] <| x_nil <| x_then <| x_retc ?_
      refine x_blk_ret <| x_then_ret <| x_then_ret <| x_blk_ret <| x_then_ret <| x_ret (.tuple #[S ([] : List UInt8), .bool false]) (by kernel_rfl) (by kernel_rfl) ?_
      exact ⟨rfl, H.below⟩
    have h1p := of_decide_eq_true h1
    refine x_f (by kernel_rfl) <| x_skipc <| x_blk <| x_then <| x_region <| x_b H [.m, .m] <| x_nil ?_
    refine x_then ?_
    replace H := H.pk [0, 1]
    replace H : Hs [] w0 _ [.blk g2 #[.bool true, .bool false, .bool true, .bool true, .bool false, .bool true] 104, .blk g1 #[.int .i64 4, .int .i64 rk, .int .i64 bk, .int .i64 ro, .int .i64 co, .int .i64 ch, .int .i64 bi, .int .i64 va] 39] := hsAs H (by kernel_rfl)
    exact ⟨2, (by omega), _, frm_of, H, (by omega), (by omega), (by omega)⟩
  · skip
    replace H : Hs [] w0 _ [.blk g2 #[.bool true, .bool false, .bool true, .bool true, .bool false, .bool true] 104, .blk g1 #[.int .i64 4, .int .i64 rk, .int .i64 bk, .int .i64 ro, .int .i64 co, .int .i64 ch, .int .i64 bi, .int .i64 va] 39] := hsAs H (by kernel_rfl)
    refine x_seq <| x_region <| x_b H [.m] <| x_nil <| x_then <| x_seq <| x_t (by kernel_rfl) ?_
    refine x_skipc <| x_then <| x_seq <| x_block <| x_seq <| x_region <| x_b H [.m, .m, .m, .m] ?_
    refine x_nil <| x_then <| x_seq <| x_region <| x_b H [.m, .m, .l 0 2] <| x_nil <| x_then ?_
    refine x_t (by kernel_rfl) <| x_region <| x_b H [.m, .m] <| z_callB H (Number_of hx.co _) fun v9 H => x_val (S (([32] : List UInt8) ++ (itoa co))) (by kernel_rfl) rfl (Eq.trans (by kernel_rfl) (strAdd (P := Tryd.prog) (t := 9) (a := ([32] : List UInt8)) (b := itoa co) (by simp only [List.length_append, List.length_cons, List.length_nil]; omega))) <| x_val (S (tB (faultB 4) [rk, bk, co])) (by kernel_rfl) rfl (Eq.trans (by kernel_rfl) (strAdd (P := Tryd.prog) (t := 9) (a := tB (faultB 4) [rk, bk]) (b := ([32] : List UInt8) ++ (itoa co)) (by have q := tB_len (w := faultB 4) (l := [rk, bk]) fl (by simp <;> omega) (by simp); simp only [List.length_append, List.length_cons, List.length_nil]; omega))) <| x_b H [.m] ?_
    refine x_nil <| x_blk <| x_then <| x_region <| x_b H [.m, .m] <| x_nil <| x_then ?_
    replace H := H.pk [0, 1]
    replace H : Hs [] w0 _ [.blk g2 #[.bool true, .bool false, .bool true, .bool true, .bool false, .bool true] 104, .blk g1 #[.int .i64 4, .int .i64 rk, .int .i64 bk, .int .i64 ro, .int .i64 co, .int .i64 ch, .int .i64 bi, .int .i64 va] 39] := hsAs H (by kernel_rfl)
    exact ⟨3, (by omega), _, frm_of, H, (by omega), (by omega), (by omega)⟩
  · skip
    replace H : Hs [] w0 _ [.blk g2 #[.bool true, .bool false, .bool true, .bool true, .bool false, .bool true] 104, .blk g1 #[.int .i64 4, .int .i64 rk, .int .i64 bk, .int .i64 ro, .int .i64 co, .int .i64 ch, .int .i64 bi, .int .i64 va] 39] := hsAs H (by kernel_rfl)
    refine x_seq <| x_region <| x_b H [.m] <| x_nil <| x_then <| x_seq <| x_t (by kernel_rfl) ?_
    refine x_skipc <| x_then <| x_seq <| x_block <| x_seq <| x_region <| x_b H [.m, .m, .m, .m] ?_
    refine x_nil <| x_then <| x_seq <| x_region <| x_b H [.m, .m, .l 0 3] <| x_nil <| x_then ?_
    refine x_t (by kernel_rfl) <| x_region <| x_b H [.m, .m] <| z_callB H (Number_of hx.ch _) fun v10 H => x_val (S (([32] : List UInt8) ++ (itoa ch))) (by kernel_rfl) rfl (Eq.trans (by kernel_rfl) (strAdd (P := Tryd.prog) (t := 9) (a := ([32] : List UInt8)) (b := itoa ch) (by simp only [List.length_append, List.length_cons, List.length_nil]; omega))) <| x_val (S (tB (faultB 4) [rk, bk, co, ch])) (by kernel_rfl) rfl (Eq.trans (by kernel_rfl) (strAdd (P := Tryd.prog) (t := 9) (a := tB (faultB 4) [rk, bk, co]) (b := ([32] : List UInt8) ++ (itoa ch)) (by have q := tB_len (w := faultB 4) (l := [rk, bk, co]) fl (by simp <;> omega) (by simp); simp only [List.length_append, List.length_cons, List.length_nil]; omega))) <| x_b H [.m] ?_
    refine x_nil <| x_blk <| x_then <| x_region <| x_b H [.m, .m] <| x_nil <| x_then ?_
    replace H := H.pk [0, 1]
    replace H : Hs [] w0 _ [.blk g2 #[.bool true, .bool false, .bool true, .bool true, .bool false, .bool true] 104, .blk g1 #[.int .i64 4, .int .i64 rk, .int .i64 bk, .int .i64 ro, .int .i64 co, .int .i64 ch, .int .i64 bi, .int .i64 va] 39] := hsAs H (by kernel_rfl)
    exact ⟨4, (by omega), _, frm_of, H, (by omega), (by omega), (by omega)⟩
  · skip
    replace H : Hs [] w0 _ [.blk g2 #[.bool true, .bool false, .bool true, .bool true, .bool false, .bool true] 104, .blk g1 #[.int .i64 4, .int .i64 rk, .int .i64 bk, .int .i64 ro, .int .i64 co, .int .i64 ch, .int .i64 bi, .int .i64 va] 39] := hsAs H (by kernel_rfl)
    refine x_seq <| x_region <| x_b H [.m] <| x_nil <| x_then <| x_seq <| x_t (by kernel_rfl) ?_
    refine x_skipc <| x_then <| x_seq <| x_block <| x_seq <| x_region <| x_b H [.m, .m, .m, .m] ?_
    refine x_nil <| x_then <| x_seq <| x_region <| x_b H [.m, .m, .l 0 4] <| x_nil <| x_then ?_
    refine x_f (by kernel_rfl) <| x_seq <| x_region <| x_b H [.m, .v (.bool (!(decide (bi = 0))))] <| x_nil <| x_then ?_
    cases h2 : decide (bi = 0)
    · skip
      have h2p := of_decide_eq_false h2
      refine x_t (by kernel_rfl) <| x_seq <| x_region <| x_b H [.m, .m] <| x_nil <| x_then <| x_retc ?_
      refine x_blk_ret <| x_then_ret <| x_then_ret <| x_blk_ret <| x_then_ret <| x_ret (.tuple #[S ([] : List UInt8), .bool false]) (by kernel_rfl) (by kernel_rfl) ?_
      exact ⟨rfl, H.below⟩
    have h2p := of_decide_eq_true h2
    refine x_f (by kernel_rfl) <| x_skipc <| x_blk <| x_then <| x_region <| x_b H [.m, .m] <| x_nil ?_
    refine x_then ?_
    replace H := H.pk [0, 1]
    replace H : Hs [] w0 _ [.blk g2 #[.bool true, .bool false, .bool true, .bool true, .bool false, .bool true] 104, .blk g1 #[.int .i64 4, .int .i64 rk, .int .i64 bk, .int .i64 ro, .int .i64 co, .int .i64 ch, .int .i64 bi, .int .i64 va] 39] := hsAs H (by kernel_rfl)
    exact ⟨5, (by omega), _, frm_of, H, (by omega), (by omega), (by omega)⟩
  · skip
    replace H : Hs [] w0 _ [.blk g2 #[.bool true, .bool false, .bool true, .bool true, .bool false, .bool true] 104, .blk g1 #[.int .i64 4, .int .i64 rk, .int .i64 bk, .int .i64 ro, .int .i64 co, .int .i64 ch, .int .i64 bi, .int .i64 va] 39] := hsAs H (by kernel_rfl)
    refine x_seq <| x_region <| x_b H [.m] <| x_nil <| x_then <| x_seq <| x_t (by kernel_rfl) ?_
    refine x_skipc <| x_then <| x_seq <| x_block <| x_seq <| x_region <| x_b H [.m, .m, .m, .m] ?_
    refine x_nil <| x_then <| x_seq <| x_region <| x_b H [.m, .m, .l 0 5] <| x_nil <| x_then ?_
    refine x_t (by kernel_rfl) <| x_region <| x_b H [.m, .m] <| z_callB H (Number_of hx.va _) fun v11 H => x_val (S (([32] : List UInt8) ++ (itoa va))) (by kernel_rfl) rfl (Eq.trans (by kernel_rfl) (strAdd (P := Tryd.prog) (t := 9) (a := ([32] : List UInt8)) (b := itoa va) (by simp only [List.length_append, List.length_cons, List.length_nil]; omega))) <| x_val (S (tB (faultB 4) [rk, bk, co, ch, va])) (by kernel_rfl) rfl (Eq.trans (by kernel_rfl) (strAdd (P := Tryd.prog) (t := 9) (a := tB (faultB 4) [rk, bk, co, ch]) (b := ([32] : List UInt8) ++ (itoa va)) (by have q := tB_len (w := faultB 4) (l := [rk, bk, co, ch]) fl (by simp <;> omega) (by simp); simp only [List.length_append, List.length_cons, List.length_nil]; omega))) <| x_b H [.m] ?_
    refine x_nil <| x_blk <| x_then <| x_region <| x_b H [.m, .m] <| x_nil <| x_then ?_
    replace H := H.pk [0, 1]
    replace H : Hs [] w0 _ [.blk g2 #[.bool true, .bool false, .bool true, .bool true, .bool false, .bool true] 104, .blk g1 #[.int .i64 4, .int .i64 rk, .int .i64 bk, .int .i64 ro, .int .i64 co, .int .i64 ch, .int .i64 bi, .int .i64 va] 39] := hsAs H (by kernel_rfl)
    exact ⟨6, (by omega), _, frm_of, H, (by omega), (by omega), (by omega)⟩
  · skip
    replace H : Hs [] w0 _ [.blk g2 #[.bool true, .bool false, .bool true, .bool true, .bool false, .bool true] 104, .blk g1 #[.int .i64 4, .int .i64 rk, .int .i64 bk, .int .i64 ro, .int .i64 co, .int .i64 ch, .int .i64 bi, .int .i64 va] 39] := hsAs H (by kernel_rfl)
    refine x_seq <| x_region <| x_b H [.m] <| x_nil <| x_then <| x_seq <| x_f (by kernel_rfl) ?_
    refine x_exit <| x_then_exit <| x_then_exit <| x_blk_exit <| x_then <| x_seq <| x_region ?_
    refine x_b H [.m, .m, .m] <| x_nil <| x_then <| x_retc <| x_ret (.tuple #[S (tB (faultB 4) [rk, bk, co, ch, va]), .bool true]) (by kernel_rfl) (by kernel_rfl) ?_
    exfalso; exact hz (by omega)
set_option maxRecDepth 100000 in
set_option maxHeartbeats 4000000 in
theorem broken_y5 {rk bk ro co ch bi va : Int} (hx : Rng (⟨8, 0, fun _ => 0, 0, 5, rk, bk, ro, co, ch, bi, va⟩ : Stp)) (hz : (bk = 0 ∧ ro = 0 ∧ co = 0 ∧ bi = 0)) (w0 : World) :
    Calls Tryd.prog 36 #[.agg #[.int .i64 5, .int .i64 rk, .int .i64 bk, .int .i64 ro, .int .i64 co, .int .i64 ch, .int .i64 bi, .int .i64 va]] w0 fun e w' => e = .returned (.tuple #[S (txtS (⟨8, 0, fun _ => 0, 0, 5, rk, bk, ro, co, ch, bi, va⟩ : Stp)), .bool true]) ∧ Below w0.heap.size w0 w' := by
  refine z_enter Tryd.func36 rfl ?_
  have H := Hs.nil w0
  have fl := faultLen 5
  have l_rk : (itoa rk).length ≤ 22 := itl hx.rk
  have l_bk : (itoa bk).length ≤ 22 := itl hx.bk
  have l_ro : (itoa ro).length ≤ 22 := itl hx.ro
  have l_co : (itoa co).length ≤ 22 := itl hx.co
  have l_ch : (itoa ch).length ≤ 22 := itl hx.ch
  have l_bi : (itoa bi).length ≤ 22 := itl hx.bi
  have l_va : (itoa va).length ≤ 22 := itl hx.va
  refine x_seq <| x_region <| z_box H #[.int .i64 5, .int .i64 rk, .int .i64 bk, .int .i64 ro, .int .i64 co, .int .i64 ch, .int .i64 bi, .int .i64 va] 39 (fun v1 g1 H => ?_)
  refine x_b H [.m, .m] <| x_nil <| x_then <| x_seq <| x_seq <| x_region <| x_b H [.m, .l 0 0, .m, .m, .m, .l 0 0, .m, .m] ?_
  refine x_nil <| x_then <| x_f (by kernel_rfl) <| x_skipc <| x_then <| x_seq <| x_region ?_
  refine x_b H [.m, .l 0 0] <| z_callB H (Has_5 _) fun v2 H => z_box H #[.bool false, .bool false, .bool false, .bool false, .bool false, .bool false] 104 (fun v3 g2 H => ?_)
  refine z_store H 0 0 [.bool false, .bool false, .bool false, .bool true, .bool false, .bool true] (fun v4 H => ?_)
  refine x_nil <| x_then <| x_seq <| x_region <| x_b H [.m, .l 1 0] <| z_callB H (Word_5 _) fun v5 H => x_b H [.m] ?_
  refine x_nil <| x_then <| x_seq <| x_seq <| x_region <| x_b H [.m, .l 1 0, .m] <| x_nil ?_
  refine x_then <| x_t (by kernel_rfl) <| x_region <| x_b H [.m, .m, .m, .l 1 1] <| z_callB H (Number_of hx.rk _) fun v6 H => x_val (S (([32] : List UInt8) ++ (itoa rk))) (by kernel_rfl) rfl (Eq.trans (by kernel_rfl) (strAdd (P := Tryd.prog) (t := 9) (a := ([32] : List UInt8)) (b := itoa rk) (by simp only [List.length_append, List.length_cons, List.length_nil]; omega))) <| x_val (S (tB (faultB 5) [rk])) (by kernel_rfl) rfl (Eq.trans (by kernel_rfl) (strAdd (P := Tryd.prog) (t := 9) (a := tB (faultB 5) []) (b := ([32] : List UInt8) ++ (itoa rk)) (by have q := tB_len (w := faultB 5) (l := []) fl (by simp <;> omega) (by simp); simp only [List.length_append, List.length_cons, List.length_nil]; omega))) ?_
  refine x_b H [.m] <| x_nil <| x_then <| x_seq <| x_seq <| x_region <| x_b H [.m, .m, .l 1 2, .m, .m, .l 1 3, .m, .m, .l 1 4, .m, .l 1 5, .m, .l 1 6, .m, .l 1 7, .m, .m] ?_
  refine x_nil <| z_fr 68 [(4, .pointer (some ⟨g2, 0, none⟩)), (5, S (tB (faultB 5) [rk])), (51, .agg #[.int .i64 bk, .int .i64 ro, .int .i64 co, .int .i64 ch, .int .i64 bi, .int .i64 va]), (52, .int .i64 0)] [] fun uf1 => x_then <| x_block <| x_loop (G := Nat) (fun (c : Nat) a w' => ∃ uf2 : Nat → Value, a = frm 68 uf2 [(4, .pointer (some ⟨g2, 0, none⟩)), (5, S (([tB (faultB 5) [rk], tB (faultB 5) [rk], tB (faultB 5) [rk], tB (faultB 5) [rk], tB (faultB 5) [rk, ch], tB (faultB 5) [rk, ch], tB (faultB 5) [rk, ch, va]] : List (List UInt8)).getD c [])), (51, .agg #[.int .i64 bk, .int .i64 ro, .int .i64 co, .int .i64 ch, .int .i64 bi, .int .i64 va]), (52, .int .i64 (c : Int))] [] ∧ Hs [] w0 w' [.blk g2 #[.bool false, .bool false, .bool false, .bool true, .bool false, .bool true] 104, .blk g1 #[.int .i64 5, .int .i64 rk, .int .i64 bk, .int .i64 ro, .int .i64 co, .int .i64 ch, .int .i64 bi, .int .i64 va] 39] ∧ (c ≤ 6) ∧ (0 < c → bk = 0) ∧ (1 < c → ro = 0) ∧ (2 < c → co = 0) ∧ (4 < c → bi = 0)) (fun (c : Nat) => 6 - c) 0 ⟨_, frm_of, H, (Nat.zero_le _), (by omega), (by omega), (by omega), (by omega)⟩ ?_
  clear H
  rintro c _ v7 ⟨uf2, rfl, H, r1, r2, r3, r4, r5⟩
  rcases (show c = 0 ∨ c = 1 ∨ c = 2 ∨ c = 3 ∨ c = 4 ∨ c = 5 ∨ c = 6 by omega) with rfl | rfl | rfl | rfl | rfl | rfl | rfl
  · skip
    replace H : Hs [] w0 _ [.blk g2 #[.bool false, .bool false, .bool false, .bool true, .bool false, .bool true] 104, .blk g1 #[.int .i64 5, .int .i64 rk, .int .i64 bk, .int .i64 ro, .int .i64 co, .int .i64 ch, .int .i64 bi, .int .i64 va] 39] := hsAs H (by kernel_rfl)
    refine x_seq <| x_region <| x_b H [.m] <| x_nil <| x_then <| x_seq <| x_t (by kernel_rfl) ?_
    refine x_skipc <| x_then <| x_seq <| x_block <| x_seq <| x_region <| x_b H [.m, .m, .m, .m] ?_
    refine x_nil <| x_then <| x_seq <| x_region <| x_b H [.m, .m, .l 0 0] <| x_nil <| x_then ?_
    refine x_f (by kernel_rfl) <| x_seq <| x_region <| x_b H [.m, .v (.bool (!(decide (bk = 0))))] <| x_nil <| x_then ?_
    cases h1 : decide (bk = 0)
    · skip
      have h1p := of_decide_eq_false h1
      exact absurd (by omega) h1p
    have h1p := of_decide_eq_true h1
    refine x_f (by kernel_rfl) <| x_skipc <| x_blk <| x_then <| x_region <| x_b H [.m, .m] <| x_nil ?_
    refine x_then ?_
    replace H := H.pk [0, 1]
    replace H : Hs [] w0 _ [.blk g2 #[.bool false, .bool false, .bool false, .bool true, .bool false, .bool true] 104, .blk g1 #[.int .i64 5, .int .i64 rk, .int .i64 bk, .int .i64 ro, .int .i64 co, .int .i64 ch, .int .i64 bi, .int .i64 va] 39] := hsAs H (by kernel_rfl)
    exact ⟨1, (by omega), _, frm_of, H, (by omega), (by omega), (by omega), (by omega), (by omega)⟩
  · skip
    replace H : Hs [] w0 _ [.blk g2 #[.bool false, .bool false, .bool false, .bool true, .bool false, .bool true] 104, .blk g1 #[.int .i64 5, .int .i64 rk, .int .i64 bk, .int .i64 ro, .int .i64 co, .int .i64 ch, .int .i64 bi, .int .i64 va] 39] := hsAs H (by kernel_rfl)
    refine x_seq <| x_region <| x_b H [.m] <| x_nil <| x_then <| x_seq <| x_t (by kernel_rfl) ?_
    refine x_skipc <| x_then <| x_seq <| x_block <| x_seq <| x_region <| x_b H [.m, .m, .m, .m] ?_
    refine x_nil <| x_then <| x_seq <| x_region <| x_b H [.m, .m, .l 0 1] <| x_nil <| x_then ?_
    refine x_f (by kernel_rfl) <| x_seq <| x_region <| x_b H [.m, .v (.bool (!(decide (ro = 0))))] <| x_nil <| x_then ?_
    cases h2 : decide (ro = 0)
    · skip
      have h2p := of_decide_eq_false h2
      exact absurd (by omega) h2p
    have h2p := of_decide_eq_true h2
    refine x_f (by kernel_rfl) <| x_skipc <| x_blk <| x_then <| x_region <| x_b H [.m, .m] <| x_nil ?_
    refine x_then ?_
    replace H := H.pk [0, 1]
    replace H : Hs [] w0 _ [.blk g2 #[.bool false, .bool false, .bool false, .bool true, .bool false, .bool true] 104, .blk g1 #[.int .i64 5, .int .i64 rk, .int .i64 bk, .int .i64 ro, .int .i64 co, .int .i64 ch, .int .i64 bi, .int .i64 va] 39] := hsAs H (by kernel_rfl)
    exact ⟨2, (by omega), _, frm_of, H, (by omega), (by omega), (by omega), (by omega), (by omega)⟩
  · skip
    replace H : Hs [] w0 _ [.blk g2 #[.bool false, .bool false, .bool false, .bool true, .bool false, .bool true] 104, .blk g1 #[.int .i64 5, .int .i64 rk, .int .i64 bk, .int .i64 ro, .int .i64 co, .int .i64 ch, .int .i64 bi, .int .i64 va] 39] := hsAs H (by kernel_rfl)
    refine x_seq <| x_region <| x_b H [.m] <| x_nil <| x_then <| x_seq <| x_t (by kernel_rfl) ?_
    refine x_skipc <| x_then <| x_seq <| x_block <| x_seq <| x_region <| x_b H [.m, .m, .m, .m] ?_
    refine x_nil <| x_then <| x_seq <| x_region <| x_b H [.m, .m, .l 0 2] <| x_nil <| x_then ?_
    refine x_f (by kernel_rfl) <| x_seq <| x_region <| x_b H [.m, .v (.bool (!(decide (co = 0))))] <| x_nil <| x_then ?_
    cases h3 : decide (co = 0)
    · skip
      have h3p := of_decide_eq_false h3
      exact absurd (by omega) h3p
    have h3p := of_decide_eq_true h3
    refine x_f (by kernel_rfl) <| x_skipc <| x_blk <| x_then <| x_region <| x_b H [.m, .m] <| x_nil ?_
    refine x_then ?_
    replace H := H.pk [0, 1]
    replace H : Hs [] w0 _ [.blk g2 #[.bool false, .bool false, .bool false, .bool true, .bool false, .bool true] 104, .blk g1 #[.int .i64 5, .int .i64 rk, .int .i64 bk, .int .i64 ro, .int .i64 co, .int .i64 ch, .int .i64 bi, .int .i64 va] 39] := hsAs H (by kernel_rfl)
    exact ⟨3, (by omega), _, frm_of, H, (by omega), (by omega), (by omega), (by omega), (by omega)⟩
  · skip
    replace H : Hs [] w0 _ [.blk g2 #[.bool false, .bool false, .bool false, .bool true, .bool false, .bool true] 104, .blk g1 #[.int .i64 5, .int .i64 rk, .int .i64 bk, .int .i64 ro, .int .i64 co, .int .i64 ch, .int .i64 bi, .int .i64 va] 39] := hsAs H (by kernel_rfl)
    refine x_seq <| x_region <| x_b H [.m] <| x_nil <| x_then <| x_seq <| x_t (by kernel_rfl) ?_
    refine x_skipc <| x_then <| x_seq <| x_block <| x_seq <| x_region <| x_b H [.m, .m, .m, .m] ?_
    refine x_nil <| x_then <| x_seq <| x_region <| x_b H [.m, .m, .l 0 3] <| x_nil <| x_then ?_
    refine x_t (by kernel_rfl) <| x_region <| x_b H [.m, .m] <| z_callB H (Number_of hx.ch _) fun v8 H => x_val (S (([32] : List UInt8) ++ (itoa ch))) (by kernel_rfl) rfl (Eq.trans (by kernel_rfl) (strAdd (P := Tryd.prog) (t := 9) (a := ([32] : List UInt8)) (b := itoa ch) (by simp only [List.length_append, List.length_cons, List.length_nil]; omega))) <| x_val (S (tB (faultB 5) [rk, ch])) (by kernel_rfl) rfl (Eq.trans (by kernel_rfl) (strAdd (P := Tryd.prog) (t := 9) (a := tB (faultB 5) [rk]) (b := ([32] : List UInt8) ++ (itoa ch)) (by have q := tB_len (w := faultB 5) (l := [rk]) fl (by simp <;> omega) (by simp); simp only [List.length_append, List.length_cons, List.length_nil]; omega))) <| x_b H [.m] ?_
    refine x_nil <| x_blk <| x_then <| x_region <| x_b H [.m, .m] <| x_nil <| x_then ?_
    replace H := H.pk [0, 1]
    replace H : Hs [] w0 _ [.blk g2 #[.bool false, .bool false, .bool false, .bool true, .bool false, .bool true] 104, .blk g1 #[.int .i64 5, .int .i64 rk, .int .i64 bk, .int .i64 ro, .int .i64 co, .int .i64 ch, .int .i64 bi, .int .i64 va] 39] := hsAs H (by kernel_rfl)
    exact ⟨4, (by omega), _, frm_of, H, (by omega), (by omega), (by omega), (by omega), (by omega)⟩
  · skip
    replace H : Hs [] w0 _ [.blk g2 #[.bool false, .bool false, .bool false, .bool true, .bool false, .bool true] 104, .blk g1 #[.int .i64 5, .int .i64 rk, .int .i64 bk, .int .i64 ro, .int .i64 co, .int .i64 ch, .int .i64 bi, .int .i64 va] 39] := hsAs H (by kernel_rfl)
    refine x_seq <| x_region <| x_b H [.m] <| x_nil <| x_then <| x_seq <| x_t (by kernel_rfl) ?_
    refine x_skipc <| x_then <| x_seq <| x_block <| x_seq <| x_region <| x_b H [.m, .m, .m, .m] ?_
    refine x_nil <| x_then <| x_seq <| x_region <| x_b H [.m, .m, .l 0 4] <| x_nil <| x_then ?_
    refine x_f (by kernel_rfl) <| x_seq <| x_region <| x_b H [.m, .v (.bool (!(decide (bi = 0))))] <| x_nil <| x_then ?_
    cases h4 : decide (bi = 0)
    · skip
      have h4p := of_decide_eq_false h4
      exact absurd (by omega) h4p
    have h4p := of_decide_eq_true h4
    refine x_f (by kernel_rfl) <| x_skipc <| x_blk <| x_then <| x_region <| x_b H [.m, .m] <| x_nil ?_
    refine x_then ?_
    replace H := H.pk [0, 1]
    replace H : Hs [] w0 _ [.blk g2 #[.bool false, .bool false, .bool false, .bool true, .bool false, .bool true] 104, .blk g1 #[.int .i64 5, .int .i64 rk, .int .i64 bk, .int .i64 ro, .int .i64 co, .int .i64 ch, .int .i64 bi, .int .i64 va] 39] := hsAs H (by kernel_rfl)
    exact ⟨5, (by omega), _, frm_of, H, (by omega), (by omega), (by omega), (by omega), (by omega)⟩
  · skip
    replace H : Hs [] w0 _ [.blk g2 #[.bool false, .bool false, .bool false, .bool true, .bool false, .bool true] 104, .blk g1 #[.int .i64 5, .int .i64 rk, .int .i64 bk, .int .i64 ro, .int .i64 co, .int .i64 ch, .int .i64 bi, .int .i64 va] 39] := hsAs H (by kernel_rfl)
    refine x_seq <| x_region <| x_b H [.m] <| x_nil <| x_then <| x_seq <| x_t (by kernel_rfl) ?_
    refine x_skipc <| x_then <| x_seq <| x_block <| x_seq <| x_region <| x_b H [.m, .m, .m, .m] ?_
    refine x_nil <| x_then <| x_seq <| x_region <| x_b H [.m, .m, .l 0 5] <| x_nil <| x_then ?_
    refine x_t (by kernel_rfl) <| x_region <| x_b H [.m, .m] <| z_callB H (Number_of hx.va _) fun v9 H => x_val (S (([32] : List UInt8) ++ (itoa va))) (by kernel_rfl) rfl (Eq.trans (by kernel_rfl) (strAdd (P := Tryd.prog) (t := 9) (a := ([32] : List UInt8)) (b := itoa va) (by simp only [List.length_append, List.length_cons, List.length_nil]; omega))) <| x_val (S (tB (faultB 5) [rk, ch, va])) (by kernel_rfl) rfl (Eq.trans (by kernel_rfl) (strAdd (P := Tryd.prog) (t := 9) (a := tB (faultB 5) [rk, ch]) (b := ([32] : List UInt8) ++ (itoa va)) (by have q := tB_len (w := faultB 5) (l := [rk, ch]) fl (by simp <;> omega) (by simp); simp only [List.length_append, List.length_cons, List.length_nil]; omega))) <| x_b H [.m] ?_
    refine x_nil <| x_blk <| x_then <| x_region <| x_b H [.m, .m] <| x_nil <| x_then ?_
    replace H := H.pk [0, 1]
    replace H : Hs [] w0 _ [.blk g2 #[.bool false, .bool false, .bool false, .bool true, .bool false, .bool true] 104, .blk g1 #[.int .i64 5, .int .i64 rk, .int .i64 bk, .int .i64 ro, .int .i64 co, .int .i64 ch, .int .i64 bi, .int .i64 va] 39] := hsAs H (by kernel_rfl)
    exact ⟨6, (by omega), _, frm_of, H, (by omega), (by omega), (by omega), (by omega), (by omega)⟩
  · skip
    replace H : Hs [] w0 _ [.blk g2 #[.bool false, .bool false, .bool false, .bool true, .bool false, .bool true] 104, .blk g1 #[.int .i64 5, .int .i64 rk, .int .i64 bk, .int .i64 ro, .int .i64 co, .int .i64 ch, .int .i64 bi, .int .i64 va] 39] := hsAs H (by kernel_rfl)
    refine x_seq <| x_region <| x_b H [.m] <| x_nil <| x_then <| x_seq <| x_f (by kernel_rfl) ?_
    refine x_exit <| x_then_exit <| x_then_exit <| x_blk_exit <| x_then <| x_seq <| x_region ?_
    refine x_b H [.m, .m, .m] <| x_nil <| x_then <| x_retc <| x_ret (.tuple #[S (tB (faultB 5) [rk, ch, va]), .bool true]) (by kernel_rfl) (by kernel_rfl) ?_
    exact ⟨by rw [show txtS (⟨8, 0, fun _ => 0, 0, 5, rk, bk, ro, co, ch, bi, va⟩ : Stp) = Lib.join (faultB 5 :: (numsS (⟨8, 0, fun _ => 0, 0, 5, rk, bk, ro, co, ch, bi, va⟩ : Stp)).map itoa) [32] from rfl]; simp [tB, numsS, Lib.join, List.intercalate], H.below⟩
set_option maxRecDepth 100000 in
set_option maxHeartbeats 4000000 in
theorem broken_n5 {rk bk ro co ch bi va : Int} (hx : Rng (⟨8, 0, fun _ => 0, 0, 5, rk, bk, ro, co, ch, bi, va⟩ : Stp)) (hz : ¬ (bk = 0 ∧ ro = 0 ∧ co = 0 ∧ bi = 0)) (w0 : World) :
    Calls Tryd.prog 36 #[.agg #[.int .i64 5, .int .i64 rk, .int .i64 bk, .int .i64 ro, .int .i64 co, .int .i64 ch, .int .i64 bi, .int .i64 va]] w0 fun e w' => e = .returned (.tuple #[S [], .bool false]) ∧ Below w0.heap.size w0 w' := by
  refine z_enter Tryd.func36 rfl ?_
  have H := Hs.nil w0
  have fl := faultLen 5
  have l_rk : (itoa rk).length ≤ 22 := itl hx.rk
  have l_bk : (itoa bk).length ≤ 22 := itl hx.bk
  have l_ro : (itoa ro).length ≤ 22 := itl hx.ro
  have l_co : (itoa co).length ≤ 22 := itl hx.co
  have l_ch : (itoa ch).length ≤ 22 := itl hx.ch
  have l_bi : (itoa bi).length ≤ 22 := itl hx.bi
  have l_va : (itoa va).length ≤ 22 := itl hx.va
  refine x_seq <| x_region <| z_box H #[.int .i64 5, .int .i64 rk, .int .i64 bk, .int .i64 ro, .int .i64 co, .int .i64 ch, .int .i64 bi, .int .i64 va] 39 (fun v1 g1 H => ?_)
  refine x_b H [.m, .m] <| x_nil <| x_then <| x_seq <| x_seq <| x_region <| x_b H [.m, .l 0 0, .m, .m, .m, .l 0 0, .m, .m] ?_
  refine x_nil <| x_then <| x_f (by kernel_rfl) <| x_skipc <| x_then <| x_seq <| x_region ?_
  refine x_b H [.m, .l 0 0] <| z_callB H (Has_5 _) fun v2 H => z_box H #[.bool false, .bool false, .bool false, .bool false, .bool false, .bool false] 104 (fun v3 g2 H => ?_)
  refine z_store H 0 0 [.bool false, .bool false, .bool false, .bool true, .bool false, .bool true] (fun v4 H => ?_)
  refine x_nil <| x_then <| x_seq <| x_region <| x_b H [.m, .l 1 0] <| z_callB H (Word_5 _) fun v5 H => x_b H [.m] ?_
  refine x_nil <| x_then <| x_seq <| x_seq <| x_region <| x_b H [.m, .l 1 0, .m] <| x_nil ?_
  refine x_then <| x_t (by kernel_rfl) <| x_region <| x_b H [.m, .m, .m, .l 1 1] <| z_callB H (Number_of hx.rk _) fun v6 H => x_val (S (([32] : List UInt8) ++ (itoa rk))) (by kernel_rfl) rfl (Eq.trans (by kernel_rfl) (strAdd (P := Tryd.prog) (t := 9) (a := ([32] : List UInt8)) (b := itoa rk) (by simp only [List.length_append, List.length_cons, List.length_nil]; omega))) <| x_val (S (tB (faultB 5) [rk])) (by kernel_rfl) rfl (Eq.trans (by kernel_rfl) (strAdd (P := Tryd.prog) (t := 9) (a := tB (faultB 5) []) (b := ([32] : List UInt8) ++ (itoa rk)) (by have q := tB_len (w := faultB 5) (l := []) fl (by simp <;> omega) (by simp); simp only [List.length_append, List.length_cons, List.length_nil]; omega))) ?_
  refine x_b H [.m] <| x_nil <| x_then <| x_seq <| x_seq <| x_region <| x_b H [.m, .m, .l 1 2, .m, .m, .l 1 3, .m, .m, .l 1 4, .m, .l 1 5, .m, .l 1 6, .m, .l 1 7, .m, .m] ?_
  refine x_nil <| z_fr 68 [(4, .pointer (some ⟨g2, 0, none⟩)), (5, S (tB (faultB 5) [rk])), (51, .agg #[.int .i64 bk, .int .i64 ro, .int .i64 co, .int .i64 ch, .int .i64 bi, .int .i64 va]), (52, .int .i64 0)] [] fun uf1 => x_then <| x_block <| x_loop (G := Nat) (fun (c : Nat) a w' => ∃ uf2 : Nat → Value, a = frm 68 uf2 [(4, .pointer (some ⟨g2, 0, none⟩)), (5, S (([tB (faultB 5) [rk], tB (faultB 5) [rk], tB (faultB 5) [rk], tB (faultB 5) [rk], tB (faultB 5) [rk, ch], tB (faultB 5) [rk, ch], tB (faultB 5) [rk, ch, va]] : List (List UInt8)).getD c [])), (51, .agg #[.int .i64 bk, .int .i64 ro, .int .i64 co, .int .i64 ch, .int .i64 bi, .int .i64 va]), (52, .int .i64 (c : Int))] [] ∧ Hs [] w0 w' [.blk g2 #[.bool false, .bool false, .bool false, .bool true, .bool false, .bool true] 104, .blk g1 #[.int .i64 5, .int .i64 rk, .int .i64 bk, .int .i64 ro, .int .i64 co, .int .i64 ch, .int .i64 bi, .int .i64 va] 39] ∧ (c ≤ 6) ∧ (0 < c → bk = 0) ∧ (1 < c → ro = 0) ∧ (2 < c → co = 0) ∧ (4 < c → bi = 0)) (fun (c : Nat) => 6 - c) 0 ⟨_, frm_of, H, (Nat.zero_le _), (by omega), (by omega), (by omega), (by omega)⟩ ?_
  clear H
  rintro c _ v7 ⟨uf2, rfl, H, r1, r2, r3, r4, r5⟩
  rcases (show c = 0 ∨ c = 1 ∨ c = 2 ∨ c = 3 ∨ c = 4 ∨ c = 5 ∨ c = 6 by omega) with rfl | rfl | rfl | rfl | rfl | rfl | rfl
  · skip
    replace H : Hs [] w0 _ [.blk g2 #[.bool false, .bool false, .bool false, .bool true, .bool false, .bool true] 104, .blk g1 #[.int .i64 5, .int .i64 rk, .int .i64 bk, .int .i64 ro, .int .i64 co, .int .i64 ch, .int .i64 bi, .int .i64 va] 39] := hsAs H (by kernel_rfl)
    refine x_seq <| x_region <| x_b H [.m] <| x_nil <| x_then <| x_seq <| x_t (by kernel_rfl) ?_
    refine x_skipc <| x_then <| x_seq <| x_block <| x_seq <| x_region <| x_b H [.m, .m, .m, .m] ?_
    refine x_nil <| x_then <| x_seq <| x_region <| x_b H [.m, .m, .l 0 0] <| x_nil <| x_then ?_
    refine x_f (by kernel_rfl) <| x_seq <| x_region <| x_b H [.m, .v (.bool (!(decide (bk = 0))))] <| x_nil <| x_then ?_
    cases h1 : decide (bk = 0)
    · skip
      have h1p := of_decide_eq_false h1
      refine x_t (by kernel_rfl) <| x_seq <| x_region <| x_b H [.m, .m] <| x_nil <| x_then <| x_retc ?_
      refine x_blk_ret <| x_then_ret <| x_then_ret <| x_blk_ret <| x_then_ret <| x_ret (.tuple #[S ([] : List UInt8), .bool false]) (by kernel_rfl) (by kernel_rfl) ?_
      exact ⟨rfl, H.below⟩
    have h1p := of_decide_eq_true h1
    refine x_f (by kernel_rfl) <| x_skipc <| x_blk <| x_then <| x_region <| x_b H [.m, .m] <| x_nil ?_
    refine x_then ?_
    replace H := H.pk [0, 1]
    replace H : Hs [] w0 _ [.blk g2 #[.bool false, .bool false, .bool false, .bool true, .bool false, .bool true] 104, .blk g1 #[.int .i64 5, .int .i64 rk, .int .i64 bk, .int .i64 ro, .int .i64 co, .int .i64 ch, .int .i64 bi, .int .i64 va] 39] := hsAs H (by kernel_rfl)
    exact ⟨1, (by omega), _, frm_of, H, (by omega), (by omega), (by omega), (by omega), (by omega)⟩
  · skip
    replace H : Hs [] w0 _ [.blk g2 #[.bool false, .bool false, .bool false, .bool true, .bool false, .bool true] 104, .blk g1 #[.int .i64 5, .int .i64 rk, .int .i64 bk, .int .i64 ro, .int .i64 co, .int .i64 ch, .int .i64 bi, .int .i64 va] 39] := hsAs H (by kernel_rfl)
    refine x_seq <| x_region <| x_b H [.m] <| x_nil <| x_then <| x_seq <| x_t (by kernel_rfl) ?_
    refine x_skipc <| x_then <| x_seq <| x_block <| x_seq <| x_region <| x_b H [.m, .m, .m, .m] ?_
    refine x_nil <| x_then <| x_seq <| x_region <| x_b H [.m, .m, .l 0 1] <| x_nil <| x_then ?_
    refine x_f (by kernel_rfl) <| x_seq <| x_region <| x_b H [.m, .v (.bool (!(decide (ro = 0))))] <| x_nil <| x_then ?_
    cases h2 : decide (ro = 0)
    · skip
      have h2p := of_decide_eq_false h2
      refine x_t (by kernel_rfl) <| x_seq <| x_region <| x_b H [.m, .m] <| x_nil <| x_then <| x_retc ?_
      refine x_blk_ret <| x_then_ret <| x_then_ret <| x_blk_ret <| x_then_ret <| x_ret (.tuple #[S ([] : List UInt8), .bool false]) (by kernel_rfl) (by kernel_rfl) ?_
      exact ⟨rfl, H.below⟩
    have h2p := of_decide_eq_true h2
    refine x_f (by kernel_rfl) <| x_skipc <| x_blk <| x_then <| x_region <| x_b H [.m, .m] <| x_nil ?_
    refine x_then ?_
    replace H := H.pk [0, 1]
    replace H : Hs [] w0 _ [.blk g2 #[.bool false, .bool false, .bool false, .bool true, .bool false, .bool true] 104, .blk g1 #[.int .i64 5, .int .i64 rk, .int .i64 bk, .int .i64 ro, .int .i64 co, .int .i64 ch, .int .i64 bi, .int .i64 va] 39] := hsAs H (by kernel_rfl)
    exact ⟨2, (by omega), _, frm_of, H, (by omega), (by omega), (by omega), (by omega), (by omega)⟩
  · skip
    replace H : Hs [] w0 _ [.blk g2 #[.bool false, .bool false, .bool false, .bool true, .bool false, .bool true] 104, .blk g1 #[.int .i64 5, .int .i64 rk, .int .i64 bk, .int .i64 ro, .int .i64 co, .int .i64 ch, .int .i64 bi, .int .i64 va] 39] := hsAs H (by kernel_rfl)
    refine x_seq <| x_region <| x_b H [.m] <| x_nil <| x_then <| x_seq <| x_t (by kernel_rfl) ?_
    refine x_skipc <| x_then <| x_seq <| x_block <| x_seq <| x_region <| x_b H [.m, .m, .m, .m] ?_
    refine x_nil <| x_then <| x_seq <| x_region <| x_b H [.m, .m, .l 0 2] <| x_nil <| x_then ?_
    refine x_f (by kernel_rfl) <| x_seq <| x_region <| x_b H [.m, .v (.bool (!(decide (co = 0))))] <| x_nil <| x_then ?_
    cases h3 : decide (co = 0)
    · skip
      have h3p := of_decide_eq_false h3
      refine x_t (by kernel_rfl) <| x_seq <| x_region <| x_b H [.m, .m] <| x_nil <| x_then <| x_retc ?_
      refine x_blk_ret <| x_then_ret <| x_then_ret <| x_blk_ret <| x_then_ret <| x_ret (.tuple #[S ([] : List UInt8), .bool false]) (by kernel_rfl) (by kernel_rfl) ?_
      exact ⟨rfl, H.below⟩
    have h3p := of_decide_eq_true h3
    refine x_f (by kernel_rfl) <| x_skipc <| x_blk <| x_then <| x_region <| x_b H [.m, .m] <| x_nil ?_
    refine x_then ?_
    replace H := H.pk [0, 1]
    replace H : Hs [] w0 _ [.blk g2 #[.bool false, .bool false, .bool false, .bool true, .bool false, .bool true] 104, .blk g1 #[.int .i64 5, .int .i64 rk, .int .i64 bk, .int .i64 ro, .int .i64 co, .int .i64 ch, .int .i64 bi, .int .i64 va] 39] := hsAs H (by kernel_rfl)
    exact ⟨3, (by omega), _, frm_of, H, (by omega), (by omega), (by omega), (by omega), (by omega)⟩
  · skip
    replace H : Hs [] w0 _ [.blk g2 #[.bool false, .bool false, .bool false, .bool true, .bool false, .bool true] 104, .blk g1 #[.int .i64 5, .int .i64 rk, .int .i64 bk, .int .i64 ro, .int .i64 co, .int .i64 ch, .int .i64 bi, .int .i64 va] 39] := hsAs H (by kernel_rfl)
    refine x_seq <| x_region <| x_b H [.m] <| x_nil <| x_then <| x_seq <| x_t (by kernel_rfl) ?_
    refine x_skipc <| x_then <| x_seq <| x_block <| x_seq <| x_region <| x_b H [.m, .m, .m, .m] ?_
    refine x_nil <| x_then <| x_seq <| x_region <| x_b H [.m, .m, .l 0 3] <| x_nil <| x_then ?_
    refine x_t (by kernel_rfl) <| x_region <| x_b H [.m, .m] <| z_callB H (Number_of hx.ch _) fun v8 H => x_val (S (([32] : List UInt8) ++ (itoa ch))) (by kernel_rfl) rfl (Eq.trans (by kernel_rfl) (strAdd (P := Tryd.prog) (t := 9) (a := ([32] : List UInt8)) (b := itoa ch) (by simp only [List.length_append, List.length_cons, List.length_nil]; omega))) <| x_val (S (tB (faultB 5) [rk, ch])) (by kernel_rfl) rfl (Eq.trans (by kernel_rfl) (strAdd (P := Tryd.prog) (t := 9) (a := tB (faultB 5) [rk]) (b := ([32] : List UInt8) ++ (itoa ch)) (by have q := tB_len (w := faultB 5) (l := [rk]) fl (by simp <;> omega) (by simp); simp only [List.length_append, List.length_cons, List.length_nil]; omega))) <| x_b H [.m] ?_
    refine x_nil <| x_blk <| x_then <| x_region <| x_b H [.m, .m] <| x_nil <| x_then ?_
    replace H := H.pk [0, 1]
    replace H : Hs [] w0 _ [.blk g2 #[.bool false, .bool false, .bool false, .bool true, .bool false, .bool true] 104, .blk g1 #[.int .i64 5, .int .i64 rk, .int .i64 bk, .int .i64 ro, .int .i64 co, .int .i64 ch, .int .i64 bi, .int .i64 va] 39] := hsAs H (by kernel_rfl)
    exact ⟨4, (by omega), _, frm_of, H, (by omega), (by omega), (by omega), (by omega), (by omega)⟩
  · skip
    replace H : Hs [] w0 _ [.blk g2 #[.bool false, .bool false, .bool false, .bool true, .bool false, .bool true] 104, .blk g1 #[.int .i64 5, .int .i64 rk, .int .i64 bk, .int .i64 ro, .int .i64 co, .int .i64 ch, .int .i64 bi, .int .i64 va] 39] := hsAs H (by kernel_rfl)
    refine x_seq <| x_region <| x_b H [.m] <| x_nil <| x_then <| x_seq <| x_t (by kernel_rfl) ?_
    refine x_skipc <| x_then <| x_seq <| x_block <| x_seq <| x_region <| x_b H [.m, .m, .m, .m] ?_
    refine x_nil <| x_then <| x_seq <| x_region <| x_b H [.m, .m, .l 0 4] <| x_nil <| x_then ?_
    refine x_f (by kernel_rfl) <| x_seq <| x_region <| x_b H [.m, .v (.bool (!(decide (bi = 0))))] <| x_nil <| x_then ?_
    cases h4 : decide (bi = 0)
    · skip
      have h4p := of_decide_eq_false h4
      refine x_t (by kernel_rfl) <| x_seq <| x_region <| x_b H [.m, .m] <| x_nil <| x_then <| x_retc ?_
      refine x_blk_ret <| x_then_ret <| x_then_ret <| x_blk_ret <| x_then_ret <| x_ret (.tuple #[S ([] : List UInt8), .bool false]) (by kernel_rfl) (by kernel_rfl) ?_
      exact ⟨rfl, H.below⟩
    have h4p := of_decide_eq_true h4
    refine x_f (by kernel_rfl) <| x_skipc <| x_blk <| x_then <| x_region <| x_b H [.m, .m] <| x_nil ?_
    refine x_then ?_
    replace H := H.pk [0, 1]
    replace H : Hs [] w0 _ [.blk g2 #[.bool false, .bool false, .bool false, .bool true, .bool false, .bool true] 104, .blk g1 #[.int .i64 5, .int .i64 rk, .int .i64 bk, .int .i64 ro, .int .i64 co, .int .i64 ch, .int .i64 bi, .int .i64 va] 39] := hsAs H (by kernel_rfl)
    exact ⟨5, (by omega), _, frm_of, H, (by omega), (by omega), (by omega), (by omega), (by omega)⟩
  · skip
    replace H : Hs [] w0 _ [.blk g2 #[.bool false, .bool false, .bool false, .bool true, .bool false, .bool true] 104, .blk g1 #[.int .i64 5, .int .i64 rk, .int .i64 bk, .int .i64 ro, .int .i64 co, .int .i64 ch, .int .i64 bi, .int .i64 va] 39] := hsAs H (by kernel_rfl)
    refine x_seq <| x_region <| x_b H [.m] <| x_nil <| x_then <| x_seq <| x_t (by kernel_rfl) ?_
    refine x_skipc <| x_then <| x_seq <| x_block <| x_seq <| x_region <| x_b H [.m, .m, .m, .m] ?_
    refine x_nil <| x_then <| x_seq <| x_region <| x_b H [.m, .m, .l 0 5] <| x_nil <| x_then ?_
    refine x_t (by kernel_rfl) <| x_region <| x_b H [.m, .m] <| z_callB H (Number_of hx.va _) fun v9 H => x_val (S (([32] : List UInt8) ++ (itoa va))) (by kernel_rfl) rfl (Eq.trans (by kernel_rfl) (strAdd (P := Tryd.prog) (t := 9) (a := ([32] : List UInt8)) (b := itoa va) (by simp only [List.length_append, List.length_cons, List.length_nil]; omega))) <| x_val (S (tB (faultB 5) [rk, ch, va])) (by kernel_rfl) rfl (Eq.trans (by kernel_rfl) (strAdd (P := Tryd.prog) (t := 9) (a := tB (faultB 5) [rk, ch]) (b := ([32] : List UInt8) ++ (itoa va)) (by have q := tB_len (w := faultB 5) (l := [rk, ch]) fl (by simp <;> omega) (by simp); simp only [List.length_append, List.length_cons, List.length_nil]; omega))) <| x_b H [.m] ?_
    refine x_nil <| x_blk <| x_then <| x_region <| x_b H [.m, .m] <| x_nil <| x_then ?_
    replace H := H.pk [0, 1]
    replace H : Hs [] w0 _ [.blk g2 #[.bool false, .bool false, .bool false, .bool true, .bool false, .bool true] 104, .blk g1 #[.int .i64 5, .int .i64 rk, .int .i64 bk, .int .i64 ro, .int .i64 co, .int .i64 ch, .int .i64 bi, .int .i64 va] 39] := hsAs H (by kernel_rfl)
    exact ⟨6, (by omega), _, frm_of, H, (by omega), (by omega), (by omega), (by omega), (by omega)⟩
  · skip
    replace H : Hs [] w0 _ [.blk g2 #[.bool false, .bool false, .bool false, .bool true, .bool false, .bool true] 104, .blk g1 #[.int .i64 5, .int .i64 rk, .int .i64 bk, .int .i64 ro, .int .i64 co, .int .i64 ch, .int .i64 bi, .int .i64 va] 39] := hsAs H (by kernel_rfl)
    refine x_seq <| x_region <| x_b H [.m] <| x_nil <| x_then <| x_seq <| x_f (by kernel_rfl) ?_
    refine x_exit <| x_then_exit <| x_then_exit <| x_blk_exit <| x_then <| x_seq <| x_region ?_
    refine x_b H [.m, .m, .m] <| x_nil <| x_then <| x_retc <| x_ret (.tuple #[S (tB (faultB 5) [rk, ch, va]), .bool true]) (by kernel_rfl) (by kernel_rfl) ?_
    exfalso; exact hz (by omega)
set_option maxRecDepth 100000 in
set_option maxHeartbeats 4000000 in
theorem broken_y6 {rk bk ro co ch bi va : Int} (hx : Rng (⟨8, 0, fun _ => 0, 0, 6, rk, bk, ro, co, ch, bi, va⟩ : Stp)) (hz : (ch = 0 ∧ bi = 0 ∧ va = 0)) (w0 : World) :
    Calls Tryd.prog 36 #[.agg #[.int .i64 6, .int .i64 rk, .int .i64 bk, .int .i64 ro, .int .i64 co, .int .i64 ch, .int .i64 bi, .int .i64 va]] w0 fun e w' => e = .returned (.tuple #[S (txtS (⟨8, 0, fun _ => 0, 0, 6, rk, bk, ro, co, ch, bi, va⟩ : Stp)), .bool true]) ∧ Below w0.heap.size w0 w' := by
  refine z_enter Tryd.func36 rfl ?_
  have H := Hs.nil w0
  have fl := faultLen 6
  have l_rk : (itoa rk).length ≤ 22 := itl hx.rk
  have l_bk : (itoa bk).length ≤ 22 := itl hx.bk
  have l_ro : (itoa ro).length ≤ 22 := itl hx.ro
  have l_co : (itoa co).length ≤ 22 := itl hx.co
  have l_ch : (itoa ch).length ≤ 22 := itl hx.ch
  have l_bi : (itoa bi).length ≤ 22 := itl hx.bi
  have l_va : (itoa va).length ≤ 22 := itl hx.va
  refine x_seq <| x_region <| z_box H #[.int .i64 6, .int .i64 rk, .int .i64 bk, .int .i64 ro, .int .i64 co, .int .i64 ch, .int .i64 bi, .int .i64 va] 39 (fun v1 g1 H => ?_)
  refine x_b H [.m, .m] <| x_nil <| x_then <| x_seq <| x_seq <| x_region <| x_b H [.m, .l 0 0, .m, .m, .m, .l 0 0, .m, .m] ?_
  refine x_nil <| x_then <| x_f (by kernel_rfl) <| x_skipc <| x_then <| x_seq <| x_region ?_
  refine x_b H [.m, .l 0 0] <| z_callB H (Has_6 _) fun v2 H => z_box H #[.bool false, .bool false, .bool false, .bool false, .bool false, .bool false] 104 (fun v3 g2 H => ?_)
  refine z_store H 0 0 [.bool true, .bool true, .bool true, .bool false, .bool false, .bool false] (fun v4 H => ?_)
  refine x_nil <| x_then <| x_seq <| x_region <| x_b H [.m, .l 1 0] <| z_callB H (Word_6 _) fun v5 H => x_b H [.m] ?_
  refine x_nil <| x_then <| x_seq <| x_seq <| x_region <| x_b H [.m, .l 1 0, .m] <| x_nil ?_
  refine x_then <| x_t (by kernel_rfl) <| x_region <| x_b H [.m, .m, .m, .l 1 1] <| z_callB H (Number_of hx.rk _) fun v6 H => x_val (S (([32] : List UInt8) ++ (itoa rk))) (by kernel_rfl) rfl (Eq.trans (by kernel_rfl) (strAdd (P := Tryd.prog) (t := 9) (a := ([32] : List UInt8)) (b := itoa rk) (by simp only [List.length_append, List.length_cons, List.length_nil]; omega))) <| x_val (S (tB (faultB 6) [rk])) (by kernel_rfl) rfl (Eq.trans (by kernel_rfl) (strAdd (P := Tryd.prog) (t := 9) (a := tB (faultB 6) []) (b := ([32] : List UInt8) ++ (itoa rk)) (by have q := tB_len (w := faultB 6) (l := []) fl (by simp <;> omega) (by simp); simp only [List.length_append, List.length_cons, List.length_nil]; omega))) ?_
  refine x_b H [.m] <| x_nil <| x_then <| x_seq <| x_seq <| x_region <| x_b H [.m, .m, .l 1 2, .m, .m, .l 1 3, .m, .m, .l 1 4, .m, .l 1 5, .m, .l 1 6, .m, .l 1 7, .m, .m] ?_
  refine x_nil <| z_fr 68 [(4, .pointer (some ⟨g2, 0, none⟩)), (5, S (tB (faultB 6) [rk])), (51, .agg #[.int .i64 bk, .int .i64 ro, .int .i64 co, .int .i64 ch, .int .i64 bi, .int .i64 va]), (52, .int .i64 0)] [] fun uf1 => x_then <| x_block <| x_loop (G := Nat) (fun (c : Nat) a w' => ∃ uf2 : Nat → Value, a = frm 68 uf2 [(4, .pointer (some ⟨g2, 0, none⟩)), (5, S (([tB (faultB 6) [rk], tB (faultB 6) [rk, bk], tB (faultB 6) [rk, bk, ro], tB (faultB 6) [rk, bk, ro, co], tB (faultB 6) [rk, bk, ro, co], tB (faultB 6) [rk, bk, ro, co], tB (faultB 6) [rk, bk, ro, co]] : List (List UInt8)).getD c [])), (51, .agg #[.int .i64 bk, .int .i64 ro, .int .i64 co, .int .i64 ch, .int .i64 bi, .int .i64 va]), (52, .int .i64 (c : Int))] [] ∧ Hs [] w0 w' [.blk g2 #[.bool true, .bool true, .bool true, .bool false, .bool false, .bool false] 104, .blk g1 #[.int .i64 6, .int .i64 rk, .int .i64 bk, .int .i64 ro, .int .i64 co, .int .i64 ch, .int .i64 bi, .int .i64 va] 39] ∧ (c ≤ 6) ∧ (3 < c → ch = 0) ∧ (4 < c → bi = 0) ∧ (5 < c → va = 0)) (fun (c : Nat) => 6 - c) 0 ⟨_, frm_of, H, (Nat.zero_le _), (by omega), (by omega), (by omega)⟩ ?_
  clear H
  rintro c _ v7 ⟨uf2, rfl, H, r1, r2, r3, r4⟩
  rcases (show c = 0 ∨ c = 1 ∨ c = 2 ∨ c = 3 ∨ c = 4 ∨ c = 5 ∨ c = 6 by omega) with rfl | rfl | rfl | rfl | rfl | rfl | rfl
  · skip
    replace H : Hs [] w0 _ [.blk g2 #[.bool true, .bool true, .bool true, .bool false, .bool false, .bool false] 104, .blk g1 #[.int .i64 6, .int .i64 rk, .int .i64 bk, .int .i64 ro, .int .i64 co, .int .i64 ch, .int .i64 bi, .int .i64 va] 39] := hsAs H (by kernel_rfl)
    refine x_seq <| x_region <| x_b H [.m] <| x_nil <| x_then <| x_seq <| x_t (by kernel_rfl) ?_
    refine x_skipc <| x_then <| x_seq <| x_block <| x_seq <| x_region <| x_b H [.m, .m, .m, .m] ?_
    refine x_nil <| x_then <| x_seq <| x_region <| x_b H [.m, .m, .l 0 0] <| x_nil <| x_then ?_
    refine x_t (by kernel_rfl) <| x_region <| x_b H [.m, .m] <| z_callB H (Number_of hx.bk _) fun v8 H => x_val (S (([32] : List UInt8) ++ (itoa bk))) (by kernel_rfl) rfl (Eq.trans (by kernel_rfl) (strAdd (P := Tryd.prog) (t := 9) (a := ([32] : List UInt8)) (b := itoa bk) (by simp only [List.length_append, List.length_cons, List.length_nil]; omega))) <| x_val (S (tB (faultB 6) [rk, bk])) (by kernel_rfl) rfl (Eq.trans (by kernel_rfl) (strAdd (P := Tryd.prog) (t := 9) (a := tB (faultB 6) [rk]) (b := ([32] : List UInt8) ++ (itoa bk)) (by have q := tB_len (w := faultB 6) (l := [rk]) fl (by simp <;> omega) (by simp); simp only [List.length_append, List.length_cons, List.length_nil]; omega))) <| x_b H [.m] ?_
    refine x_nil <| x_blk <| x_then <| x_region <| x_b H [.m, .m] <| x_nil <| x_then ?_
    replace H := H.pk [0, 1]
    replace H : Hs [] w0 _ [.blk g2 #[.bool true, .bool true, .bool true, .bool false, .bool false, .bool false] 104, .blk g1 #[.int .i64 6, .int .i64 rk, .int .i64 bk, .int .i64 ro, .int .i64 co, .int .i64 ch, .int .i64 bi, .int .i64 va] 39] := hsAs H (by kernel_rfl)
    exact ⟨1, (by omega), _, frm_of, H, (by omega), (by omega), (by omega), (by omega)⟩
  · skip
    replace H : Hs [] w0 _ [.blk g2 #[.bool true, .bool true, .bool true, .bool false, .bool false, .bool false] 104, .blk g1 #[.int .i64 6, .int .i64 rk, .int .i64 bk, .int .i64 ro, .int .i64 co, .int .i64 ch, .int .i64 bi, .int .i64 va] 39] := hsAs H (by kernel_rfl)
    refine x_seq <| x_region <| x_b H [.m] <| x_nil <| x_then <| x_seq <| x_t (by kernel_rfl) ?_
    refine x_skipc <| x_then <| x_seq <| x_block <| x_seq <| x_region <| x_b H [.m, .m, .m, .m] ?_
    refine x_nil <| x_then <| x_seq <| x_region <| x_b H [.m, .m, .l 0 1] <| x_nil <| x_then ?_
    refine x_t (by kernel_rfl) <| x_region <| x_b H [.m, .m] <| z_callB H (Number_of hx.ro _) fun v9 H => x_val (S (([32] : List UInt8) ++ (itoa ro))) (by kernel_rfl) rfl (Eq.trans (by kernel_rfl) (strAdd (P := Tryd.prog) (t := 9) (a := ([32] : List UInt8)) (b := itoa ro) (by simp only [List.length_append, List.length_cons, List.length_nil]; omega))) <| x_val (S (tB (faultB 6) [rk, bk, ro])) (by kernel_rfl) rfl (Eq.trans (by kernel_rfl) (strAdd (P := Tryd.prog) (t := 9) (a := tB (faultB 6) [rk, bk]) (b := ([32] : List UInt8) ++ (itoa ro)) (by have q := tB_len (w := faultB 6) (l := [rk, bk]) fl (by simp <;> omega) (by simp); simp only [List.length_append, List.length_cons, List.length_nil]; omega))) <| x_b H [.m] ?_
    refine x_nil <| x_blk <| x_then <| x_region <| x_b H [.m, .m] <| x_nil <| x_then ?_
    replace H := H.pk [0, 1]
    replace H : Hs [] w0 _ [.blk g2 #[.bool true, .bool true, .bool true, .bool false, .bool false, .bool false] 104, .blk g1 #[.int .i64 6, .int .i64 rk, .int .i64 bk, .int .i64 ro, .int .i64 co, .int .i64 ch, .int .i64 bi, .int .i64 va] 39] := hsAs H (by kernel_rfl)
    exact ⟨2, (by omega), _, frm_of, H, (by omega), (by omega), (by omega), (by omega)⟩
  · skip
    replace H : Hs [] w0 _ [.blk g2 #[.bool true, .bool true, .bool true, .bool false, .bool false, .bool false] 104, .blk g1 #[.int .i64 6, .int .i64 rk, .int .i64 bk, .int .i64 ro, .int .i64 co, .int .i64 ch, .int .i64 bi, .int .i64 va] 39] := hsAs H (by kernel_rfl)
    refine x_seq <| x_region <| x_b H [.m] <| x_nil <| x_then <| x_seq <| x_t (by kernel_rfl) ?_
    refine x_skipc <| x_then <| x_seq <| x_block <| x_seq <| x_region <| x_b H [.m, .m, .m, .m] ?_
    refine x_nil <| x_then <| x_seq <| x_region <| x_b H [.m, .m, .l 0 2] <| x_nil <| x_then ?_
    refine x_t (by kernel_rfl) <| x_region <| x_b H [.m, .m] <| z_callB H (Number_of hx.co _) fun v10 H => x_val (S (([32] : List UInt8) ++ (itoa co))) (by kernel_rfl) rfl (Eq.trans (by kernel_rfl) (strAdd (P := Tryd.prog) (t := 9) (a := ([32] : List UInt8)) (b := itoa co) (by simp only [List.length_append, List.length_cons, List.length_nil]; omega))) <| x_val (S (tB (faultB 6) [rk, bk, ro, co])) (by kernel_rfl) rfl (Eq.trans (by kernel_rfl) (strAdd (P := Tryd.prog) (t := 9) (a := tB (faultB 6) [rk, bk, ro]) (b := ([32] : List UInt8) ++ (itoa co)) (by have q := tB_len (w := faultB 6) (l := [rk, bk, ro]) fl (by simp <;> omega) (by simp); simp only [List.length_append, List.length_cons, List.length_nil]; omega))) <| x_b H [.m] ?_
    refine x_nil <| x_blk <| x_then <| x_region <| x_b H [.m, .m] <| x_nil <| x_then ?_
    replace H := H.pk [0, 1]
    replace H : Hs [] w0 _ [.blk g2 #[.bool true, .bool true, .bool true, .bool false, .bool false, .bool false] 104, .blk g1 #[.int .i64 6, .int .i64 rk, .int .i64 bk, .int .i64 ro, .int .i64 co, .int .i64 ch, .int .i64 bi, .int .i64 va] 39] := hsAs H (by kernel_rfl)
    exact ⟨3, (by omega), _, frm_of, H, (by omega), (by omega), (by omega), (by omega)⟩
  · skip
    replace H : Hs [] w0 _ [.blk g2 #[.bool true, .bool true, .bool true, .bool false, .bool false, .bool false] 104, .blk g1 #[.int .i64 6, .int .i64 rk, .int .i64 bk, .int .i64 ro, .int .i64 co, .int .i64 ch, .int .i64 bi, .int .i64 va] 39] := hsAs H (by kernel_rfl)
    refine x_seq <| x_region <| x_b H [.m] <| x_nil <| x_then <| x_seq <| x_t (by kernel_rfl) ?_
    refine x_skipc <| x_then <| x_seq <| x_block <| x_seq <| x_region <| x_b H [.m, .m, .m, .m] ?_
    refine x_nil <| x_then <| x_seq <| x_region <| x_b H [.m, .m, .l 0 3] <| x_nil <| x_then ?_
    refine x_f (by kernel_rfl) <| x_seq <| x_region <| x_b H [.m, .v (.bool (!(decide (ch = 0))))] <| x_nil <| x_then ?_
    cases h1 : decide (ch = 0)
    · skip
      have h1p := of_decide_eq_false h1
      exact absurd (by omega) h1p
    have h1p := of_decide_eq_true h1
    refine x_f (by kernel_rfl) <| x_skipc <| x_blk <| x_then <| x_region <| x_b H [.m, .m] <| x_nil ?_
    refine x_then ?_
    replace H := H.pk [0, 1]
    replace H : Hs [] w0 _ [.blk g2 #[.bool true, .bool true, .bool true, .bool false, .bool false, .bool false] 104, .blk g1 #[.int .i64 6, .int .i64 rk, .int .i64 bk, .int .i64 ro, .int .i64 co, .int .i64 ch, .int .i64 bi, .int .i64 va] 39] := hsAs H (by kernel_rfl)
    exact ⟨4, (by omega), _, frm_of, H, (by omega), (by omega), (by omega), (by omega)⟩
  · skip
    replace H : Hs [] w0 _ [.blk g2 #[.bool true, .bool true, .bool true, .bool false, .bool false, .bool false] 104, .blk g1 #[.int .i64 6, .int .i64 rk, .int .i64 bk, .int .i64 ro, .int .i64 co, .int .i64 ch, .int .i64 bi, .int .i64 va] 39] := hsAs H (by kernel_rfl)
    refine x_seq <| x_region <| x_b H [.m] <| x_nil <| x_then <| x_seq <| x_t (by kernel_rfl) ?_
    refine x_skipc <| x_then <| x_seq <| x_block <| x_seq <| x_region <| x_b H [.m, .m, .m, .m] ?_
    refine x_nil <| x_then <| x_seq <| x_region <| x_b H [.m, .m, .l 0 4] <| x_nil <| x_then ?_
    refine x_f (by kernel_rfl) <| x_seq <| x_region <| x_b H [.m, .v (.bool (!(decide (bi = 0))))] <| x_nil <| x_then ?_
    cases h2 : decide (bi = 0)
    · skip
      have h2p := of_decide_eq_false h2
      exact absurd (by omega) h2p
    have h2p := of_decide_eq_true h2
    refine x_f (by kernel_rfl) <| x_skipc <| x_blk <| x_then <| x_region <| x_b H [.m, .m] <| x_nil ?_
    refine x_then ?_
    replace H := H.pk [0, 1]
    replace H : Hs [] w0 _ [.blk g2 #[.bool true, .bool true, .bool true, .bool false, .bool false, .bool false] 104, .blk g1 #[.int .i64 6, .int .i64 rk, .int .i64 bk, .int .i64 ro, .int .i64 co, .int .i64 ch, .int .i64 bi, .int .i64 va] 39] := hsAs H (by kernel_rfl)
    exact ⟨5, (by omega), _, frm_of, H, (by omega), (by omega), (by omega), (by omega)⟩
  · skip
    replace H : Hs [] w0 _ [.blk g2 #[.bool true, .bool true, .bool true, .bool false, .bool false, .bool false] 104, .blk g1 #[.int .i64 6, .int .i64 rk, .int .i64 bk, .int .i64 ro, .int .i64 co, .int .i64 ch, .int .i64 bi, .int .i64 va] 39] := hsAs H (by kernel_rfl)
    refine x_seq <| x_region <| x_b H [.m] <| x_nil <| x_then <| x_seq <| x_t (by kernel_rfl) ?_
    refine x_skipc <| x_then <| x_seq <| x_block <| x_seq <| x_region <| x_b H [.m, .m, .m, .m] ?_
    refine x_nil <| x_then <| x_seq <| x_region <| x_b H [.m, .m, .l 0 5] <| x_nil <| x_then ?_
    refine x_f (by kernel_rfl) <| x_seq <| x_region <| x_b H [.m, .v (.bool (!(decide (va = 0))))] <| x_nil <| x_then ?_
    cases h3 : decide (va = 0)
    · skip
      have h3p := of_decide_eq_false h3
      exact absurd (by omega) h3p
    have h3p := of_decide_eq_true h3
    refine x_f (by kernel_rfl) <| x_skipc <| x_blk <| x_then <| x_region <| x_b H [.m, .m] <| x_nil ?_
    refine x_then ?_
    replace H := H.pk [0, 1]
    replace H : Hs [] w0 _ [.blk g2 #[.bool true, .bool true, .bool true, .bool false, .bool false, .bool false] 104, .blk g1 #[.int .i64 6, .int .i64 rk, .int .i64 bk, .int .i64 ro, .int .i64 co, .int .i64 ch, .int .i64 bi, .int .i64 va] 39] := hsAs H (by kernel_rfl)
    exact ⟨6, (by omega), _, frm_of, H, (by omega), (by omega), (by omega), (by omega)⟩
  · skip
    replace H : Hs [] w0 _ [.blk g2 #[.bool true, .bool true, .bool true, .bool false, .bool false, .bool false] 104, .blk g1 #[.int .i64 6, .int .i64 rk, .int .i64 bk, .int .i64 ro, .int .i64 co, .int .i64 ch, .int .i64 bi, .int .i64 va] 39] := hsAs H (by kernel_rfl)
    refine x_seq <| x_region <| x_b H [.m] <| x_nil <| x_then <| x_seq <| x_f (by kernel_rfl) ?_
    refine x_exit <| x_then_exit <| x_then_exit <| x_blk_exit <| x_then <| x_seq <| x_region ?_
    refine x_b H [.m, .m, .m] <| x_nil <| x_then <| x_retc <| x_ret (.tuple #[S (tB (faultB 6) [rk, bk, ro, co]), .bool true]) (by kernel_rfl) (by kernel_rfl) ?_
    exact ⟨by rw [show txtS (⟨8, 0, fun _ => 0, 0, 6, rk, bk, ro, co, ch, bi, va⟩ : Stp) = Lib.join (faultB 6 :: (numsS (⟨8, 0, fun _ => 0, 0, 6, rk, bk, ro, co, ch, bi, va⟩ : Stp)).map itoa) [32] from rfl]; simp [tB, numsS, Lib.join, List.intercalate], H.below⟩
set_option maxRecDepth 100000 in
set_option maxHeartbeats 4000000 in
theorem broken_n6 {rk bk ro co ch bi va : Int} (hx : Rng (⟨8, 0, fun _ => 0, 0, 6, rk, bk, ro, co, ch, bi, va⟩ : Stp)) (hz : ¬ (ch = 0 ∧ bi = 0 ∧ va = 0)) (w0 : World) :
    Calls Tryd.prog 36 #[.agg #[.int .i64 6, .int .i64 rk, .int .i64 bk, .int .i64 ro, .int .i64 co, .int .i64 ch, .int .i64 bi, .int .i64 va]] w0 fun e w' => e = .returned (.tuple #[S [], .bool false]) ∧ Below w0.heap.size w0 w' := by
  refine z_enter Tryd.func36 rfl ?_
  have H := Hs.nil w0
  have fl := faultLen 6
  have l_rk : (itoa rk).length ≤ 22 := itl hx.rk
  have l_bk : (itoa bk).length ≤ 22 := itl hx.bk
  have l_ro : (itoa ro).length ≤ 22 := itl hx.ro
  have l_co : (itoa co).length ≤ 22 := itl hx.co
  have l_ch : (itoa ch).length ≤ 22 := itl hx.ch
  have l_bi : (itoa bi).length ≤ 22 := itl hx.bi
  have l_va : (itoa va).length ≤ 22 := itl hx.va
  refine x_seq <| x_region <| z_box H #[.int .i64 6, .int .i64 rk, .int .i64 bk, .int .i64 ro, .int .i64 co, .int .i64 ch, .int .i64 bi, .int .i64 va] 39 (fun v1 g1 H => ?_)
  refine x_b H [.m, .m] <| x_nil <| x_then <| x_seq <| x_seq <| x_region <| x_b H [.m, .l 0 0, .m, .m, .m, .l 0 0, .m, .m] ?_
  refine x_nil <| x_then <| x_f (by kernel_rfl) <| x_skipc <| x_then <| x_seq <| x_region ?_
  refine x_b H [.m, .l 0 0] <| z_callB H (Has_6 _) fun v2 H => z_box H #[.bool false, .bool false, .bool false, .bool false, .bool false, .bool false] 104 (fun v3 g2 H => ?_)
  refine z_store H 0 0 [.bool true, .bool true, .bool true, .bool false, .bool false, .bool false] (fun v4 H => ?_)
  refine x_nil <| x_then <| x_seq <| x_region <| x_b H [.m, .l 1 0] <| z_callB H (Word_6 _) fun v5 H => x_b H [.m] ?_
  refine x_nil <| x_then <| x_seq <| x_seq <| x_region <| x_b H [.m, .l 1 0, .m] <| x_nil ?_
  refine x_then <| x_t (by kernel_rfl) <| x_region <| x_b H [.m, .m, .m, .l 1 1] <| z_callB H (Number_of hx.rk _) fun v6 H => x_val (S (([32] : List UInt8) ++ (itoa rk))) (by kernel_rfl) rfl (Eq.trans (by kernel_rfl) (strAdd (P := Tryd.prog) (t := 9) (a := ([32] : List UInt8)) (b := itoa rk) (by simp only [List.length_append, List.length_cons, List.length_nil]; omega))) <| x_val (S (tB (faultB 6) [rk])) (by kernel_rfl) rfl (Eq.trans (by kernel_rfl) (strAdd (P := Tryd.prog) (t := 9) (a := tB (faultB 6) []) (b := ([32] : List UInt8) ++ (itoa rk)) (by have q := tB_len (w := faultB 6) (l := []) fl (by simp <;> omega) (by simp); simp only [List.length_append, List.length_cons, List.length_nil]; omega))) ?_
  refine x_b H [.m] <| x_nil <| x_then <| x_seq <| x_seq <| x_region <| x_b H [.m, .m, .l 1 2, .m, .m, .l 1 3, .m, .m, .l 1 4, .m, .l 1 5, .m, .l 1 6, .m, .l 1 7, .m, .m] ?_
  refine x_nil <| z_fr 68 [(4, .pointer (some ⟨g2, 0, none⟩)), (5, S (tB (faultB 6) [rk])), (51, .agg #[.int .i64 bk, .int .i64 ro, .int .i64 co, .int .i64 ch, .int .i64 bi, .int .i64 va]), (52, .int .i64 0)] [] fun uf1 => x_then <| x_block <| x_loop (G := Nat) (fun (c : Nat) a w' => ∃ uf2 : Nat → Value, a = frm 68 uf2 [(4, .pointer (some ⟨g2, 0, none⟩)), (5, S (([tB (faultB 6) [rk], tB (faultB 6) [rk, bk], tB (faultB 6) [rk, bk, ro], tB (faultB 6) [rk, bk, ro, co], tB (faultB 6) [rk, bk, ro, co], tB (faultB 6) [rk, bk, ro, co], tB (faultB 6) [rk, bk, ro, co]] : List (List UInt8)).getD c [])), (51, .agg #[.int .i64 bk, .int .i64 ro, .int .i64 co, .int .i64 ch, .int .i64 bi, .int .i64 va]), (52, .int .i64 (c : Int))] [] ∧ Hs [] w0 w' [.blk g2 #[.bool true, .bool true, .bool true, .bool false, .bool false, .bool false] 104, .blk g1 #[.int .i64 6, .int .i64 rk, .int .i64 bk, .int .i64 ro, .int .i64 co, .int .i64 ch, .int .i64 bi, .int .i64 va] 39] ∧ (c ≤ 6) ∧ (3 < c → ch = 0) ∧ (4 < c → bi = 0) ∧ (5 < c → va = 0)) (fun (c : Nat) => 6 - c) 0 ⟨_, frm_of, H, (Nat.zero_le _), (by omega), (by omega), (by omega)⟩ ?_
  clear H
  rintro c _ v7 ⟨uf2, rfl, H, r1, r2, r3, r4⟩
  rcases (show c = 0 ∨ c = 1 ∨ c = 2 ∨ c = 3 ∨ c = 4 ∨ c = 5 ∨ c = 6 by omega) with rfl | rfl | rfl | rfl | rfl | rfl | rfl
  · skip
    replace H : Hs [] w0 _ [.blk g2 #[.bool true, .bool true, .bool true, .bool false, .bool false, .bool false] 104, .blk g1 #[.int .i64 6, .int .i64 rk, .int .i64 bk, .int .i64 ro, .int .i64 co, .int .i64 ch, .int .i64 bi, .int .i64 va] 39] := hsAs H (by kernel_rfl)
    refine x_seq <| x_region <| x_b H [.m] <| x_nil <| x_then <| x_seq <| x_t (by kernel_rfl) ?_
    refine x_skipc <| x_then <| x_seq <| x_block <| x_seq <| x_region <| x_b H [.m, .m, .m, .m] ?_
    refine x_nil <| x_then <| x_seq <| x_region <| x_b H [.m, .m, .l 0 0] <| x_nil <| x_then ?_
    refine x_t (by kernel_rfl) <| x_region <| x_b H [.m, .m] <| z_callB H (Number_of hx.bk _) fun v8 H => x_val (S (([32] : List UInt8) ++ (itoa bk))) (by kernel_rfl) rfl (Eq.trans (by kernel_rfl) (strAdd (P := Tryd.prog) (t := 9) (a := ([32] : List UInt8)) (b := itoa bk) (by simp only [List.length_append, List.length_cons, List.length_nil]; omega))) <| x_val (S (tB (faultB 6) [rk, bk])) (by kernel_rfl) rfl (Eq.trans (by kernel_rfl) (strAdd (P := Tryd.prog) (t := 9) (a := tB (faultB 6) [rk]) (b := ([32] : List UInt8) ++ (itoa bk)) (by have q := tB_len (w := faultB 6) (l := [rk]) fl (by simp <;> omega) (by simp); simp only [List.length_append, List.length_cons, List.length_nil]; omega))) <| x_b H [.m] ?_
    refine x_nil <| x_blk <| x_then <| x_region <| x_b H [.m, .m] <| x_nil <| x_then ?_
    replace H := H.pk [0, 1]
    replace H : Hs [] w0 _ [.blk g2 #[.bool true, .bool true, .bool true, .bool false, .bool false, .bool false] 104, .blk g1 #[.int .i64 6, .int .i64 rk, .int .i64 bk, .int .i64 ro, .int .i64 co, .int .i64 ch, .int .i64 bi, .int .i64 va] 39] := hsAs H (by kernel_rfl)
    exact ⟨1, (by omega), _, frm_of, H, (by omega), (by omega), (by omega), (by omega)⟩
  · skip
    replace H : Hs [] w0 _ [.blk g2 #[.bool true, .bool true, .bool true, .bool false, .bool false, .bool false] 104, .blk g1 #[.int .i64 6, .int .i64 rk, .int .i64 bk, .int .i64 ro, .int .i64 co, .int .i64 ch, .int .i64 bi, .int .i64 va] 39] := hsAs H (by kernel_rfl)
    refine x_seq <| x_region <| x_b H [.m] <| x_nil <| x_then <| x_seq <| x_t (by kernel_rfl) ?_
    refine x_skipc <| x_then <| x_seq <| x_block <| x_seq <| x_region <| x_b H [.m, .m, .m, .m] ?_
    refine x_nil <| x_then <| x_seq <| x_region <| x_b H [.m, .m, .l 0 1] <| x_nil <| x_then ?_
    refine x_t (by kernel_rfl) <| x_region <| x_b H [.m, .m] <| z_callB H (Number_of hx.ro _) fun v9 H => x_val (S (([32] : List UInt8) ++ (itoa ro))) (by kernel_rfl) rfl (Eq.trans (by kernel_rfl) (strAdd (P := Tryd.prog) (t := 9) (a := ([32] : List UInt8)) (b := itoa ro) (by simp only [List.length_append, List.length_cons, List.length_nil]; omega))) <| x_val (S (tB (faultB 6) [rk, bk, ro])) (by kernel_rfl) rfl (Eq.trans (by kernel_rfl) (strAdd (P := Tryd.prog) (t := 9) (a := tB (faultB 6) [rk, bk]) (b := ([32] : List UInt8) ++ (itoa ro)) (by have q := tB_len (w := faultB 6) (l := [rk, bk]) fl (by simp <;> omega) (by simp); simp only [List.length_append, List.length_cons, List.length_nil]; omega))) <| x_b H [.m] ?_
    refine x_nil <| x_blk <| x_then <| x_region <| x_b H [.m, .m] <| x_nil <| x_then ?_
    replace H := H.pk [0, 1]
    replace H : Hs [] w0 _ [.blk g2 #[.bool true, .bool true, .bool true, .bool false, .bool false, .bool false] 104, .blk g1 #[.int .i64 6, .int .i64 rk, .int .i64 bk, .int .i64 ro, .int .i64 co, .int .i64 ch, .int .i64 bi, .int .i64 va] 39] := hsAs H (by kernel_rfl)
    exact ⟨2, (by omega), _, frm_of, H, (by omega), (by omega), (by omega), (by omega)⟩
  · skip
    replace H : Hs [] w0 _ [.blk g2 #[.bool true, .bool true, .bool true, .bool false, .bool false, .bool false] 104, .blk g1 #[.int .i64 6, .int .i64 rk, .int .i64 bk, .int .i64 ro, .int .i64 co, .int .i64 ch, .int .i64 bi, .int .i64 va] 39] := hsAs H (by kernel_rfl)
    refine x_seq <| x_region <| x_b H [.m] <| x_nil <| x_then <| x_seq <| x_t (by kernel_rfl) ?_
    refine x_skipc <| x_then <| x_seq <| x_block <| x_seq <| x_region <| x_b H [.m, .m, .m, .m] ?_
    refine x_nil <| x_then <| x_seq <| x_region <| x_b H [.m, .m, .l 0 2] <| x_nil <| x_then ?_
    refine x_t (by kernel_rfl) <| x_region <| x_b H [.m, .m] <| z_callB H (Number_of hx.co _) fun v10 H => x_val (S (([32] : List UInt8) ++ (itoa co))) (by kernel_rfl) rfl (Eq.trans (by kernel_rfl) (strAdd (P := Tryd.prog) (t := 9) (a := ([32] : List UInt8)) (b := itoa co) (by simp only [List.length_append, List.length_cons, List.length_nil]; omega))) <| x_val (S (tB (faultB 6) [rk, bk, ro, co])) (by kernel_rfl) rfl (Eq.trans (by kernel_rfl) (strAdd (P := Tryd.prog) (t := 9) (a := tB (faultB 6) [rk, bk, ro]) (b := ([32] : List UInt8) ++ (itoa co)) (by have q := tB_len (w := faultB 6) (l := [rk, bk, ro]) fl (by simp <;> omega) (by simp); simp only [List.length_append, List.length_cons, List.length_nil]; omega))) <| x_b H [.m] ?_
    refine x_nil <| x_blk <| x_then <| x_region <| x_b H [.m, .m] <| x_nil <| x_then ?_
    replace H := H.pk [0, 1]
    replace H : Hs [] w0 _ [.blk g2 #[.bool true, .bool true, .bool true, .bool false, .bool false, .bool false] 104, .blk g1 #[.int .i64 6, .int .i64 rk, .int .i64 bk, .int .i64 ro, .int .i64 co, .int .i64 ch, .int .i64 bi, .int .i64 va] 39] := hsAs H (by kernel_rfl)
    exact ⟨3, (by omega), _, frm_of, H, (by omega), (by omega), (by omega), (by omega)⟩
  · skip
    replace H : Hs [] w0 _ [.blk g2 #[.bool true, .bool true, .bool true, .bool false, .bool false, .bool false] 104, .blk g1 #[.int .i64 6, .int .i64 rk, .int .i64 bk, .int .i64 ro, .int .i64 co, .int .i64 ch, .int .i64 bi, .int .i64 va] 39] := hsAs H (by kernel_rfl)
    refine x_seq <| x_region <| x_b H [.m] <| x_nil <| x_then <| x_seq <| x_t (by kernel_rfl) ?_
    refine x_skipc <| x_then <| x_seq <| x_block <| x_seq <| x_region <| x_b H [.m, .m, .m, .m] ?_
    refine x_nil <| x_then <| x_seq <| x_region <| x_b H [.m, .m, .l 0 3] <| x_nil <| x_then ?_
    refine x_f (by kernel_rfl) <| x_seq <| x_region <| x_b H [.m, .v (.bool (!(decide (ch = 0))))] <| x_nil <| x_then ?_
    cases h1 : decide (ch = 0)
    · skip
      have h1p := of_decide_eq_false h1
      refine x_t (by kernel_rfl) <| x_seq <| x_region <| x_b H [.m, .m] <| x_nil <| x_then <| x_retc ?_
      refine x_blk_ret <| x_then_ret <| x_then_ret <| x_blk_ret <| x_then_ret <| x_ret (.tuple #[S ([] : List UInt8), .bool false]) (by kernel_rfl) (by kernel_rfl) ?_
      exact ⟨rfl, H.below⟩
    have h1p := of_decide_eq_true h1
    refine x_f (by kernel_rfl) <| x_skipc <| x_blk <| x_then <| x_region <| x_b H [.m, .m] <| x_nil ?_
    refine x_then ?_
    replace H := H.pk [0, 1]
    replace H : Hs [] w0 _ [.blk g2 #[.bool true, .bool true, .bool true, .bool false, .bool false, .bool false] 104, .blk g1 #[.int .i64 6, .int .i64 rk, .int .i64 bk, .int .i64 ro, .int .i64 co, .int .i64 ch, .int .i64 bi, .int .i64 va] 39] := hsAs H (by kernel_rfl)
    exact ⟨4, (by omega), _, frm_of, H, (by omega), (by omega), (by omega), (by omega)⟩
  · skip
    replace H : Hs [] w0 _ [.blk g2 #[.bool true, .bool true, .bool true, .bool false, .bool false, .bool false] 104, .blk g1 #[.int .i64 6, .int .i64 rk, .int .i64 bk, .int .i64 ro, .int .i64 co, .int .i64 ch, .int .i64 bi, .int .i64 va] 39] := hsAs H (by kernel_rfl)
    refine x_seq <| x_region <| x_b H [.m] <| x_nil <| x_then <| x_seq <| x_t (by kernel_rfl) ?_
    refine x_skipc <| x_then <| x_seq <| x_block <| x_seq <| x_region <| x_b H [.m, .m, .m, .m] ?_
    refine x_nil <| x_then <| x_seq <| x_region <| x_b H [.m, .m, .l 0 4] <| x_nil <| x_then ?_
    refine x_f (by kernel_rfl) <| x_seq <| x_region <| x_b H [.m, .v (.bool (!(decide (bi = 0))))] <| x_nil <| x_then ?_
    cases h2 : decide (bi = 0)
    · skip
      have h2p := of_decide_eq_false h2
      refine x_t (by kernel_rfl) <| x_seq <| x_region <| x_b H [.m, .m] <| x_nil <| x_then <| x_retc ?_
      refine x_blk_ret <| x_then_ret <| x_then_ret <| x_blk_ret <| x_then_ret <| x_ret (.tuple #[S ([] : List UInt8), .bool false]) (by kernel_rfl) (by kernel_rfl) ?_
      exact ⟨rfl, H.below⟩
    have h2p := of_decide_eq_true h2
    refine x_f (by kernel_rfl) <| x_skipc <| x_blk <| x_then <| x_region <| x_b H [.m, .m] <| x_nil ?_
    refine x_then ?_
    replace H := H.pk [0, 1]
    replace H : Hs [] w0 _ [.blk g2 #[.bool true, .bool true, .bool true, .bool false, .bool false, .bool false] 104, .blk g1 #[.int .i64 6, .int .i64 rk, .int .i64 bk, .int .i64 ro, .int .i64 co, .int .i64 ch, .int .i64 bi, .int .i64 va] 39] := hsAs H (by kernel_rfl)
    exact ⟨5, (by omega), _, frm_of, H, (by omega), (by omega), (by omega), (by omega)⟩
  · skip
    replace H : Hs [] w0 _ [.blk g2 #[.bool true, .bool true, .bool true, .bool false, .bool false, .bool false] 104, .blk g1 #[.int .i64 6, .int .i64 rk, .int .i64 bk, .int .i64 ro, .int .i64 co, .int .i64 ch, .int .i64 bi, .int .i64 va] 39] := hsAs H (by kernel_rfl)
    refine x_seq <| x_region <| x_b H [.m] <| x_nil <| x_then <| x_seq <| x_t (by kernel_rfl) ?_
    refine x_skipc <| x_then <| x_seq <| x_block <| x_seq <| x_region <| x_b H [.m, .m, .m, .m] ?_
    refine x_nil <| x_then <| x_seq <| x_region <| x_b H [.m, .m, .l 0 5] <| x_nil <| x_then ?_
    refine x_f (by kernel_rfl) <| x_seq <| x_region <| x_b H [.m, .v (.bool (!(decide (va = 0))))] <| x_nil <| x_then ?_
    cases h3 : decide (va = 0)
    · skip
      have h3p := of_decide_eq_false h3
      refine x_t (by kernel_rfl) <| x_seq <| x_region <| x_b H [.m, .m] <| x_nil <| x_then <| x_retc ?_
      refine x_blk_ret <| x_then_ret <| x_then_ret <| x_blk_ret <| x_then_ret <| x_ret (.tuple #[S ([] : List UInt8), .bool false]) (by kernel_rfl) (by kernel_rfl) ?_
      exact ⟨rfl, H.below⟩
    have h3p := of_decide_eq_true h3
    refine x_f (by kernel_rfl) <| x_skipc <| x_blk <| x_then <| x_region <| x_b H [.m, .m] <| x_nil ?_
    refine x_then ?_
    replace H := H.pk [0, 1]
    replace H : Hs [] w0 _ [.blk g2 #[.bool true, .bool true, .bool true, .bool false, .bool false, .bool false] 104, .blk g1 #[.int .i64 6, .int .i64 rk, .int .i64 bk, .int .i64 ro, .int .i64 co, .int .i64 ch, .int .i64 bi, .int .i64 va] 39] := hsAs H (by kernel_rfl)
    exact ⟨6, (by omega), _, frm_of, H, (by omega), (by omega), (by omega), (by omega)⟩
  · skip
    replace H : Hs [] w0 _ [.blk g2 #[.bool true, .bool true, .bool true, .bool false, .bool false, .bool false] 104, .blk g1 #[.int .i64 6, .int .i64 rk, .int .i64 bk, .int .i64 ro, .int .i64 co, .int .i64 ch, .int .i64 bi, .int .i64 va] 39] := hsAs H (by kernel_rfl)
    refine x_seq <| x_region <| x_b H [.m] <| x_nil <| x_then <| x_seq <| x_f (by kernel_rfl) ?_
    refine x_exit <| x_then_exit <| x_then_exit <| x_blk_exit <| x_then <| x_seq <| x_region ?_
    refine x_b H [.m, .m, .m] <| x_nil <| x_then <| x_retc <| x_ret (.tuple #[S (tB (faultB 6) [rk, bk, ro, co]), .bool true]) (by kernel_rfl) (by kernel_rfl) ?_
    exfalso; exact hz (by omega)
set_option maxRecDepth 100000 in
set_option maxHeartbeats 4000000 in
theorem broken_y7 {rk bk ro co ch bi va : Int} (hx : Rng (⟨8, 0, fun _ => 0, 0, 7, rk, bk, ro, co, ch, bi, va⟩ : Stp)) (hz : (rk = 0 ∧ bk = 0 ∧ ro = 0 ∧ co = 0 ∧ ch = 0 ∧ bi = 0 ∧ va = 0)) (w0 : World) :
    Calls Tryd.prog 36 #[.agg #[.int .i64 7, .int .i64 rk, .int .i64 bk, .int .i64 ro, .int .i64 co, .int .i64 ch, .int .i64 bi, .int .i64 va]] w0 fun e w' => e = .returned (.tuple #[S (txtS (⟨8, 0, fun _ => 0, 0, 7, rk, bk, ro, co, ch, bi, va⟩ : Stp)), .bool true]) ∧ Below w0.heap.size w0 w' := by
  refine z_enter Tryd.func36 rfl ?_
  have H := Hs.nil w0
  have fl := faultLen 7
  have l_rk : (itoa rk).length ≤ 22 := itl hx.rk
  have l_bk : (itoa bk).length ≤ 22 := itl hx.bk
  have l_ro : (itoa ro).length ≤ 22 := itl hx.ro
  have l_co : (itoa co).length ≤ 22 := itl hx.co
  have l_ch : (itoa ch).length ≤ 22 := itl hx.ch
  have l_bi : (itoa bi).length ≤ 22 := itl hx.bi
  have l_va : (itoa va).length ≤ 22 := itl hx.va
  refine x_seq <| x_region <| z_box H #[.int .i64 7, .int .i64 rk, .int .i64 bk, .int .i64 ro, .int .i64 co, .int .i64 ch, .int .i64 bi, .int .i64 va] 39 (fun v1 g1 H => ?_)
  refine x_b H [.m, .m] <| x_nil <| x_then <| x_seq <| x_seq <| x_region <| x_b H [.m, .l 0 0, .m, .m, .m, .l 0 0, .m, .m] ?_
  refine x_nil <| x_then <| x_f (by kernel_rfl) <| x_skipc <| x_then <| x_seq <| x_region ?_
  refine x_b H [.m, .l 0 0] <| z_callB H (Has_7 _) fun v2 H => z_box H #[.bool false, .bool false, .bool false, .bool false, .bool false, .bool false] 104 (fun v3 g2 H => ?_)
  refine z_store H 0 0 [.bool false, .bool false, .bool false, .bool false, .bool false, .bool false] (fun v4 H => ?_)
  refine x_nil <| x_then <| x_seq <| x_region <| x_b H [.m, .l 1 0] <| z_callB H (Word_7 _) fun v5 H => x_b H [.m] ?_
  refine x_nil <| x_then <| x_seq <| x_seq <| x_region <| x_b H [.m, .l 1 0, .m] <| x_nil ?_
  refine x_then <| x_f (by kernel_rfl) <| x_seq <| x_region <| x_b H [.m, .m, .l 1 1, .v (.bool (!(decide (rk = 0))))] <| x_nil <| x_then ?_
  cases h1 : decide (rk = 0)
  · skip
    have h1p := of_decide_eq_false h1
    exact absurd (by omega) h1p
  have h1p := of_decide_eq_true h1
  refine x_f (by kernel_rfl) <| x_skipc <| x_then <| x_seq <| x_seq <| x_region <| x_b H [.m, .m, .l 1 2, .m, .m, .l 1 3, .m, .m, .l 1 4, .m, .l 1 5, .m, .l 1 6, .m, .l 1 7, .m, .m] ?_
  refine x_nil <| z_fr 68 [(4, .pointer (some ⟨g2, 0, none⟩)), (5, S (faultB 7)), (51, .agg #[.int .i64 bk, .int .i64 ro, .int .i64 co, .int .i64 ch, .int .i64 bi, .int .i64 va]), (52, .int .i64 0)] [] fun uf1 => x_then <| x_block <| x_loop (G := Nat) (fun (c : Nat) a w' => ∃ uf2 : Nat → Value, a = frm 68 uf2 [(4, .pointer (some ⟨g2, 0, none⟩)), (5, S (tB (faultB 7) [])), (51, .agg #[.int .i64 bk, .int .i64 ro, .int .i64 co, .int .i64 ch, .int .i64 bi, .int .i64 va]), (52, .int .i64 (c : Int))] [] ∧ Hs [] w0 w' [.blk g2 #[.bool false, .bool false, .bool false, .bool false, .bool false, .bool false] 104, .blk g1 #[.int .i64 7, .int .i64 rk, .int .i64 bk, .int .i64 ro, .int .i64 co, .int .i64 ch, .int .i64 bi, .int .i64 va] 39] ∧ (c ≤ 6) ∧ (0 < c → bk = 0) ∧ (1 < c → ro = 0) ∧ (2 < c → co = 0) ∧ (3 < c → ch = 0) ∧ (4 < c → bi = 0) ∧ (5 < c → va = 0)) (fun (c : Nat) => 6 - c) 0 ⟨_, frm_of, H, (Nat.zero_le _), (by omega), (by omega), (by omega), (by omega), (by omega), (by omega)⟩ ?_
  clear H
  rintro c _ v6 ⟨uf2, rfl, H, r1, r2, r3, r4, r5, r6, r7⟩
  rcases (show c = 0 ∨ c = 1 ∨ c = 2 ∨ c = 3 ∨ c = 4 ∨ c = 5 ∨ c = 6 by omega) with rfl | rfl | rfl | rfl | rfl | rfl | rfl
  · skip
    replace H : Hs [] w0 _ [.blk g2 #[.bool false, .bool false, .bool false, .bool false, .bool false, .bool false] 104, .blk g1 #[.int .i64 7, .int .i64 rk, .int .i64 bk, .int .i64 ro, .int .i64 co, .int .i64 ch, .int .i64 bi, .int .i64 va] 39] := hsAs H (by kernel_rfl)
    refine x_seq <| x_region <| x_b H [.m] <| x_nil <| x_then <| x_seq <| x_t (by kernel_rfl) ?_
    refine x_skipc <| x_then <| x_seq <| x_block <| x_seq <| x_region <| x_b H [.m, .m, .m, .m] ?_
    refine x_nil <| x_then <| x_seq <| x_region <| x_b H [.m, .m, .l 0 0] <| x_nil <| x_then ?_
    refine x_f (by kernel_rfl) <| x_seq <| x_region <| x_b H [.m, .v (.bool (!(decide (bk = 0))))] <| x_nil <| x_then ?_
    cases h2 : decide (bk = 0)
    · skip
      have h2p := of_decide_eq_false h2
      exact absurd (by omega) h2p
    have h2p := of_decide_eq_true h2
    refine x_f (by kernel_rfl) <| x_skipc <| x_blk <| x_then <| x_region <| x_b H [.m, .m] <| x_nil ?_
    refine x_then ?_
    replace H := H.pk [0, 1]
    replace H : Hs [] w0 _ [.blk g2 #[.bool false, .bool false, .bool false, .bool false, .bool false, .bool false] 104, .blk g1 #[.int .i64 7, .int .i64 rk, .int .i64 bk, .int .i64 ro, .int .i64 co, .int .i64 ch, .int .i64 bi, .int .i64 va] 39] := hsAs H (by kernel_rfl)
    exact ⟨1, (by omega), _, frm_of, H, (by omega), (by omega), (by omega), (by omega), (by omega), (by omega), (by omega)⟩
  · skip
    replace H : Hs [] w0 _ [.blk g2 #[.bool false, .bool false, .bool false, .bool false, .bool false, .bool false] 104, .blk g1 #[.int .i64 7, .int .i64 rk, .int .i64 bk, .int .i64 ro, .int .i64 co, .int .i64 ch, .int .i64 bi, .int .i64 va] 39] := hsAs H (by kernel_rfl)
    refine x_seq <| x_region <| x_b H [.m] <| x_nil <| x_then <| x_seq <| x_t (by kernel_rfl) ?_
    refine x_skipc <| x_then <| x_seq <| x_block <| x_seq <| x_region <| x_b H [.m, .m, .m, .m] ?_
    refine x_nil <| x_then <| x_seq <| x_region <| x_b H [.m, .m, .l 0 1] <| x_nil <| x_then ?_
    refine x_f (by kernel_rfl) <| x_seq <| x_region <| x_b H [.m, .v (.bool (!(decide (ro = 0))))] <| x_nil <| x_then ?_
    cases h3 : decide (ro = 0)
    · skip
      have h3p := of_decide_eq_false h3
      exact absurd (by omega) h3p
    have h3p := of_decide_eq_true h3
    refine x_f (by kernel_rfl) <| x_skipc <| x_blk <| x_then <| x_region <| x_b H [.m, .m] <| x_nil ?_
    refine x_then ?_
    replace H := H.pk [0, 1]
    replace H : Hs [] w0 _ [.blk g2 #[.bool false, .bool false, .bool false, .bool false, .bool false, .bool false] 104, .blk g1 #[.int .i64 7, .int .i64 rk, .int .i64 bk, .int .i64 ro, .int .i64 co, .int .i64 ch, .int .i64 bi, .int .i64 va] 39] := hsAs H (by kernel_rfl)
    exact ⟨2, (by omega), _, frm_of, H, (by omega), (by omega), (by omega), (by omega), (by omega), (by omega), (by omega)⟩
  · skip
    replace H : Hs [] w0 _ [.blk g2 #[.bool false, .bool false, .bool false, .bool false, .bool false, .bool false] 104, .blk g1 #[.int .i64 7, .int .i64 rk, .int .i64 bk, .int .i64 ro, .int .i64 co, .int .i64 ch, .int .i64 bi, .int .i64 va] 39] := hsAs H (by kernel_rfl)
    refine x_seq <| x_region <| x_b H [.m] <| x_nil <| x_then <| x_seq <| x_t (by kernel_rfl) ?_
    refine x_skipc <| x_then <| x_seq <| x_block <| x_seq <| x_region <| x_b H [.m, .m, .m, .m] ?_
    refine x_nil <| x_then <| x_seq <| x_region <| x_b H [.m, .m, .l 0 2] <| x_nil <| x_then ?_
    refine x_f (by kernel_rfl) <| x_seq <| x_region <| x_b H [.m, .v (.bool (!(decide (co = 0))))] <| x_nil <| x_then ?_
    cases h4 : decide (co = 0)
    · skip
      have h4p := of_decide_eq_false h4
      exact absurd (by omega) h4p
    have h4p := of_decide_eq_true h4
    refine x_f (by kernel_rfl) <| x_skipc <| x_blk <| x_then <| x_region <| x_b H [.m, .m] <| x_nil ?_
    refine x_then ?_
    replace H := H.pk [0, 1]
    replace H : Hs [] w0 _ [.blk g2 #[.bool false, .bool false, .bool false, .bool false, .bool false, .bool false] 104, .blk g1 #[.int .i64 7, .int .i64 rk, .int .i64 bk, .int .i64 ro, .int .i64 co, .int .i64 ch, .int .i64 bi, .int .i64 va] 39] := hsAs H (by kernel_rfl)
    exact ⟨3, (by omega), _, frm_of, H, (by omega), (by omega), (by omega), (by omega), (by omega), (by omega), (by omega)⟩
  · skip
    replace H : Hs [] w0 _ [.blk g2 #[.bool false, .bool false, .bool false, .bool false, .bool false, .bool false] 104, .blk g1 #[.int .i64 7, .int .i64 rk, .int .i64 bk, .int .i64 ro, .int .i64 co, .int .i64 ch, .int .i64 bi, .int .i64 va] 39] := hsAs H (by kernel_rfl)
    refine x_seq <| x_region <| x_b H [.m] <| x_nil <| x_then <| x_seq <| x_t (by kernel_rfl) ?_
    refine x_skipc <| x_then <| x_seq <| x_block <| x_seq <| x_region <| x_b H [.m, .m, .m, .m] ?_
    refine x_nil <| x_then <| x_seq <| x_region <| x_b H [.m, .m, .l 0 3] <| x_nil <| x_then ?_
    refine x_f (by kernel_rfl) <| x_seq <| x_region <| x_b H [.m, .v (.bool (!(decide (ch = 0))))] <| x_nil <| x_then ?_
    cases h5 : decide (ch = 0)
    · skip
      have h5p := of_decide_eq_false h5
      exact absurd (by omega) h5p
    have h5p := of_decide_eq_true h5
    refine x_f (by kernel_rfl) <| x_skipc <| x_blk <| x_then <| x_region <| x_b H [.m, .m] <| x_nil ?_
    refine x_then ?_
    replace H := H.pk [0, 1]
    replace H : Hs [] w0 _ [.blk g2 #[.bool false, .bool false, .bool false, .bool false, .bool false, .bool false] 104, .blk g1 #[.int .i64 7, .int .i64 rk, .int .i64 bk, .int .i64 ro, .int .i64 co, .int .i64 ch, .int .i64 bi, .int .i64 va] 39] := hsAs H (by kernel_rfl)
    exact ⟨4, (by omega), _, frm_of, H, (by omega), (by omega), (by omega), (by omega), (by omega), (by omega), (by omega)⟩
  · skip
    replace H : Hs [] w0 _ [.blk g2 #[.bool false, .bool false, .bool false, .bool false, .bool false, .bool false] 104, .blk g1 #[.int .i64 7, .int .i64 rk, .int .i64 bk, .int .i64 ro, .int .i64 co, .int .i64 ch, .int .i64 bi, .int .i64 va] 39] := hsAs H (by kernel_rfl)
    refine x_seq <| x_region <| x_b H [.m] <| x_nil <| x_then <| x_seq <| x_t (by kernel_rfl) ?_
    refine x_skipc <| x_then <| x_seq <| x_block <| x_seq <| x_region <| x_b H [.m, .m, .m, .m] ?_
    refine x_nil <| x_then <| x_seq <| x_region <| x_b H [.m, .m, .l 0 4] <| x_nil <| x_then ?_
    refine x_f (by kernel_rfl) <| x_seq <| x_region <| x_b H [.m, .v (.bool (!(decide (bi = 0))))] <| x_nil <| x_then ?_
    cases h6 : decide (bi = 0)
    · skip
      have h6p := of_decide_eq_false h6
      exact absurd (by omega) h6p
    have h6p := of_decide_eq_true h6
    refine x_f (by kernel_rfl) <| x_skipc <| x_blk <| x_then <| x_region <| x_b H [.m, .m] <| x_nil ?_
    refine x_then ?_
    replace H := H.pk [0, 1]
    replace H : Hs [] w0 _ [.blk g2 #[.bool false, .bool false, .bool false, .bool false, .bool false, .bool false] 104, .blk g1 #[.int .i64 7, .int .i64 rk, .int .i64 bk, .int .i64 ro, .int .i64 co, .int .i64 ch, .int .i64 bi, .int .i64 va] 39] := hsAs H (by kernel_rfl)
    exact ⟨5, (by omega), _, frm_of, H, (by omega), (by omega), (by omega), (by omega), (by omega), (by omega), (by omega)⟩
  · skip
    replace H : Hs [] w0 _ [.blk g2 #[.bool false, .bool false, .bool false, .bool false, .bool false, .bool false] 104, .blk g1 #[.int .i64 7, .int .i64 rk, .int .i64 bk, .int .i64 ro, .int .i64 co, .int .i64 ch, .int .i64 bi, .int .i64 va] 39] := hsAs H (by kernel_rfl)
    refine x_seq <| x_region <| x_b H [.m] <| x_nil <| x_then <| x_seq <| x_t (by kernel_rfl) ?_
    refine x_skipc <| x_then <| x_seq <| x_block <| x_seq <| x_region <| x_b H [.m, .m, .m, .m] ?_
    refine x_nil <| x_then <| x_seq <| x_region <| x_b H [.m, .m, .l 0 5] <| x_nil <| x_then ?_
    refine x_f (by kernel_rfl) <| x_seq <| x_region <| x_b H [.m, .v (.bool (!(decide (va = 0))))] <| x_nil <| x_then ?_
    cases h7 : decide (va = 0)
    · skip
      have h7p := of_decide_eq_false h7
      exact absurd (by omega) h7p
    have h7p := of_decide_eq_true h7
    refine x_f (by kernel_rfl) <| x_skipc <| x_blk <| x_then <| x_region <| x_b H [.m, .m] <| x_nil ?_
    refine x_then ?_
    replace H := H.pk [0, 1]
    replace H : Hs [] w0 _ [.blk g2 #[.bool false, .bool false, .bool false, .bool false, .bool false, .bool false] 104, .blk g1 #[.int .i64 7, .int .i64 rk, .int .i64 bk, .int .i64 ro, .int .i64 co, .int .i64 ch, .int .i64 bi, .int .i64 va] 39] := hsAs H (by kernel_rfl)
    exact ⟨6, (by omega), _, frm_of, H, (by omega), (by omega), (by omega), (by omega), (by omega), (by omega), (by omega)⟩
  · skip
    replace H : Hs [] w0 _ [.blk g2 #[.bool false, .bool false, .bool false, .bool false, .bool false, .bool false] 104, .blk g1 #[.int .i64 7, .int .i64 rk, .int .i64 bk, .int .i64 ro, .int .i64 co, .int .i64 ch, .int .i64 bi, .int .i64 va] 39] := hsAs H (by kernel_rfl)
    refine x_seq <| x_region <| x_b H [.m] <| x_nil <| x_then <| x_seq <| x_f (by kernel_rfl) ?_
    refine x_exit <| x_then_exit <| x_then_exit <| x_blk_exit <| x_then <| x_seq <| x_region ?_
    refine x_b H [.m, .m, .m] <| x_nil <| x_then <| x_retc <| x_ret (.tuple #[S (tB (faultB 7) []), .bool true]) (by kernel_rfl) (by kernel_rfl) ?_
    exact ⟨by rw [show txtS (⟨8, 0, fun _ => 0, 0, 7, rk, bk, ro, co, ch, bi, va⟩ : Stp) = Lib.join (faultB 7 :: (numsS (⟨8, 0, fun _ => 0, 0, 7, rk, bk, ro, co, ch, bi, va⟩ : Stp)).map itoa) [32] from rfl]; simp [tB, numsS, Lib.join, List.intercalate], H.below⟩
set_option maxRecDepth 100000 in
set_option maxHeartbeats 4000000 in
theorem broken_n7 {rk bk ro co ch bi va : Int} (hx : Rng (⟨8, 0, fun _ => 0, 0, 7, rk, bk, ro, co, ch, bi, va⟩ : Stp)) (hz : ¬ (rk = 0 ∧ bk = 0 ∧ ro = 0 ∧ co = 0 ∧ ch = 0 ∧ bi = 0 ∧ va = 0)) (w0 : World) :
    Calls Tryd.prog 36 #[.agg #[.int .i64 7, .int .i64 rk, .int .i64 bk, .int .i64 ro, .int .i64 co, .int .i64 ch, .int .i64 bi, .int .i64 va]] w0 fun e w' => e = .returned (.tuple #[S [], .bool false]) ∧ Below w0.heap.size w0 w' := by
  refine z_enter Tryd.func36 rfl ?_
  have H := Hs.nil w0
  have fl := faultLen 7
  have l_rk : (itoa rk).length ≤ 22 := itl hx.rk
  have l_bk : (itoa bk).length ≤ 22 := itl hx.bk
  have l_ro : (itoa ro).length ≤ 22 := itl hx.ro
  have l_co : (itoa co).length ≤ 22 := itl hx.co
  have l_ch : (itoa ch).length ≤ 22 := itl hx.ch
  have l_bi : (itoa bi).length ≤ 22 := itl hx.bi
  have l_va : (itoa va).length ≤ 22 := itl hx.va
  refine x_seq <| x_region <| z_box H #[.int .i64 7, .int .i64 rk, .int .i64 bk, .int .i64 ro, .int .i64 co, .int .i64 ch, .int .i64 bi, .int .i64 va] 39 (fun v1 g1 H => ?_)
  refine x_b H [.m, .m] <| x_nil <| x_then <| x_seq <| x_seq <| x_region <| x_b H [.m, .l 0 0, .m, .m, .m, .l 0 0, .m, .m] ?_
  refine x_nil <| x_then <| x_f (by kernel_rfl) <| x_skipc <| x_then <| x_seq <| x_region ?_
  refine x_b H [.m, .l 0 0] <| z_callB H (Has_7 _) fun v2 H => z_box H #[.bool false, .bool false, .bool false, .bool false, .bool false, .bool false] 104 (fun v3 g2 H => ?_)
  refine z_store H 0 0 [.bool false, .bool false, .bool false, .bool false, .bool false, .bool false] (fun v4 H => ?_)
  refine x_nil <| x_then <| x_seq <| x_region <| x_b H [.m, .l 1 0] <| z_callB H (Word_7 _) fun v5 H => x_b H [.m] ?_
  refine x_nil <| x_then <| x_seq <| x_seq <| x_region <| x_b H [.m, .l 1 0, .m] <| x_nil ?_
  refine x_then <| x_f (by kernel_rfl) <| x_seq <| x_region <| x_b H [.m, .m, .l 1 1, .v (.bool (!(decide (rk = 0))))] <| x_nil <| x_then ?_
  cases h1 : decide (rk = 0)
  · skip
    have h1p := of_decide_eq_false h1
    refine x_t (by kernel_rfl) <| x_seq <| x_region <| x_b H [.m, .m] <| x_nil <| x_then <| x_retc ?_
    refine x_then_ret <| x_ret (.tuple #[S ([] : List UInt8), .bool false]) (by kernel_rfl) (by kernel_rfl) ?_
    exact ⟨rfl, H.below⟩
  have h1p := of_decide_eq_true h1
  refine x_f (by kernel_rfl) <| x_skipc <| x_then <| x_seq <| x_seq <| x_region <| x_b H [.m, .m, .l 1 2, .m, .m, .l 1 3, .m, .m, .l 1 4, .m, .l 1 5, .m, .l 1 6, .m, .l 1 7, .m, .m] ?_
  refine x_nil <| z_fr 68 [(4, .pointer (some ⟨g2, 0, none⟩)), (5, S (faultB 7)), (51, .agg #[.int .i64 bk, .int .i64 ro, .int .i64 co, .int .i64 ch, .int .i64 bi, .int .i64 va]), (52, .int .i64 0)] [] fun uf1 => x_then <| x_block <| x_loop (G := Nat) (fun (c : Nat) a w' => ∃ uf2 : Nat → Value, a = frm 68 uf2 [(4, .pointer (some ⟨g2, 0, none⟩)), (5, S (tB (faultB 7) [])), (51, .agg #[.int .i64 bk, .int .i64 ro, .int .i64 co, .int .i64 ch, .int .i64 bi, .int .i64 va]), (52, .int .i64 (c : Int))] [] ∧ Hs [] w0 w' [.blk g2 #[.bool false, .bool false, .bool false, .bool false, .bool false, .bool false] 104, .blk g1 #[.int .i64 7, .int .i64 rk, .int .i64 bk, .int .i64 ro, .int .i64 co, .int .i64 ch, .int .i64 bi, .int .i64 va] 39] ∧ (c ≤ 6) ∧ (0 < c → bk = 0) ∧ (1 < c → ro = 0) ∧ (2 < c → co = 0) ∧ (3 < c → ch = 0) ∧ (4 < c → bi = 0) ∧ (5 < c → va = 0)) (fun (c : Nat) => 6 - c) 0 ⟨_, frm_of, H, (Nat.zero_le _), (by omega), (by omega), (by omega), (by omega), (by omega), (by omega)⟩ ?_
  clear H
  rintro c _ v6 ⟨uf2, rfl, H, r1, r2, r3, r4, r5, r6, r7⟩
  rcases (show c = 0 ∨ c = 1 ∨ c = 2 ∨ c = 3 ∨ c = 4 ∨ c = 5 ∨ c = 6 by omega) with rfl | rfl | rfl | rfl | rfl | rfl | rfl
  · skip
    replace H : Hs [] w0 _ [.blk g2 #[.bool false, .bool false, .bool false, .bool false, .bool false, .bool false] 104, .blk g1 #[.int .i64 7, .int .i64 rk, .int .i64 bk, .int .i64 ro, .int .i64 co, .int .i64 ch, .int .i64 bi, .int .i64 va] 39] := hsAs H (by kernel_rfl)
    refine x_seq <| x_region <| x_b H [.m] <| x_nil <| x_then <| x_seq <| x_t (by kernel_rfl) ?_
    refine x_skipc <| x_then <| x_seq <| x_block <| x_seq <| x_region <| x_b H [.m, .m, .m, .m] ?_
    refine x_nil <| x_then <| x_seq <| x_region <| x_b H [.m, .m, .l 0 0] <| x_nil <| x_then ?_
    refine x_f (by kernel_rfl) <| x_seq <| x_region <| x_b H [.m, .v (.bool (!(decide (bk = 0))))] <| x_nil <| x_then ?_
    cases h2 : decide (bk = 0)
    · skip
      have h2p := of_decide_eq_false h2
      refine x_t (by kernel_rfl) <| x_seq <| x_region <| x_b H [.m, .m] <| x_nil <| x_then <| x_retc ?_
      refine x_blk_ret <| x_then_ret <| x_then_ret <| x_blk_ret <| x_then_ret <| x_ret (.tuple #[S ([] : List UInt8), .bool false]) (by kernel_rfl) (by kernel_rfl) ?_
      exact ⟨rfl, H.below⟩
    have h2p := of_decide_eq_true h2
    refine x_f (by kernel_rfl) <| x_skipc <| x_blk <| x_then <| x_region <| x_b H [.m, .m] <| x_nil ?_
    refine x_then ?_
    replace H := H.pk [0, 1]
    replace H : Hs [] w0 _ [.blk g2 #[.bool false, .bool false, .bool false, .bool false, .bool false, .bool false] 104, .blk g1 #[.int .i64 7, .int .i64 rk, .int .i64 bk, .int .i64 ro, .int .i64 co, .int .i64 ch, .int .i64 bi, .int .i64 va] 39] := hsAs H (by kernel_rfl)
    exact ⟨1, (by omega), _, frm_of, H, (by omega), (by omega), (by omega), (by omega), (by omega), (by omega), (by omega)⟩
  · skip
    replace H : Hs [] w0 _ [.blk g2 #[.bool false, .bool false, .bool false, .bool false, .bool false, .bool false] 104, .blk g1 #[.int .i64 7, .int .i64 rk, .int .i64 bk, .int .i64 ro, .int .i64 co, .int .i64 ch, .int .i64 bi, .int .i64 va] 39] := hsAs H (by kernel_rfl)
    refine x_seq <| x_region <| x_b H [.m] <| x_nil <| x_then <| x_seq <| x_t (by kernel_rfl) ?_
    refine x_skipc <| x_then <| x_seq <| x_block <| x_seq <| x_region <| x_b H [.m, .m, .m, .m] ?_
    refine x_nil <| x_then <| x_seq <| x_region <| x_b H [.m, .m, .l 0 1] <| x_nil <| x_then ?_
    refine x_f (by kernel_rfl) <| x_seq <| x_region <| x_b H [.m, .v (.bool (!(decide (ro = 0))))] <| x_nil <| x_then ?_
    cases h3 : decide (ro = 0)
    · skip
      have h3p := of_decide_eq_false h3
      refine x_t (by kernel_rfl) <| x_seq <| x_region <| x_b H [.m, .m] <| x_nil <| x_then <| x_retc ?_
      refine x_blk_ret <| x_then_ret <| x_then_ret <| x_blk_ret <| x_then_ret <| x_ret (.tuple #[S ([] : List UInt8), .bool false]) (by kernel_rfl) (by kernel_rfl) ?_
      exact ⟨rfl, H.below⟩
    have h3p := of_decide_eq_true h3
    refine x_f (by kernel_rfl) <| x_skipc <| x_blk <| x_then <| x_region <| x_b H [.m, .m] <| x_nil ?_
    refine x_then ?_
    replace H := H.pk [0, 1]
    replace H : Hs [] w0 _ [.blk g2 #[.bool false, .bool false, .bool false, .bool false, .bool false, .bool false] 104, .blk g1 #[.int .i64 7, .int .i64 rk, .int .i64 bk, .int .i64 ro, .int .i64 co, .int .i64 ch, .int .i64 bi, .int .i64 va] 39] := hsAs H (by kernel_rfl)
    exact ⟨2, (by omega), _, frm_of, H, (by omega), (by omega), (by omega), (by omega), (by omega), (by omega), (by omega)⟩
  · skip
    replace H : Hs [] w0 _ [.blk g2 #[.bool false, .bool false, .bool false, .bool false, .bool false, .bool false] 104, .blk g1 #[.int .i64 7, .int .i64 rk, .int .i64 bk, .int .i64 ro, .int .i64 co, .int .i64 ch, .int .i64 bi, .int .i64 va] 39] := hsAs H (by kernel_rfl)
    refine x_seq <| x_region <| x_b H [.m] <| x_nil <| x_then <| x_seq <| x_t (by kernel_rfl) ?_
    refine x_skipc <| x_then <| x_seq <| x_block <| x_seq <| x_region <| x_b H [.m, .m, .m, .m] ?_
    refine x_nil <| x_then <| x_seq <| x_region <| x_b H [.m, .m, .l 0 2] <| x_nil <| x_then ?_
    refine x_f (by kernel_rfl) <| x_seq <| x_region <| x_b H [.m, .v (.bool (!(decide (co = 0))))] <| x_nil <| x_then ?_
    cases h4 : decide (co = 0)
    · skip
      have h4p := of_decide_eq_false h4
      refine x_t (by kernel_rfl) <| x_seq <| x_region <| x_b H [.m, .m] <| x_nil <| x_then <| x_retc ?_
      refine x_blk_ret <| x_then_ret <| x_then_ret <| x_blk_ret <| x_then_ret <| x_ret (.tuple #[S ([] : List UInt8), .bool false]) (by kernel_rfl) (by kernel_rfl) ?_
      exact ⟨rfl, H.below⟩
    have h4p := of_decide_eq_true h4
    refine x_f (by kernel_rfl) <| x_skipc <| x_blk <| x_then <| x_region <| x_b H [.m, .m] <| x_nil ?_
    refine x_then ?_
    replace H := H.pk [0, 1]
    replace H : Hs [] w0 _ [.blk g2 #[.bool false, .bool false, .bool false, .bool false, .bool false, .bool false] 104, .blk g1 #[.int .i64 7, .int .i64 rk, .int .i64 bk, .int .i64 ro, .int .i64 co, .int .i64 ch, .int .i64 bi, .int .i64 va] 39] := hsAs H (by kernel_rfl)
    exact ⟨3, (by omega), _, frm_of, H, (by omega), (by omega), (by omega), (by omega), (by omega), (by omega), (by omega)⟩
  · skip
    replace H : Hs [] w0 _ [.blk g2 #[.bool false, .bool false, .bool false, .bool false, .bool false, .bool false] 104, .blk g1 #[.int .i64 7, .int .i64 rk, .int .i64 bk, .int .i64 ro, .int .i64 co, .int .i64 ch, .int .i64 bi, .int .i64 va] 39] := hsAs H (by kernel_rfl)
    refine x_seq <| x_region <| x_b H [.m] <| x_nil <| x_then <| x_seq <| x_t (by kernel_rfl) ?_
    refine x_skipc <| x_then <| x_seq <| x_block <| x_seq <| x_region <| x_b H [.m, .m, .m, .m] ?_
    refine x_nil <| x_then <| x_seq <| x_region <| x_b H [.m, .m, .l 0 3] <| x_nil <| x_then ?_
    refine x_f (by kernel_rfl) <| x_seq <| x_region <| x_b H [.m, .v (.bool (!(decide (ch = 0))))] <| x_nil <| x_then ?_
    cases h5 : decide (ch = 0)
    · skip
      have h5p := of_decide_eq_false h5
      refine x_t (by kernel_rfl) <| x_seq <| x_region <| x_b H [.m, .m] <| x_nil <| x_then <| x_retc ?_
      refine x_blk_ret <| x_then_ret <| x_then_ret <| x_blk_ret <| x_then_ret <| x_ret (.tuple #[S ([] : List UInt8), .bool false]) (by kernel_rfl) (by kernel_rfl) ?_
      exact ⟨rfl, H.below⟩
    have h5p := of_decide_eq_true h5
    refine x_f (by kernel_rfl) <| x_skipc <| x_blk <| x_then <| x_region <| x_b H [.m, .m] <| x_nil ?_
    refine x_then ?_
    replace H := H.pk [0, 1]
    replace H : Hs [] w0 _ [.blk g2 #[.bool false, .bool false, .bool false, .bool false, .bool false, .bool false] 104, .blk g1 #[.int .i64 7, .int .i64 rk, .int .i64 bk, .int .i64 ro, .int .i64 co, .int .i64 ch, .int .i64 bi, .int .i64 va] 39] := hsAs H (by kernel_rfl)
    exact ⟨4, (by omega), _, frm_of, H, (by omega), (by omega), (by omega), (by omega), (by omega), (by omega), (by omega)⟩
  · skip
    replace H : Hs [] w0 _ [.blk g2 #[.bool false, .bool false, .bool false, .bool false, .bool false, .bool false] 104, .blk g1 #[.int .i64 7, .int .i64 rk, .int .i64 bk, .int .i64 ro, .int .i64 co, .int .i64 ch, .int .i64 bi, .int .i64 va] 39] := hsAs H (by kernel_rfl)
    refine x_seq <| x_region <| x_b H [.m] <| x_nil <| x_then <| x_seq <| x_t (by kernel_rfl) ?_
    refine x_skipc <| x_then <| x_seq <| x_block <| x_seq <| x_region <| x_b H [.m, .m, .m, .m] ?_
    refine x_nil <| x_then <| x_seq <| x_region <| x_b H [.m, .m, .l 0 4] <| x_nil <| x_then ?_
    refine x_f (by kernel_rfl) <| x_seq <| x_region <| x_b H [.m, .v (.bool (!(decide (bi = 0))))] <| x_nil <| x_then ?_
    cases h6 : decide (bi = 0)
    · skip
      have h6p := of_decide_eq_false h6
      refine x_t (by kernel_rfl) <| x_seq <| x_region <| x_b H [.m, .m] <| x_nil <| x_then <| x_retc ?_
      refine x_blk_ret <| x_then_ret <| x_then_ret <| x_blk_ret <| x_then_ret <| x_ret (.tuple #[S ([] : List UInt8), .bool false]) (by kernel_rfl) (by kernel_rfl) ?_
      exact ⟨rfl, H.below⟩
    have h6p := of_decide_eq_true h6
    refine x_f (by kernel_rfl) <| x_skipc <| x_blk <| x_then <| x_region <| x_b H [.m, .m] <| x_nil ?_
    refine x_then ?_
    replace H := H.pk [0, 1]
    replace H : Hs [] w0 _ [.blk g2 #[.bool false, .bool false, .bool false, .bool false, .bool false, .bool false] 104, .blk g1 #[.int .i64 7, .int .i64 rk, .int .i64 bk, .int .i64 ro, .int .i64 co, .int .i64 ch, .int .i64 bi, .int .i64 va] 39] := hsAs H (by kernel_rfl)
    exact ⟨5, (by omega), _, frm_of, H, (by omega), (by omega), (by omega), (by omega), (by omega), (by omega), (by omega)⟩
  · skip
    replace H : Hs [] w0 _ [.blk g2 #[.bool false, .bool false, .bool false, .bool false, .bool false, .bool false] 104, .blk g1 #[.int .i64 7, .int .i64 rk, .int .i64 bk, .int .i64 ro, .int .i64 co, .int .i64 ch, .int .i64 bi, .int .i64 va] 39] := hsAs H (by kernel_rfl)
    refine x_seq <| x_region <| x_b H [.m] <| x_nil <| x_then <| x_seq <| x_t (by kernel_rfl) ?_
    refine x_skipc <| x_then <| x_seq <| x_block <| x_seq <| x_region <| x_b H [.m, .m, .m, .m] ?_
    refine x_nil <| x_then <| x_seq <| x_region <| x_b H [.m, .m, .l 0 5] <| x_nil <| x_then ?_
    refine x_f (by kernel_rfl) <| x_seq <| x_region <| x_b H [.m, .v (.bool (!(decide (va = 0))))] <| x_nil <| x_then ?_
    cases h7 : decide (va = 0)
    · skip
      have h7p := of_decide_eq_false h7
      refine x_t (by kernel_rfl) <| x_seq <| x_region <| x_b H [.m, .m] <| x_nil <| x_then <| x_retc ?_
      refine x_blk_ret <| x_then_ret <| x_then_ret <| x_blk_ret <| x_then_ret <| x_ret (.tuple #[S ([] : List UInt8), .bool false]) (by kernel_rfl) (by kernel_rfl) ?_
      exact ⟨rfl, H.below⟩
    have h7p := of_decide_eq_true h7
    refine x_f (by kernel_rfl) <| x_skipc <| x_blk <| x_then <| x_region <| x_b H [.m, .m] <| x_nil ?_
    refine x_then ?_
    replace H := H.pk [0, 1]
    replace H : Hs [] w0 _ [.blk g2 #[.bool false, .bool false, .bool false, .bool false, .bool false, .bool false] 104, .blk g1 #[.int .i64 7, .int .i64 rk, .int .i64 bk, .int .i64 ro, .int .i64 co, .int .i64 ch, .int .i64 bi, .int .i64 va] 39] := hsAs H (by kernel_rfl)
    exact ⟨6, (by omega), _, frm_of, H, (by omega), (by omega), (by omega), (by omega), (by omega), (by omega), (by omega)⟩
  · skip
    replace H : Hs [] w0 _ [.blk g2 #[.bool false, .bool false, .bool false, .bool false, .bool false, .bool false] 104, .blk g1 #[.int .i64 7, .int .i64 rk, .int .i64 bk, .int .i64 ro, .int .i64 co, .int .i64 ch, .int .i64 bi, .int .i64 va] 39] := hsAs H (by kernel_rfl)
    refine x_seq <| x_region <| x_b H [.m] <| x_nil <| x_then <| x_seq <| x_f (by kernel_rfl) ?_
    refine x_exit <| x_then_exit <| x_then_exit <| x_blk_exit <| x_then <| x_seq <| x_region ?_
    refine x_b H [.m, .m, .m] <| x_nil <| x_then <| x_retc <| x_ret (.tuple #[S (tB (faultB 7) []), .bool true]) (by kernel_rfl) (by kernel_rfl) ?_
    exfalso; exact hz (by omega)
set_option maxRecDepth 100000 in
set_option maxHeartbeats 4000000 in
theorem broken_lo {fk rk bk ro co ch bi va : Int} (hf : fk < 1) (w0 : World) :
    Calls Tryd.prog 36 #[.agg #[.int .i64 fk, .int .i64 rk, .int .i64 bk, .int .i64 ro, .int .i64 co, .int .i64 ch, .int .i64 bi, .int .i64 va]] w0 fun e w' => e = .returned (.tuple #[S [], .bool false]) ∧ Below w0.heap.size w0 w' := by
  refine z_enter Tryd.func36 rfl ?_
  have H := Hs.nil w0
  refine x_seq <| x_region <| z_box H #[.int .i64 fk, .int .i64 rk, .int .i64 bk, .int .i64 ro, .int .i64 co, .int .i64 ch, .int .i64 bi, .int .i64 va] 39 (fun v1 g1 H => ?_)
  refine x_b H [.m, .m] <| x_nil <| x_then <| x_seq <| x_seq <| x_region <| x_b H [.m, .l 0 0, .v (.bool (decide (fk < 1))), .v (.bool (decide (fk < 1)))] ?_
  cases h1 : decide (fk < 1)
  · skip
    have h1p := of_decide_eq_false h1
    exact absurd (by omega) h1p
  have h1p := of_decide_eq_true h1
  refine x_b H [.k, .k, .k, .m] <| x_nil <| x_then <| x_t (by kernel_rfl) <| x_seq <| x_region <| x_b H [.m, .m] ?_
  refine x_nil <| x_then <| x_retc <| x_then_ret <| x_ret (.tuple #[S ([] : List UInt8), .bool false]) (by kernel_rfl) (by kernel_rfl) ?_
  exact ⟨rfl, H.below⟩
set_option maxRecDepth 100000 in
set_option maxHeartbeats 4000000 in
theorem broken_hi {fk rk bk ro co ch bi va : Int} (hf : 7 < fk) (w0 : World) :
    Calls Tryd.prog 36 #[.agg #[.int .i64 fk, .int .i64 rk, .int .i64 bk, .int .i64 ro, .int .i64 co, .int .i64 ch, .int .i64 bi, .int .i64 va]] w0 fun e w' => e = .returned (.tuple #[S [], .bool false]) ∧ Below w0.heap.size w0 w' := by
  refine z_enter Tryd.func36 rfl ?_
  have H := Hs.nil w0
  refine x_seq <| x_region <| z_box H #[.int .i64 fk, .int .i64 rk, .int .i64 bk, .int .i64 ro, .int .i64 co, .int .i64 ch, .int .i64 bi, .int .i64 va] 39 (fun v1 g1 H => ?_)
  refine x_b H [.m, .m] <| x_nil <| x_then <| x_seq <| x_seq <| x_region <| x_b H [.m, .l 0 0, .v (.bool (decide (fk < 1))), .v (.bool (decide (fk < 1)))] ?_
  cases h1 : decide (fk < 1)
  · skip
    have h1p := of_decide_eq_false h1
    refine x_b H [.m, .l 0 0, .v (.bool (decide (7 < fk))), .v (.bool (decide (7 < fk)))] <| x_nil <| x_then ?_
    cases h2 : decide (7 < fk)
    · skip
      have h2p := of_decide_eq_false h2
      exact absurd (by omega) h2p
    have h2p := of_decide_eq_true h2
    refine x_t (by kernel_rfl) <| x_seq <| x_region <| x_b H [.m, .m] <| x_nil <| x_then <| x_retc ?_
    refine x_then_ret <| x_ret (.tuple #[S ([] : List UInt8), .bool false]) (by kernel_rfl) (by kernel_rfl) ?_
    exact ⟨rfl, H.below⟩
  have h1p := of_decide_eq_true h1
  exact absurd h1p (by omega)
end Go.Proofs.YtjbaabffilejeaaDoor
