/- A record's text, and the record of a text. -/
import Derived.Test.YtjbaabffilejeaaDoorDrA
import Derived.Test.YtjbaabffilejeaaDoorPxZ
namespace Go.Proofs.YtjbaabffilejeaaDoor
open Go Go.RowKit
set_option linter.unusedVariables false
set_option linter.unusedSimpArgs false

open Go.Lib (decDigits itoa)
def RightP (s t k i f : Int) : Prop := 1 ≤ s ∧ 0 ≤ t ∧ t ≤ 1099511627776 ∧ 1 ≤ k ∧ k ≤ 6 ∧ 0 ≤ i ∧ i ≤ 8388607 ∧ 0 ≤ f ∧ f ≤ 8388607
instance (s t k i f : Int) : Decidable (RightP s t k i f) := by unfold RightP; infer_instance
def join5 (s t k i f : Int) : List UInt8 := Lib.join [itoa s, itoa t, itoa k, itoa i, itoa f] [32]
theorem itoa_len {n : Int} (h0 : -9223372036854775808 ≤ n) (h1 : n ≤ 9223372036854775807) : (itoa n).length ≤ 22 := by
  unfold Lib.itoa; split
  · have := decLen64 (n := n.natAbs) (by omega); simp; omega
  · have := decLen64 (n := n.toNat) (by omega); omega
theorem join5_eq (s t k i f : Int) : join5 s t k i f = itoa s ++ [32] ++ itoa t ++ [32] ++ itoa k ++ [32] ++ itoa i ++ [32] ++ itoa f := by
  simp [join5, Lib.join, List.intercalate]
theorem join5_len {s t k i f : Int} (h : RightP s t k i f) (hs : s ≤ 9223372036854775807) : (join5 s t k i f).length ≤ 200 := by
  rw [join5_eq]
  obtain ⟨h1, h2, h3, h4, h5, h6, h7, h8, h9⟩ := h
  have a1 := itoa_len (n := s) (by omega) (by omega)
  have a2 := itoa_len (n := t) (by omega) (by omega)
  have a3 := itoa_len (n := k) (by omega) (by omega)
  have a4 := itoa_len (n := i) (by omega) (by omega)
  have a5 := itoa_len (n := f) (by omega) (by omega)
  simp only [List.length_append, List.length_cons, List.length_nil]; omega
/-- The number of the j-th word. -/
def rv (ws : List (List UInt8)) (j : Nat) : Int := match ws[j]? with | some x => atoiV x | none => 0
theorem rv_app (ws : List (List UInt8)) (x : List UInt8) (j : Nat) : rv (ws ++ [x]) j = if j = ws.length then atoiV x else rv ws j := by
  unfold rv
  by_cases h : j = ws.length
  · subst h; simp
  · rw [if_neg h]
    rcases Nat.lt_or_ge j ws.length with h1 | h1
    · rw [List.getElem?_append_left h1]
    · rw [List.getElem?_eq_none (by simp; omega), List.getElem?_eq_none h1]
theorem rv_nil (j : Nat) : rv [] j = 0 := by simp [rv]
theorem words_mem : ∀ {l : List UInt8} {x : List UInt8}, x ∈ words l → x.length ≤ l.length
  | [], x, h => by simp [words] at h; subst h; simp
  | c :: r, x, h => by
    unfold words at h
    split at h
    · simp only [List.mem_cons] at h
      rcases h with rfl | h
      · simp
      · have := words_mem h; simp; omega
    · have ih := fun y (hy : y ∈ words r) => words_mem hy
      revert h ih
      cases words r with
      | nil => intro h _; simp at h; subst h; simp
      | cons a b =>
        intro h ih
        simp only [List.mem_cons] at h
        rcases h with rfl | h
        · have := ih a (by simp); simp; omega
        · have := ih x (by simp [h]); simp; omega
theorem words_len : ∀ (l : List UInt8), (words l).length ≤ l.length + 1
  | [] => by simp [words]
  | c :: r => by
    have ih := words_len r
    unfold words
    split
    · simp; omega
    · revert ih
      cases words r with
      | nil => intro _; simp
      | cons a b => intro h; simp at h ⊢; omega
theorem pre_mem {pre xs : List (List UInt8)} {x : List UInt8} (h : pre ++ [x] <+: xs) : x ∈ xs ∧ pre.length < xs.length := by
  obtain ⟨r, rfl⟩ := h; simp
theorem join5_words (s t k i f : Int) : words (join5 s t k i f) = [itoa s, itoa t, itoa k, itoa i, itoa f] := words_join (by simp) (fun x hx => by
  simp only [List.mem_cons, List.not_mem_nil, or_false] at hx
  rcases hx with rfl | rfl | rfl | rfl | rfl <;> exact itoa_blank _)
theorem rv_join5 {s t k i f : Int} (h : RightP s t k i f) (hs : s ≤ 9223372036854775807) : rv (words (join5 s t k i f)) 0 = s ∧ rv (words (join5 s t k i f)) 1 = t ∧ rv (words (join5 s t k i f)) 2 = k ∧ rv (words (join5 s t k i f)) 3 = i ∧ rv (words (join5 s t k i f)) 4 = f := by
  obtain ⟨h1, h2, h3, h4, h5, h6, h7, h8, h9⟩ := h
  rw [join5_words]
  exact ⟨atoiV_itoa (by omega) (by omega), atoiV_itoa (by omega) (by omega), atoiV_itoa (by omega) (by omega), atoiV_itoa (by omega) (by omega), atoiV_itoa (by omega) (by omega)⟩

def In0 (n m : Int) : Prop := 0 ≤ n ∧ n ≤ m
instance (n m : Int) : Decidable (In0 n m) := by unfold In0; infer_instance
set_option maxRecDepth 100000 in
set_option maxHeartbeats 4000000 in
theorem within_of (n m : Int) (w0 : World) :
    Calls Tryd.prog 29 #[.int .i64 n, .int .i64 m] w0 fun e w' => e = .returned (.bool (decide (In0 n m))) ∧ Below w0.heap.size w0 w' := by
  refine z_enter Tryd.func29 rfl ?_
  have H := Hs.nil w0
  refine x_seq <| x_region <| x_b H [.m] <| x_nil <| x_then <| x_seq <| x_region ?_
  refine x_b H [.m, .v (.bool (decide (0 ≤ n))), .v (.bool (decide (0 ≤ n)))] ?_
  cases h1 : decide (0 ≤ n)
  · skip
    have h1p := of_decide_eq_false h1
    refine x_b H [.k, .k, .k, .m, .m] <| x_nil <| x_then <| x_retc <| x_ret (.bool false) (by kernel_rfl) (by kernel_rfl) ?_
    exact ⟨by rw [show decide (In0 n m) = (false) from decide_eq_false (by unfold In0; omega)], H.below⟩
  have h1p := of_decide_eq_true h1
  refine x_b H [.m, .m, .v (.bool (decide (n ≤ m))), .v (.bool (decide (n ≤ m))), .v (.bool (decide (n ≤ m)))] <| x_nil <| x_then <| x_retc <| x_ret (.bool (decide (n ≤ m))) (by kernel_rfl) (by kernel_rfl) ?_
  exact ⟨by rw [show decide (In0 n m) = (decide (n ≤ m)) from decide_eq_decide.2 (by unfold In0; omega)], H.below⟩

set_option maxRecDepth 100000 in
set_option maxHeartbeats 4000000 in
theorem Right_of {s t k i f : Int} (w0 : World) :
    Calls Tryd.prog 10 #[.agg #[.int .i64 s, .int .i64 t, .int .i64 k, .int .i64 i, .int .i64 f]] w0 fun e w' => e = .returned (.bool (decide (RightP s t k i f))) ∧ Below w0.heap.size w0 w' := by
  refine z_enter Tryd.func10 rfl ?_
  have H := Hs.nil w0
  refine x_seq <| x_region <| z_box H #[.int .i64 s, .int .i64 t, .int .i64 k, .int .i64 i, .int .i64 f] 23 (fun v1 g1 H => ?_)
  refine x_b H [.m] <| x_nil <| x_then <| x_seq <| x_region <| x_b H [.m, .l 0 0, .v (.bool (decide (1 ≤ s))), .v (.bool (decide (1 ≤ s)))] ?_
  cases h1 : decide (1 ≤ s)
  · skip
    have h1p := of_decide_eq_false h1
    refine x_b H [.k, .k, .k, .m, .m, .k, .k, .k, .m, .m, .k, .k, .k, .m, .m, .k, .k, .k, .m, .m, .k, .k, .k, .m, .m] <| x_nil <| x_then <| x_retc <| x_ret (.bool false) (by kernel_rfl) (by kernel_rfl) ?_
    exact ⟨by rw [show decide (RightP s t k i f) = (false) from decide_eq_false (by unfold RightP; omega)], H.below⟩
  have h1p := of_decide_eq_true h1
  refine x_b H [.m, .l 0 1] <| z_callB (v := .bool (decide (In0 t 1099511627776))) H (within_of t 1099511627776 _) fun v2 H => x_b H [.v (.bool (decide (In0 t 1099511627776))), .v (.bool (decide (In0 t 1099511627776)))] ?_
  cases h2 : decide (In0 t 1099511627776)
  · skip
    have h2p := of_decide_eq_false h2
    unfold In0 at h2p
    refine x_b H [.k, .k, .k, .m, .m, .k, .k, .k, .m, .m, .k, .k, .k, .m, .m, .k, .k, .k, .m, .m] <| x_nil <| x_then <| x_retc <| x_ret (.bool false) (by kernel_rfl) (by kernel_rfl) ?_
    exact ⟨by rw [show decide (RightP s t k i f) = (false) from decide_eq_false (by unfold RightP; omega)], H.below⟩
  have h2p := of_decide_eq_true h2
  unfold In0 at h2p
  refine x_b H [.m, .l 0 2, .v (.bool (decide (1 ≤ k))), .v (.bool (decide (1 ≤ k))), .v (.bool (decide (1 ≤ k)))] ?_
  cases h3 : decide (1 ≤ k)
  · skip
    have h3p := of_decide_eq_false h3
    refine x_b H [.k, .k, .k, .m, .m, .k, .k, .k, .m, .m, .k, .k, .k, .m, .m] <| x_nil <| x_then <| x_retc <| x_ret (.bool false) (by kernel_rfl) (by kernel_rfl) ?_
    exact ⟨by rw [show decide (RightP s t k i f) = (false) from decide_eq_false (by unfold RightP; omega)], H.below⟩
  have h3p := of_decide_eq_true h3
  refine x_b H [.m, .l 0 2, .v (.bool (decide (k ≤ 6))), .v (.bool (decide (k ≤ 6))), .v (.bool (decide (k ≤ 6)))] ?_
  cases h4 : decide (k ≤ 6)
  · skip
    have h4p := of_decide_eq_false h4
    refine x_b H [.k, .k, .k, .m, .m, .k, .k, .k, .m, .m] <| x_nil <| x_then <| x_retc <| x_ret (.bool false) (by kernel_rfl) (by kernel_rfl) ?_
    exact ⟨by rw [show decide (RightP s t k i f) = (false) from decide_eq_false (by unfold RightP; omega)], H.below⟩
  have h4p := of_decide_eq_true h4
  refine x_b H [.m, .l 0 3] <| z_callB (v := .bool (decide (In0 i 8388607))) H (within_of i 8388607 _) fun v3 H => x_b H [.v (.bool (decide (In0 i 8388607))), .v (.bool (decide (In0 i 8388607)))] ?_
  cases h5 : decide (In0 i 8388607)
  · skip
    have h5p := of_decide_eq_false h5
    unfold In0 at h5p
    refine x_b H [.k, .k, .k, .m, .m] <| x_nil <| x_then <| x_retc <| x_ret (.bool false) (by kernel_rfl) (by kernel_rfl) ?_
    exact ⟨by rw [show decide (RightP s t k i f) = (false) from decide_eq_false (by unfold RightP; omega)], H.below⟩
  have h5p := of_decide_eq_true h5
  unfold In0 at h5p
  refine x_b H [.m, .l 0 4] <| z_callB (v := .bool (decide (In0 f 8388607))) H (within_of f 8388607 _) fun v4 H => x_b H [.v (.bool (decide (In0 f 8388607))), .v (.bool (decide (In0 f 8388607)))] <| x_nil <| x_then <| x_retc <| x_ret (.bool (decide (In0 f 8388607))) (by kernel_rfl) (by kernel_rfl) ?_
  exact ⟨by rw [show decide (RightP s t k i f) = (decide (In0 f 8388607)) from decide_eq_decide.2 (by unfold RightP In0; omega)], H.below⟩

theorem Right_yes {s t k i f : Int} (h : RightP s t k i f) (w : World) : Calls Tryd.prog 10 #[.agg #[.int .i64 s, .int .i64 t, .int .i64 k, .int .i64 i, .int .i64 f]] w fun e w' => e = .returned (.bool true) ∧ Below w.heap.size w w' := by
  have q := Right_of (s := s) (t := t) (k := k) (i := i) (f := f) w
  rwa [decide_eq_true h] at q

theorem Right_no {s t k i f : Int} (h : ¬ RightP s t k i f) (w : World) : Calls Tryd.prog 10 #[.agg #[.int .i64 s, .int .i64 t, .int .i64 k, .int .i64 i, .int .i64 f]] w fun e w' => e = .returned (.bool false) ∧ Below w.heap.size w w' := by
  have q := Right_of (s := s) (t := t) (k := k) (i := i) (f := f) w
  rwa [decide_eq_false h] at q

set_option maxRecDepth 100000 in
set_option maxHeartbeats 4000000 in
theorem RefRight_of {s t k i f : Int} (w0 : World) :
    Calls Tryd.prog 11 #[.agg #[.int .i64 s, .int .i64 t, .int .i64 k, .int .i64 i, .int .i64 f]] w0 fun e w' => e = .returned (.bool (decide (RightP s t k i f))) ∧ Below w0.heap.size w0 w' := by
  refine z_enter Tryd.func11 rfl ?_
  have H := Hs.nil w0
  refine x_seq <| x_region <| z_box H #[.int .i64 s, .int .i64 t, .int .i64 k, .int .i64 i, .int .i64 f] 25 (fun v1 g1 H => ?_)
  refine x_b H [.m] <| x_nil <| x_then <| x_seq <| x_region <| x_b H [.m, .l 0 0, .v (.bool (decide (1 ≤ s))), .v (.bool (decide (1 ≤ s)))] ?_
  cases h1 : decide (1 ≤ s)
  · skip
    have h1p := of_decide_eq_false h1
    refine x_b H [.k, .k, .k, .m, .m, .k, .k, .k, .m, .m, .k, .k, .k, .m, .m, .k, .k, .k, .m, .m, .k, .k, .k, .m, .m, .k, .k, .k, .m, .m, .k, .k, .k, .m, .m, .k, .k, .k, .m, .m] <| x_nil <| z_fr 46 [(2, .bool false)] [] fun uf1 => x_then <| x_retc <| x_ret (.bool false) (by kernel_rfl) (by kernel_rfl) ?_
    exact ⟨by rw [show decide (RightP s t k i f) = (false) from decide_eq_false (by unfold RightP; omega)], H.below⟩
  have h1p := of_decide_eq_true h1
  refine x_b H [.m, .l 0 1, .v (.bool (decide (0 ≤ t))), .v (.bool (decide (0 ≤ t))), .v (.bool (decide (0 ≤ t)))] ?_
  cases h2 : decide (0 ≤ t)
  · skip
    have h2p := of_decide_eq_false h2
    refine x_b H [.k, .k, .k, .m, .m, .k, .k, .k, .m, .m, .k, .k, .k, .m, .m, .k, .k, .k, .m, .m, .k, .k, .k, .m, .m, .k, .k, .k, .m, .m, .k, .k, .k, .m, .m] <| x_nil <| z_fr 46 [(2, .bool false)] [] fun uf2 => x_then <| x_retc <| x_ret (.bool false) (by kernel_rfl) (by kernel_rfl) ?_
    exact ⟨by rw [show decide (RightP s t k i f) = (false) from decide_eq_false (by unfold RightP; omega)], H.below⟩
  have h2p := of_decide_eq_true h2
  refine x_b H [.m, .l 0 1, .v (.bool (decide (t ≤ 1099511627776))), .v (.bool (decide (t ≤ 1099511627776))), .v (.bool (decide (t ≤ 1099511627776)))] ?_
  cases h3 : decide (t ≤ 1099511627776)
  · skip
    have h3p := of_decide_eq_false h3
    refine x_b H [.k, .k, .k, .m, .m, .k, .k, .k, .m, .m, .k, .k, .k, .m, .m, .k, .k, .k, .m, .m, .k, .k, .k, .m, .m, .k, .k, .k, .m, .m] <| x_nil <| z_fr 46 [(2, .bool false)] [] fun uf3 => x_then <| x_retc <| x_ret (.bool false) (by kernel_rfl) (by kernel_rfl) ?_
    exact ⟨by rw [show decide (RightP s t k i f) = (false) from decide_eq_false (by unfold RightP; omega)], H.below⟩
  have h3p := of_decide_eq_true h3
  refine x_b H [.m, .l 0 2, .v (.bool (decide (1 ≤ k))), .v (.bool (decide (1 ≤ k))), .v (.bool (decide (1 ≤ k)))] ?_
  cases h4 : decide (1 ≤ k)
  · skip
    have h4p := of_decide_eq_false h4
    refine x_b H [.k, .k, .k, .m, .m, .k, .k, .k, .m, .m, .k, .k, .k, .m, .m, .k, .k, .k, .m, .m, .k, .k, .k, .m, .m] <| x_nil <| z_fr 46 [(2, .bool false)] [] fun uf4 => x_then <| x_retc <| x_ret (.bool false) (by kernel_rfl) (by kernel_rfl) ?_
    exact ⟨by rw [show decide (RightP s t k i f) = (false) from decide_eq_false (by unfold RightP; omega)], H.below⟩
  have h4p := of_decide_eq_true h4
  refine x_b H [.m, .l 0 2, .v (.bool (decide (k ≤ 6))), .v (.bool (decide (k ≤ 6))), .v (.bool (decide (k ≤ 6)))] ?_
  cases h5 : decide (k ≤ 6)
  · skip
    have h5p := of_decide_eq_false h5
    refine x_b H [.k, .k, .k, .m, .m, .k, .k, .k, .m, .m, .k, .k, .k, .m, .m, .k, .k, .k, .m, .m] <| x_nil <| z_fr 46 [(2, .bool false)] [] fun uf5 => x_then <| x_retc <| x_ret (.bool false) (by kernel_rfl) (by kernel_rfl) ?_
    exact ⟨by rw [show decide (RightP s t k i f) = (false) from decide_eq_false (by unfold RightP; omega)], H.below⟩
  have h5p := of_decide_eq_true h5
  refine x_b H [.m, .l 0 3, .v (.bool (decide (0 ≤ i))), .v (.bool (decide (0 ≤ i))), .v (.bool (decide (0 ≤ i)))] ?_
  cases h6 : decide (0 ≤ i)
  · skip
    have h6p := of_decide_eq_false h6
    refine x_b H [.k, .k, .k, .m, .m, .k, .k, .k, .m, .m, .k, .k, .k, .m, .m] <| x_nil <| z_fr 46 [(2, .bool false)] [] fun uf6 => x_then <| x_retc <| x_ret (.bool false) (by kernel_rfl) (by kernel_rfl) ?_
    exact ⟨by rw [show decide (RightP s t k i f) = (false) from decide_eq_false (by unfold RightP; omega)], H.below⟩
  have h6p := of_decide_eq_true h6
  refine x_b H [.m, .l 0 3, .v (.bool (decide (i ≤ 8388607))), .v (.bool (decide (i ≤ 8388607))), .v (.bool (decide (i ≤ 8388607)))] ?_
  cases h7 : decide (i ≤ 8388607)
  · skip
    have h7p := of_decide_eq_false h7
    refine x_b H [.k, .k, .k, .m, .m, .k, .k, .k, .m, .m] <| x_nil <| z_fr 46 [(2, .bool false)] [] fun uf7 => x_then <| x_retc <| x_ret (.bool false) (by kernel_rfl) (by kernel_rfl) ?_
    exact ⟨by rw [show decide (RightP s t k i f) = (false) from decide_eq_false (by unfold RightP; omega)], H.below⟩
  have h7p := of_decide_eq_true h7
  refine x_b H [.m, .l 0 4, .v (.bool (decide (0 ≤ f))), .v (.bool (decide (0 ≤ f))), .v (.bool (decide (0 ≤ f)))] ?_
  cases h8 : decide (0 ≤ f)
  · skip
    have h8p := of_decide_eq_false h8
    refine x_b H [.k, .k, .k, .m, .m] <| x_nil <| z_fr 46 [(2, .bool false)] [] fun uf8 => x_then <| x_retc <| x_ret (.bool false) (by kernel_rfl) (by kernel_rfl) ?_
    exact ⟨by rw [show decide (RightP s t k i f) = (false) from decide_eq_false (by unfold RightP; omega)], H.below⟩
  have h8p := of_decide_eq_true h8
  refine x_b H [.m, .l 0 4, .v (.bool (decide (f ≤ 8388607))), .v (.bool (decide (f ≤ 8388607))), .v (.bool (decide (f ≤ 8388607)))] <| x_nil <| z_fr 46 [(2, .bool (decide (f ≤ 8388607)))] [] fun uf9 => x_then <| x_retc <| x_ret (.bool (decide (f ≤ 8388607))) (by kernel_rfl) (by kernel_rfl) ?_
  exact ⟨by rw [show decide (RightP s t k i f) = (decide (f ≤ 8388607)) from decide_eq_decide.2 (by unfold RightP; omega)], H.below⟩

theorem RefRight_yes {s t k i f : Int} (h : RightP s t k i f) (w : World) : Calls Tryd.prog 11 #[.agg #[.int .i64 s, .int .i64 t, .int .i64 k, .int .i64 i, .int .i64 f]] w fun e w' => e = .returned (.bool true) ∧ Below w.heap.size w w' := by
  have q := RefRight_of (s := s) (t := t) (k := k) (i := i) (f := f) w
  rwa [decide_eq_true h] at q

theorem RefRight_no {s t k i f : Int} (h : ¬ RightP s t k i f) (w : World) : Calls Tryd.prog 11 #[.agg #[.int .i64 s, .int .i64 t, .int .i64 k, .int .i64 i, .int .i64 f]] w fun e w' => e = .returned (.bool false) ∧ Below w.heap.size w w' := by
  have q := RefRight_of (s := s) (t := t) (k := k) (i := i) (f := f) w
  rwa [decide_eq_false h] at q

set_option maxRecDepth 100000 in
set_option maxHeartbeats 4000000 in
theorem numbers_of (g : Nat) (w0 : World) :
    Calls Tryd.prog 26 #[.pointer (some ⟨g, 0, none⟩)] w0 fun e w' => e = .returned (.agg #[.pointer (some ⟨g, 0, none⟩), .pointer (some ⟨g, 1, none⟩), .pointer (some ⟨g, 2, none⟩), .pointer (some ⟨g, 3, none⟩), .pointer (some ⟨g, 4, none⟩)]) ∧ Below w0.heap.size w0 w' := by
  refine z_enter Tryd.func26 rfl ?_
  have H := Hs.nil w0
  refine x_seq <| x_region <| z_box H #[.pointer none, .pointer none, .pointer none, .pointer none, .pointer none] 62 (fun v1 g1 H => ?_)
  refine x_nil <| x_then <| x_seq <| z_region_head H 16 ?_
  simp only [List.take_succ_cons, List.take_zero, List.drop_succ_cons, List.drop_zero]
  refine q_b [.m, .m, .m, .m, .m, .m, .m, .m, .m, .m, .m, .m, .m, .m, .m, .m] <| q_nil ?_
  clear H
  intro v2 H
  refine z_store H 0 0 [.pointer (some ⟨g, 0, none⟩), .pointer (some ⟨g, 1, none⟩), .pointer (some ⟨g, 2, none⟩), .pointer (some ⟨g, 3, none⟩), .pointer (some ⟨g, 4, none⟩)] (fun v3 H => ?_)
  refine x_nil <| x_then <| x_retc <| x_ret (.agg #[.pointer (some ⟨g, 0, none⟩), .pointer (some ⟨g, 1, none⟩), .pointer (some ⟨g, 2, none⟩), .pointer (some ⟨g, 3, none⟩), .pointer (some ⟨g, 4, none⟩)]) (by kernel_rfl) (x_rescell H 0 g1 0 #[.pointer (some ⟨g, 0, none⟩), .pointer (some ⟨g, 1, none⟩), .pointer (some ⟨g, 2, none⟩), .pointer (some ⟨g, 3, none⟩), .pointer (some ⟨g, 4, none⟩)] 62 [.pointer (some ⟨g, 0, none⟩), .pointer (some ⟨g, 1, none⟩), .pointer (some ⟨g, 2, none⟩), .pointer (some ⟨g, 3, none⟩), .pointer (some ⟨g, 4, none⟩)] (fun x => x) (by kernel_rfl) (by kernel_rfl) (by kernel_rfl)) ?_
  exact ⟨rfl, H.below⟩

set_option maxRecDepth 100000 in
set_option maxHeartbeats 4000000 in
theorem Show_yes {s t k i f : Int} (hr : RightP s t k i f) (hs : s ≤ 9223372036854775807) (w0 : World) (hE : Env w0) :
    Calls Tryd.prog 9 #[.agg #[.int .i64 s, .int .i64 t, .int .i64 k, .int .i64 i, .int .i64 f]] w0 fun e w' => e = .returned (.tuple #[S (join5 s t k i f), .int .i64 0]) ∧ Below w0.heap.size w0 w' := by
  refine z_enter Tryd.func9 rfl ?_
  have H := Hs.nil w0
  have hM := nilM
  have hrr := hr
  unfold RightP at hrr
  refine x_seq <| x_region <| z_box H #[.int .i64 s, .int .i64 t, .int .i64 k, .int .i64 i, .int .i64 f] 23 (fun v1 g1 H => ?_)
  refine x_b H [.m, .m] <| x_nil <| x_then <| x_seq <| x_seq <| x_region <| x_b H [.n 0 0 5 23] ?_
  refine z_callB H (Right_yes hr _) fun v2 H => x_b H [.m] <| x_nil <| x_then <| x_f (by kernel_rfl) <| x_skipc <| x_then ?_
  refine x_seq <| x_region <| x_b H [.m] <| x_nil <| x_then <| x_seq <| x_seq ?_
  refine x_region <| z_callB H (numbers_of g1 _) fun v3 H => x_b H [.m] <| x_nil <| x_then <| x_block ?_
  replace H := H.nilRow 9 1
  replace H : Hs [] w0 _ [.blk g1 #[.int .i64 s, .int .i64 t, .int .i64 k, .int .i64 i, .int .i64 f] 23, .row (.slice none 0 0) 9 1 0 (List.map S (List.take 0 [itoa s, itoa t, itoa k, itoa i, itoa f]))] := H.pick [1, 0] _ (by decide) (by kernel_rfl)
  refine x_loop (G := Nat × Value) (fun gh a w' => match gh with | (c, sv) => ∃ uf1 : Nat → Value, a = frm 24 uf1 [(4, sv), (10, .agg #[.pointer (some ⟨g1, 0, none⟩), .pointer (some ⟨g1, 1, none⟩), .pointer (some ⟨g1, 2, none⟩), .pointer (some ⟨g1, 3, none⟩), .pointer (some ⟨g1, 4, none⟩)]), (11, .int .i64 (c : Int))] [] ∧ Hs [] w0 w' [.blk g1 #[.int .i64 s, .int .i64 t, .int .i64 k, .int .i64 i, .int .i64 f] 23, .row (sv) 9 1 c (List.map S (List.take c [itoa s, itoa t, itoa k, itoa i, itoa f]))] ∧ (c ≤ 5)) (fun gh => match gh with | (c, sv) => 5 - c) (0, .slice none 0 0) ⟨_, frm_of, H, (Nat.zero_le _)⟩ ?_
  clear H
  rintro ⟨c, sv⟩ _ v4 ⟨uf1, rfl, H, r1⟩
  rcases (show c = 0 ∨ c = 1 ∨ c = 2 ∨ c = 3 ∨ c = 4 ∨ c = 5 by omega) with rfl | rfl | rfl | rfl | rfl | rfl
  · skip
    refine x_seq <| x_region <| x_b H [.m] <| x_nil <| x_then <| x_seq <| x_t (by kernel_rfl) ?_
    refine x_skipc <| x_then <| x_seq <| x_block <| x_seq <| x_region <| x_b H [.m, .m] ?_
    refine x_nil <| x_then <| x_region <| x_b H [.m, .m, .m, .l 0 0] <| z_callB (v := S (itoa s)) H (Itoa_of (by omega) (by omega) (hE.on hM H)) fun v5 H => x_box' H #[S (itoa s)] 9 1 (by kernel_rfl) rfl (by kernel_rfl) ?_
    clear H
    intro v6 g2 H
    refine x_append H 2 (sv) 60 9 1 16 0 (S ([] : List UInt8)) (List.map S (List.take 0 [itoa s, itoa t, itoa k, itoa i, itoa f])) ⟨g2, 0, none⟩ 1 1 [S (itoa s)] rfl (by kernel_rfl) (by kernel_rfl) rfl (by decide) (by decide) rfl (fun j u hj => by rw [add_none]; exact cellOf (H.blk 0 rfl) (by simpa using hj)) (List.all_eq_true.1 (by kernel_rfl)) (by unfold maxLen; omega) (by omega) (by kernel_rfl) rfl (by kernel_rfl) ?_
    clear H
    intro v7 g3 c3 hc3 H
    rw [show (List.map S (List.take 0 [itoa s, itoa t, itoa k, itoa i, itoa f])) ++ [S (itoa s)] = (List.map S (List.take 1 [itoa s, itoa t, itoa k, itoa i, itoa f])) from rfl] at H
    replace H := H.pk [1, 2]
    refine x_b H [.m] <| x_nil <| x_blk <| x_then <| x_region <| x_b H [.m, .m] <| x_nil ?_
    refine x_then ?_
    replace H := H.pk [0, 1]
    exact ⟨(1, .slice (some ⟨g3, 0, none⟩) 1 c3), (by dsimp only; omega), _, frm_of, H, (by omega)⟩
  · skip
    refine x_seq <| x_region <| x_b H [.m] <| x_nil <| x_then <| x_seq <| x_t (by kernel_rfl) ?_
    refine x_skipc <| x_then <| x_seq <| x_block <| x_seq <| x_region <| x_b H [.m, .m] ?_
    refine x_nil <| x_then <| x_region <| x_b H [.m, .m, .m, .l 0 1] <| z_callB (v := S (itoa t)) H (Itoa_of (by omega) (by omega) (hE.on hM H)) fun v8 H => x_box' H #[S (itoa t)] 9 1 (by kernel_rfl) rfl (by kernel_rfl) ?_
    clear H
    intro v9 g4 H
    refine x_append H 2 (sv) 60 9 1 16 1 (S ([] : List UInt8)) (List.map S (List.take 1 [itoa s, itoa t, itoa k, itoa i, itoa f])) ⟨g4, 0, none⟩ 1 1 [S (itoa t)] rfl (by kernel_rfl) (by kernel_rfl) rfl (by decide) (by decide) rfl (fun j u hj => by rw [add_none]; exact cellOf (H.blk 0 rfl) (by simpa using hj)) (List.all_eq_true.1 (by kernel_rfl)) (by unfold maxLen; omega) (by omega) (by kernel_rfl) rfl (by kernel_rfl) ?_
    clear H
    intro v10 g5 c5 hc5 H
    rw [show (List.map S (List.take 1 [itoa s, itoa t, itoa k, itoa i, itoa f])) ++ [S (itoa t)] = (List.map S (List.take 2 [itoa s, itoa t, itoa k, itoa i, itoa f])) from rfl] at H
    replace H := H.pk [1, 2]
    refine x_b H [.m] <| x_nil <| x_blk <| x_then <| x_region <| x_b H [.m, .m] <| x_nil ?_
    refine x_then ?_
    replace H := H.pk [0, 1]
    exact ⟨(2, .slice (some ⟨g5, 0, none⟩) 2 c5), (by dsimp only; omega), _, frm_of, H, (by omega)⟩
  · skip
    refine x_seq <| x_region <| x_b H [.m] <| x_nil <| x_then <| x_seq <| x_t (by kernel_rfl) ?_
    refine x_skipc <| x_then <| x_seq <| x_block <| x_seq <| x_region <| x_b H [.m, .m] ?_
    refine x_nil <| x_then <| x_region <| x_b H [.m, .m, .m, .l 0 2] <| z_callB (v := S (itoa k)) H (Itoa_of (by omega) (by omega) (hE.on hM H)) fun v11 H => x_box' H #[S (itoa k)] 9 1 (by kernel_rfl) rfl (by kernel_rfl) ?_
    clear H
    intro v12 g6 H
    refine x_append H 2 (sv) 60 9 1 16 2 (S ([] : List UInt8)) (List.map S (List.take 2 [itoa s, itoa t, itoa k, itoa i, itoa f])) ⟨g6, 0, none⟩ 1 1 [S (itoa k)] rfl (by kernel_rfl) (by kernel_rfl) rfl (by decide) (by decide) rfl (fun j u hj => by rw [add_none]; exact cellOf (H.blk 0 rfl) (by simpa using hj)) (List.all_eq_true.1 (by kernel_rfl)) (by unfold maxLen; omega) (by omega) (by kernel_rfl) rfl (by kernel_rfl) ?_
    clear H
    intro v13 g7 c7 hc7 H
    rw [show (List.map S (List.take 2 [itoa s, itoa t, itoa k, itoa i, itoa f])) ++ [S (itoa k)] = (List.map S (List.take 3 [itoa s, itoa t, itoa k, itoa i, itoa f])) from rfl] at H
    replace H := H.pk [1, 2]
    refine x_b H [.m] <| x_nil <| x_blk <| x_then <| x_region <| x_b H [.m, .m] <| x_nil ?_
    refine x_then ?_
    replace H := H.pk [0, 1]
    exact ⟨(3, .slice (some ⟨g7, 0, none⟩) 3 c7), (by dsimp only; omega), _, frm_of, H, (by omega)⟩
  · skip
    refine x_seq <| x_region <| x_b H [.m] <| x_nil <| x_then <| x_seq <| x_t (by kernel_rfl) ?_
    refine x_skipc <| x_then <| x_seq <| x_block <| x_seq <| x_region <| x_b H [.m, .m] ?_
    refine x_nil <| x_then <| x_region <| x_b H [.m, .m, .m, .l 0 3] <| z_callB (v := S (itoa i)) H (Itoa_of (by omega) (by omega) (hE.on hM H)) fun v14 H => x_box' H #[S (itoa i)] 9 1 (by kernel_rfl) rfl (by kernel_rfl) ?_
    clear H
    intro v15 g8 H
    refine x_append H 2 (sv) 60 9 1 16 3 (S ([] : List UInt8)) (List.map S (List.take 3 [itoa s, itoa t, itoa k, itoa i, itoa f])) ⟨g8, 0, none⟩ 1 1 [S (itoa i)] rfl (by kernel_rfl) (by kernel_rfl) rfl (by decide) (by decide) rfl (fun j u hj => by rw [add_none]; exact cellOf (H.blk 0 rfl) (by simpa using hj)) (List.all_eq_true.1 (by kernel_rfl)) (by unfold maxLen; omega) (by omega) (by kernel_rfl) rfl (by kernel_rfl) ?_
    clear H
    intro v16 g9 c9 hc9 H
    rw [show (List.map S (List.take 3 [itoa s, itoa t, itoa k, itoa i, itoa f])) ++ [S (itoa i)] = (List.map S (List.take 4 [itoa s, itoa t, itoa k, itoa i, itoa f])) from rfl] at H
    replace H := H.pk [1, 2]
    refine x_b H [.m] <| x_nil <| x_blk <| x_then <| x_region <| x_b H [.m, .m] <| x_nil ?_
    refine x_then ?_
    replace H := H.pk [0, 1]
    exact ⟨(4, .slice (some ⟨g9, 0, none⟩) 4 c9), (by dsimp only; omega), _, frm_of, H, (by omega)⟩
  · skip
    refine x_seq <| x_region <| x_b H [.m] <| x_nil <| x_then <| x_seq <| x_t (by kernel_rfl) ?_
    refine x_skipc <| x_then <| x_seq <| x_block <| x_seq <| x_region <| x_b H [.m, .m] ?_
    refine x_nil <| x_then <| x_region <| x_b H [.m, .m, .m, .l 0 4] <| z_callB (v := S (itoa f)) H (Itoa_of (by omega) (by omega) (hE.on hM H)) fun v17 H => x_box' H #[S (itoa f)] 9 1 (by kernel_rfl) rfl (by kernel_rfl) ?_
    clear H
    intro v18 g10 H
    refine x_append H 2 (sv) 60 9 1 16 4 (S ([] : List UInt8)) (List.map S (List.take 4 [itoa s, itoa t, itoa k, itoa i, itoa f])) ⟨g10, 0, none⟩ 1 1 [S (itoa f)] rfl (by kernel_rfl) (by kernel_rfl) rfl (by decide) (by decide) rfl (fun j u hj => by rw [add_none]; exact cellOf (H.blk 0 rfl) (by simpa using hj)) (List.all_eq_true.1 (by kernel_rfl)) (by unfold maxLen; omega) (by omega) (by kernel_rfl) rfl (by kernel_rfl) ?_
    clear H
    intro v19 g11 c11 hc11 H
    rw [show (List.map S (List.take 4 [itoa s, itoa t, itoa k, itoa i, itoa f])) ++ [S (itoa f)] = (List.map S (List.take 5 [itoa s, itoa t, itoa k, itoa i, itoa f])) from rfl] at H
    replace H := H.pk [1, 2]
    refine x_b H [.m] <| x_nil <| x_blk <| x_then <| x_region <| x_b H [.m, .m] <| x_nil ?_
    refine x_then ?_
    replace H := H.pk [0, 1]
    exact ⟨(5, .slice (some ⟨g11, 0, none⟩) 5 c11), (by dsimp only; omega), _, frm_of, H, (by omega)⟩
  · skip
    refine x_seq <| x_region <| x_b H [.m] <| x_nil <| x_then <| x_seq <| x_f (by kernel_rfl) ?_
    refine x_exit <| x_then_exit <| x_then_exit <| x_blk_exit <| x_then <| x_seq <| x_region ?_
    refine x_b H [.m] ?_
    rcases H.rowForm 1 rfl with ⟨rfl, hf0⟩ | ⟨gf1, cf1, rfl, hcf1, -⟩
    · exfalso; omega
    refine z_callB H (Join_of [itoa s, itoa t, itoa k, itoa i, itoa f] (H.ok 1 _ rfl) (Nat.le_trans (join5_len hr hs) (by decide)) (by simp)) fun v20 H => x_b H [.m, .m] <| x_nil <| x_then <| x_retc <| x_ret (.tuple #[S (join5 s t k i f), .int .i64 0]) (by kernel_rfl) (by kernel_rfl) ?_
    exact ⟨rfl, H.below⟩

set_option maxRecDepth 100000 in
set_option maxHeartbeats 4000000 in
theorem Show_no {s t k i f : Int} (hr : ¬ RightP s t k i f) (w0 : World) :
    Calls Tryd.prog 9 #[.agg #[.int .i64 s, .int .i64 t, .int .i64 k, .int .i64 i, .int .i64 f]] w0 fun e w' => e = .returned (.tuple #[S [], .int .i64 10]) ∧ Below w0.heap.size w0 w' := by
  refine z_enter Tryd.func9 rfl ?_
  have H := Hs.nil w0
  refine x_seq <| x_region <| z_box H #[.int .i64 s, .int .i64 t, .int .i64 k, .int .i64 i, .int .i64 f] 23 (fun v1 g1 H => ?_)
  refine x_b H [.m, .m] <| x_nil <| x_then <| x_seq <| x_seq <| x_region <| x_b H [.n 0 0 5 23] ?_
  refine z_callB H (Right_no hr _) fun v2 H => x_b H [.m] <| x_nil <| x_then <| x_t (by kernel_rfl) <| x_seq <| x_region ?_
  refine x_b H [.m, .m] <| x_nil <| x_then <| x_retc <| x_then_ret <| x_ret (.tuple #[S ([] : List UInt8), .int .i64 10]) (by kernel_rfl) (by kernel_rfl) ?_
  exact ⟨rfl, H.below⟩

set_option maxRecDepth 100000 in
set_option maxHeartbeats 4000000 in
theorem Read_yes {l : List UInt8} (hl : l.length ≤ 100000) (hr : RightP (rv (words l) 0) (rv (words l) 1) (rv (words l) 2) (rv (words l) 3) (rv (words l) 4)) (hj : join5 (rv (words l) 0) (rv (words l) 1) (rv (words l) 2) (rv (words l) 3) (rv (words l) 4) = l) (hs : rv (words l) 0 ≤ 9223372036854775807) (w0 : World) (hE : Env w0) :
    Calls Tryd.prog 13 #[S l] w0 fun e w' => e = .returned (.tuple #[.agg #[.int .i64 (rv (words l) 0), .int .i64 (rv (words l) 1), .int .i64 (rv (words l) 2), .int .i64 (rv (words l) 3), .int .i64 (rv (words l) 4)], .int .i64 0]) ∧ Below w0.heap.size w0 w' := by
  refine x_enterM Tryd.func13 rfl #[S l, undef, undef, undef, undef, undef, undef, undef, undef, undef, undef, undef, undef, undef, undef, undef, undef, undef, undef, undef, undef, undef, undef, undef, undef, undef, undef, undef, undef, undef, undef, undef, undef, undef, undef, undef, undef, undef, undef, undef, undef] (by kernel_rfl) ?_
  have H := Hs.nil w0
  have hM := nilM
  refine x_seq <| x_region <| z_box H #[.int .i64 0, .int .i64 0, .int .i64 0, .int .i64 0, .int .i64 0] 23 (fun v1 g1 H => ?_)
  refine x_b H [.m] <| x_nil <| x_then <| x_seq <| x_region <| z_box H #[.int .i64 0, .int .i64 0, .int .i64 0, .int .i64 0, .int .i64 0] 23 (fun v2 g2 H => ?_)
  refine x_nil <| x_then <| x_seq <| x_region <| z_callB H (numbers_of g2 _) fun v3 H => z_box H #[.pointer none, .pointer none, .pointer none, .pointer none, .pointer none] 62 (fun v4 g3 H => ?_)
  refine z_store H 0 0 [.pointer (some ⟨g2, 0, none⟩), .pointer (some ⟨g2, 1, none⟩), .pointer (some ⟨g2, 2, none⟩), .pointer (some ⟨g2, 3, none⟩), .pointer (some ⟨g2, 4, none⟩)] (fun v5 H => ?_)
  refine x_nil <| x_then <| x_seq <| x_region <| z_box H #[.int .i64 0] 3 (fun v6 g4 H => ?_)
  refine z_store H 0 0 [.int .i64 0] (fun v7 H => ?_)
  refine x_nil <| x_then <| x_seq <| x_seq <| x_region <| x_b H [.m] <| z_call (SplitSeq_of l _) ?_
  rintro _ v8 ⟨qs, q, qn, rfl, hN'⟩
  refine ⟨_, rfl, ?_⟩
  replace H := H.more hN'
  clear hN'
  refine x_nil <| x_then <| x_block ?_
  replace H := H.pk [3, 5, 4, 6, 0, 1, 2]
  refine x_rangeQ (α := List UInt8) (G := Nat × Int × Int × Int × Int × Int) (words l) (fun x => #[S x]) q #[S l] 9 [.blk qs #[S ([32] : List UInt8)] 9, .blk qn #[.int .i64 0] 3] (fun pre gh => match gh with | (c, a0, a1, a2, a3, a4) => c = List.length pre ∧ a0 = rv pre 0 ∧ a1 = rv pre 1 ∧ a2 = rv pre 2 ∧ a3 = rv pre 3 ∧ a4 = rv pre 4) (fun pre gh => match gh with | (c, a0, a1, a2, a3, a4) => [.blk g4 #[.int .i64 (c : Int)] 3, .blk g2 #[.int .i64 a0, .int .i64 a1, .int .i64 a2, .int .i64 a3, .int .i64 a4] 23, .blk g3 #[.pointer (some ⟨g2, 0, none⟩), .pointer (some ⟨g2, 1, none⟩), .pointer (some ⟨g2, 2, none⟩), .pointer (some ⟨g2, 3, none⟩), .pointer (some ⟨g2, 4, none⟩)] 62, .blk g1 #[.int .i64 0, .int .i64 0, .int .i64 0, .int .i64 0, .int .i64 0] 23]) (fun cd pre gh => match gh with | (c, a0, a1, a2, a3, a4) => False) (fun x => { tmps := #[S l, undef, .pointer (some ⟨g1, 0, none⟩), .int .i64 0, .pointer (some ⟨g2, 0, none⟩), .pointer (some ⟨g3, 0, none⟩), .pointer (some ⟨g4, 0, none⟩), S x, undef, undef, .agg #[.pointer (some ⟨g2, 0, none⟩), .pointer (some ⟨g2, 1, none⟩), .pointer (some ⟨g2, 2, none⟩), .pointer (some ⟨g2, 3, none⟩), .pointer (some ⟨g2, 4, none⟩)], S l, .func (.func 71) #[] #[.pointer (some ⟨qs, 0, none⟩), .pointer (some ⟨q, 0, none⟩), .pointer (some ⟨qn, 0, none⟩)], S x, undef, undef, undef, undef, undef, undef, undef, undef, undef, undef, undef, undef, undef, undef, undef, undef, undef, undef, undef, undef, undef, undef, undef, undef, undef, undef, undef], defers := [] }) (0, 0, 0, 0, 0, 0) (by kernel_rfl) (enters_of Tryd.func71 (by kernel_rfl) rfl) (split_it hl _ (H.pk [4, 5, 6])) (fun _ => rfl) (by kernel_rfl) (by rintro _ ⟨c, a0, a1, a2, a3, a4⟩; rfl) (show Hs [] w0 _ ([.blk g4 #[.int .i64 ((0 : Nat) : Int)] 3, .blk g2 #[.int .i64 0, .int .i64 0, .int .i64 0, .int .i64 0, .int .i64 0] 23, .blk g3 #[.pointer (some ⟨g2, 0, none⟩), .pointer (some ⟨g2, 1, none⟩), .pointer (some ⟨g2, 2, none⟩), .pointer (some ⟨g2, 3, none⟩), .pointer (some ⟨g2, 4, none⟩)] 62, .blk g1 #[.int .i64 0, .int .i64 0, .int .i64 0, .int .i64 0, .int .i64 0] 23] ++ [.blk q #[S l] 9, .blk qs #[S ([32] : List UInt8)] 9, .blk qn #[.int .i64 0] 3]) from H) (⟨rfl, (rv_nil 0).symm, (rv_nil 1).symm, (rv_nil 2).symm, (rv_nil 3).symm, (rv_nil 4).symm⟩) ?_ ?_ ?_ ?_
  · skip
    clear H
    rintro lrnd x W1
    have H := Hs.nil W1
    refine x_at (b := { tmps := #[S l, undef, .pointer (some ⟨g1, 0, none⟩), .int .i64 0, .pointer (some ⟨g2, 0, none⟩), .pointer (some ⟨g3, 0, none⟩), .pointer (some ⟨g4, 0, none⟩), undef, undef, undef, .agg #[.pointer (some ⟨g2, 0, none⟩), .pointer (some ⟨g2, 1, none⟩), .pointer (some ⟨g2, 2, none⟩), .pointer (some ⟨g2, 3, none⟩), .pointer (some ⟨g2, 4, none⟩)], S l, .func (.func 71) #[] #[.pointer (some ⟨qs, 0, none⟩), .pointer (some ⟨q, 0, none⟩), .pointer (some ⟨qn, 0, none⟩)], S x, undef, undef, undef, undef, undef, undef, undef, undef, undef, undef, undef, undef, undef, undef, undef, undef, undef, undef, undef, undef, undef, undef, undef, undef, undef, undef, undef], defers := [] }) (by kernel_rfl) <| x_region <| x_b H [.m] <| x_nil <| x_then ?_
    exact ⟨(by kernel_rfl), rfl⟩
  · skip
    clear H
    rintro lrnd pre x ⟨c, a0, a1, a2, a3, a4⟩ RR W1 hI hpx H0 H
    have hM2 := hE.m hM H0
    replace hE := hE.on hM H0
    replace hM := hM2
    clear hM2 H0
    have hxl : x.length ≤ 281474976710656 := Nat.le_trans (words_mem (pre_mem hpx).1) (by omega)
    have hcn := (pre_mem hpx).2
    have hwl := words_len l
    obtain ⟨hc, h0', h1', h2', h3', h4'⟩ := hI
    rcases (show c = 0 ∨ c = 1 ∨ c = 2 ∨ c = 3 ∨ c = 4 ∨ 5 ≤ c by omega) with rfl | rfl | rfl | rfl | rfl | hc5
    · skip
      have hlt : True := trivial
      refine x_block <| x_seq <| x_seq <| x_region <| x_b H [.l 0 0, .m] <| x_nil <| x_then ?_
      refine x_t (by kernel_rfl) <| z_region_s H 10 [0, 2, 3] <| s_b [(0, .l 0 0), (1, .m), (2, .l 1 0), (3, .m)] 6 <| s_one 4 rfl (by kernel_rfl) rfl ?_
      clear H
      intro v9 H
      refine z_call (Atoi_of x hxl (hE.on hM H)) ?_
      rintro _ v10 ⟨ev, rfl, hB'⟩
      refine ⟨_, rfl, ?_⟩
      replace H := H.via hB'
      clear hB'
      refine x_nil <| x_then <| z_next H [0, 2, 3] [0, 1, 2] rfl <| s_b [(5, .m), (6, .m), (7, .m), (8, .m)] 1 <| s_one 9 rfl (by kernel_rfl) rfl ?_
      clear H
      intro v11 H
      refine z_store H 1 0 [.int .i64 (atoiV x)] (fun v12 H => ?_)
      refine x_nil <| x_then <| z_next H [0, 1, 2, 3] [0, 2, 3] rfl <| s_done (by kernel_rfl) ?_
      clear H
      intro v13 H
      refine x_then <| x_region <| x_b H [.l 0 0, .m] <| z_store H 0 0 [.int .i64 1] (fun v14 H => ?_)
      refine x_nil <| x_blk ?_
      replace H := H.pk [0, 1, 2, 3]
      replace H : Hs (fps [.blk g4 #[.int .i64 0] 3, .blk g2 #[.int .i64 a0, .int .i64 a1, .int .i64 a2, .int .i64 a3, .int .i64 a4] 23, .blk g3 #[.pointer (some ⟨g2, 0, none⟩), .pointer (some ⟨g2, 1, none⟩), .pointer (some ⟨g2, 2, none⟩), .pointer (some ⟨g2, 3, none⟩), .pointer (some ⟨g2, 4, none⟩)] 62, .blk g1 #[.int .i64 0, .int .i64 0, .int .i64 0, .int .i64 0, .int .i64 0] 23]) W1 _ [.blk g4 #[.int .i64 ((1 : Nat) : Int)] 3, .blk g2 #[.int .i64 (atoiV x), .int .i64 a1, .int .i64 a2, .int .i64 a3, .int .i64 a4] 23, .blk g3 #[.pointer (some ⟨g2, 0, none⟩), .pointer (some ⟨g2, 1, none⟩), .pointer (some ⟨g2, 2, none⟩), .pointer (some ⟨g2, 3, none⟩), .pointer (some ⟨g2, 4, none⟩)] 62, .blk g1 #[.int .i64 0, .int .i64 0, .int .i64 0, .int .i64 0, .int .i64 0] 23] := hsAs H (by kernel_rfl)
      replace H := H.pk [0, 1, 2, 3]
      exact ⟨(1, (atoiV x), a1, a2, a3, a4), (by simp only [rv_app, List.length_append, List.length_cons, List.length_nil, ← hc, h0', h1', h2', h3', h4']; simp), H⟩
    · skip
      have hlt : True := trivial
      refine x_block <| x_seq <| x_seq <| x_region <| x_b H [.l 0 0, .m] <| x_nil <| x_then ?_
      refine x_t (by kernel_rfl) <| z_region_s H 10 [0, 2, 3] <| s_b [(0, .l 0 0), (1, .m), (2, .l 1 1), (3, .m)] 6 <| s_one 4 rfl (by kernel_rfl) rfl ?_
      clear H
      intro v15 H
      refine z_call (Atoi_of x hxl (hE.on hM H)) ?_
      rintro _ v16 ⟨ev, rfl, hB'⟩
      refine ⟨_, rfl, ?_⟩
      replace H := H.via hB'
      clear hB'
      refine x_nil <| x_then <| z_next H [0, 2, 3] [0, 1, 2] rfl <| s_b [(5, .m), (6, .m), (7, .m), (8, .m)] 1 <| s_one 9 rfl (by kernel_rfl) rfl ?_
      clear H
      intro v17 H
      refine z_store H 1 1 [.int .i64 (atoiV x)] (fun v18 H => ?_)
      refine x_nil <| x_then <| z_next H [0, 1, 2, 3] [0, 2, 3] rfl <| s_done (by kernel_rfl) ?_
      clear H
      intro v19 H
      refine x_then <| x_region <| x_b H [.l 0 0, .m] <| z_store H 0 0 [.int .i64 2] (fun v20 H => ?_)
      refine x_nil <| x_blk ?_
      replace H := H.pk [0, 1, 2, 3]
      replace H : Hs (fps [.blk g4 #[.int .i64 1] 3, .blk g2 #[.int .i64 a0, .int .i64 a1, .int .i64 a2, .int .i64 a3, .int .i64 a4] 23, .blk g3 #[.pointer (some ⟨g2, 0, none⟩), .pointer (some ⟨g2, 1, none⟩), .pointer (some ⟨g2, 2, none⟩), .pointer (some ⟨g2, 3, none⟩), .pointer (some ⟨g2, 4, none⟩)] 62, .blk g1 #[.int .i64 0, .int .i64 0, .int .i64 0, .int .i64 0, .int .i64 0] 23]) W1 _ [.blk g4 #[.int .i64 ((2 : Nat) : Int)] 3, .blk g2 #[.int .i64 a0, .int .i64 (atoiV x), .int .i64 a2, .int .i64 a3, .int .i64 a4] 23, .blk g3 #[.pointer (some ⟨g2, 0, none⟩), .pointer (some ⟨g2, 1, none⟩), .pointer (some ⟨g2, 2, none⟩), .pointer (some ⟨g2, 3, none⟩), .pointer (some ⟨g2, 4, none⟩)] 62, .blk g1 #[.int .i64 0, .int .i64 0, .int .i64 0, .int .i64 0, .int .i64 0] 23] := hsAs H (by kernel_rfl)
      replace H := H.pk [0, 1, 2, 3]
      exact ⟨(2, a0, (atoiV x), a2, a3, a4), (by simp only [rv_app, List.length_append, List.length_cons, List.length_nil, ← hc, h0', h1', h2', h3', h4']; simp), H⟩
    · skip
      have hlt : True := trivial
      refine x_block <| x_seq <| x_seq <| x_region <| x_b H [.l 0 0, .m] <| x_nil <| x_then ?_
      refine x_t (by kernel_rfl) <| z_region_s H 10 [0, 2, 3] <| s_b [(0, .l 0 0), (1, .m), (2, .l 1 2), (3, .m)] 6 <| s_one 4 rfl (by kernel_rfl) rfl ?_
      clear H
      intro v21 H
      refine z_call (Atoi_of x hxl (hE.on hM H)) ?_
      rintro _ v22 ⟨ev, rfl, hB'⟩
      refine ⟨_, rfl, ?_⟩
      replace H := H.via hB'
      clear hB'
      refine x_nil <| x_then <| z_next H [0, 2, 3] [0, 1, 2] rfl <| s_b [(5, .m), (6, .m), (7, .m), (8, .m)] 1 <| s_one 9 rfl (by kernel_rfl) rfl ?_
      clear H
      intro v23 H
      refine z_store H 1 2 [.int .i64 (atoiV x)] (fun v24 H => ?_)
      refine x_nil <| x_then <| z_next H [0, 1, 2, 3] [0, 2, 3] rfl <| s_done (by kernel_rfl) ?_
      clear H
      intro v25 H
      refine x_then <| x_region <| x_b H [.l 0 0, .m] <| z_store H 0 0 [.int .i64 3] (fun v26 H => ?_)
      refine x_nil <| x_blk ?_
      replace H := H.pk [0, 1, 2, 3]
      replace H : Hs (fps [.blk g4 #[.int .i64 2] 3, .blk g2 #[.int .i64 a0, .int .i64 a1, .int .i64 a2, .int .i64 a3, .int .i64 a4] 23, .blk g3 #[.pointer (some ⟨g2, 0, none⟩), .pointer (some ⟨g2, 1, none⟩), .pointer (some ⟨g2, 2, none⟩), .pointer (some ⟨g2, 3, none⟩), .pointer (some ⟨g2, 4, none⟩)] 62, .blk g1 #[.int .i64 0, .int .i64 0, .int .i64 0, .int .i64 0, .int .i64 0] 23]) W1 _ [.blk g4 #[.int .i64 ((3 : Nat) : Int)] 3, .blk g2 #[.int .i64 a0, .int .i64 a1, .int .i64 (atoiV x), .int .i64 a3, .int .i64 a4] 23, .blk g3 #[.pointer (some ⟨g2, 0, none⟩), .pointer (some ⟨g2, 1, none⟩), .pointer (some ⟨g2, 2, none⟩), .pointer (some ⟨g2, 3, none⟩), .pointer (some ⟨g2, 4, none⟩)] 62, .blk g1 #[.int .i64 0, .int .i64 0, .int .i64 0, .int .i64 0, .int .i64 0] 23] := hsAs H (by kernel_rfl)
      replace H := H.pk [0, 1, 2, 3]
      exact ⟨(3, a0, a1, (atoiV x), a3, a4), (by simp only [rv_app, List.length_append, List.length_cons, List.length_nil, ← hc, h0', h1', h2', h3', h4']; simp), H⟩
    · skip
      have hlt : True := trivial
      refine x_block <| x_seq <| x_seq <| x_region <| x_b H [.l 0 0, .m] <| x_nil <| x_then ?_
      refine x_t (by kernel_rfl) <| z_region_s H 10 [0, 2, 3] <| s_b [(0, .l 0 0), (1, .m), (2, .l 1 3), (3, .m)] 6 <| s_one 4 rfl (by kernel_rfl) rfl ?_
      clear H
      intro v27 H
      refine z_call (Atoi_of x hxl (hE.on hM H)) ?_
      rintro _ v28 ⟨ev, rfl, hB'⟩
      refine ⟨_, rfl, ?_⟩
      replace H := H.via hB'
      clear hB'
      refine x_nil <| x_then <| z_next H [0, 2, 3] [0, 1, 2] rfl <| s_b [(5, .m), (6, .m), (7, .m), (8, .m)] 1 <| s_one 9 rfl (by kernel_rfl) rfl ?_
      clear H
      intro v29 H
      refine z_store H 1 3 [.int .i64 (atoiV x)] (fun v30 H => ?_)
      refine x_nil <| x_then <| z_next H [0, 1, 2, 3] [0, 2, 3] rfl <| s_done (by kernel_rfl) ?_
      clear H
      intro v31 H
      refine x_then <| x_region <| x_b H [.l 0 0, .m] <| z_store H 0 0 [.int .i64 4] (fun v32 H => ?_)
      refine x_nil <| x_blk ?_
      replace H := H.pk [0, 1, 2, 3]
      replace H : Hs (fps [.blk g4 #[.int .i64 3] 3, .blk g2 #[.int .i64 a0, .int .i64 a1, .int .i64 a2, .int .i64 a3, .int .i64 a4] 23, .blk g3 #[.pointer (some ⟨g2, 0, none⟩), .pointer (some ⟨g2, 1, none⟩), .pointer (some ⟨g2, 2, none⟩), .pointer (some ⟨g2, 3, none⟩), .pointer (some ⟨g2, 4, none⟩)] 62, .blk g1 #[.int .i64 0, .int .i64 0, .int .i64 0, .int .i64 0, .int .i64 0] 23]) W1 _ [.blk g4 #[.int .i64 ((4 : Nat) : Int)] 3, .blk g2 #[.int .i64 a0, .int .i64 a1, .int .i64 a2, .int .i64 (atoiV x), .int .i64 a4] 23, .blk g3 #[.pointer (some ⟨g2, 0, none⟩), .pointer (some ⟨g2, 1, none⟩), .pointer (some ⟨g2, 2, none⟩), .pointer (some ⟨g2, 3, none⟩), .pointer (some ⟨g2, 4, none⟩)] 62, .blk g1 #[.int .i64 0, .int .i64 0, .int .i64 0, .int .i64 0, .int .i64 0] 23] := hsAs H (by kernel_rfl)
      replace H := H.pk [0, 1, 2, 3]
      exact ⟨(4, a0, a1, a2, (atoiV x), a4), (by simp only [rv_app, List.length_append, List.length_cons, List.length_nil, ← hc, h0', h1', h2', h3', h4']; simp), H⟩
    · skip
      have hlt : True := trivial
      refine x_block <| x_seq <| x_seq <| x_region <| x_b H [.l 0 0, .m] <| x_nil <| x_then ?_
      refine x_t (by kernel_rfl) <| z_region_s H 10 [0, 2, 3] <| s_b [(0, .l 0 0), (1, .m), (2, .l 1 4), (3, .m)] 6 <| s_one 4 rfl (by kernel_rfl) rfl ?_
      clear H
      intro v33 H
      refine z_call (Atoi_of x hxl (hE.on hM H)) ?_
      rintro _ v34 ⟨ev, rfl, hB'⟩
      refine ⟨_, rfl, ?_⟩
      replace H := H.via hB'
      clear hB'
      refine x_nil <| x_then <| z_next H [0, 2, 3] [0, 1, 2] rfl <| s_b [(5, .m), (6, .m), (7, .m), (8, .m)] 1 <| s_one 9 rfl (by kernel_rfl) rfl ?_
      clear H
      intro v35 H
      refine z_store H 1 4 [.int .i64 (atoiV x)] (fun v36 H => ?_)
      refine x_nil <| x_then <| z_next H [0, 1, 2, 3] [0, 2, 3] rfl <| s_done (by kernel_rfl) ?_
      clear H
      intro v37 H
      refine x_then <| x_region <| x_b H [.l 0 0, .m] <| z_store H 0 0 [.int .i64 5] (fun v38 H => ?_)
      refine x_nil <| x_blk ?_
      replace H := H.pk [0, 1, 2, 3]
      replace H : Hs (fps [.blk g4 #[.int .i64 4] 3, .blk g2 #[.int .i64 a0, .int .i64 a1, .int .i64 a2, .int .i64 a3, .int .i64 a4] 23, .blk g3 #[.pointer (some ⟨g2, 0, none⟩), .pointer (some ⟨g2, 1, none⟩), .pointer (some ⟨g2, 2, none⟩), .pointer (some ⟨g2, 3, none⟩), .pointer (some ⟨g2, 4, none⟩)] 62, .blk g1 #[.int .i64 0, .int .i64 0, .int .i64 0, .int .i64 0, .int .i64 0] 23]) W1 _ [.blk g4 #[.int .i64 ((5 : Nat) : Int)] 3, .blk g2 #[.int .i64 a0, .int .i64 a1, .int .i64 a2, .int .i64 a3, .int .i64 (atoiV x)] 23, .blk g3 #[.pointer (some ⟨g2, 0, none⟩), .pointer (some ⟨g2, 1, none⟩), .pointer (some ⟨g2, 2, none⟩), .pointer (some ⟨g2, 3, none⟩), .pointer (some ⟨g2, 4, none⟩)] 62, .blk g1 #[.int .i64 0, .int .i64 0, .int .i64 0, .int .i64 0, .int .i64 0] 23] := hsAs H (by kernel_rfl)
      replace H := H.pk [0, 1, 2, 3]
      exact ⟨(5, a0, a1, a2, a3, (atoiV x)), (by simp only [rv_app, List.length_append, List.length_cons, List.length_nil, ← hc, h0', h1', h2', h3', h4']; simp), H⟩
    · skip
      have hge : 5 ≤ c := hc5
      refine x_block <| x_seq <| x_seq <| x_region <| x_b H [.l 0 0, .v (.bool (decide ((c : Int) < 5)))] <| x_nil <| x_then ?_
      cases h1 : decide ((c : Int) < 5)
      · skip
        have h1p := of_decide_eq_false h1
        refine x_f (by kernel_rfl) <| x_skipc <| x_then <| x_region <| x_b H [.l 0 0] <| z_ar ((c : Int) + 1) <| z_store H 0 0 [.int .i64 ((c : Int) + 1)] (fun v39 H => ?_)
        refine x_nil <| x_blk ?_
        replace H := H.pk [0, 1, 2, 3]
        replace H : Hs (fps [.blk g4 #[.int .i64 (c : Int)] 3, .blk g2 #[.int .i64 a0, .int .i64 a1, .int .i64 a2, .int .i64 a3, .int .i64 a4] 23, .blk g3 #[.pointer (some ⟨g2, 0, none⟩), .pointer (some ⟨g2, 1, none⟩), .pointer (some ⟨g2, 2, none⟩), .pointer (some ⟨g2, 3, none⟩), .pointer (some ⟨g2, 4, none⟩)] 62, .blk g1 #[.int .i64 0, .int .i64 0, .int .i64 0, .int .i64 0, .int .i64 0] 23]) W1 _ [.blk g4 #[.int .i64 (((c + 1) : Nat) : Int)] 3, .blk g2 #[.int .i64 a0, .int .i64 a1, .int .i64 a2, .int .i64 a3, .int .i64 a4] 23, .blk g3 #[.pointer (some ⟨g2, 0, none⟩), .pointer (some ⟨g2, 1, none⟩), .pointer (some ⟨g2, 2, none⟩), .pointer (some ⟨g2, 3, none⟩), .pointer (some ⟨g2, 4, none⟩)] 62, .blk g1 #[.int .i64 0, .int .i64 0, .int .i64 0, .int .i64 0, .int .i64 0] 23] := hsAs H (by kernel_rfl)
        replace H := H.pk [0, 1, 2, 3]
        exact ⟨((c + 1), a0, a1, a2, a3, a4), (by simp only [rv_app, List.length_append, List.length_cons, List.length_nil, ← hc, h0', h1', h2', h3', h4']; refine ⟨trivial, ?_, ?_, ?_, ?_, ?_⟩ <;> rw [if_neg (by omega)]), H⟩
      have h1p := of_decide_eq_true h1
      exact absurd h1p (by omega)
  · skip
    clear H
    rintro Dq_ ⟨c, a0, a1, a2, a3, a4⟩ W1 hI H
    obtain ⟨-, h0', h1', h2', h3', h4'⟩ := hI
    refine x_blk <| x_then <| x_seq <| x_seq <| x_region <| x_b H [.n 2 0 5 23] <| z_callB H (Show_yes (s := a0) (t := a1) (k := a2) (i := a3) (f := a4) (by rw [h0', h1', h2', h3', h4']; exact hr) (by rw [h0']; exact hs) _ (hE.on hM H)) fun v40 H => ?_
    refine x_b H [.m, .m, .m, .m, .m] <| x_nil <| x_then <| x_seq <| x_region <| x_b H [.m, .m, .m, .m, .m] <| x_eq (.bool (!(decide (join5 a0 a1 a2 a3 a4 = l)))) (strNe (join5 a0 a1 a2 a3 a4) l) (by kernel_rfl) rfl (by kernel_rfl) ?_
    refine x_b H [.v (.bool (!(decide (join5 a0 a1 a2 a3 a4 = l))))] <| x_nil <| x_then ?_
    cases h2 : decide (join5 a0 a1 a2 a3 a4 = l)
    · skip
      have h2p := of_decide_eq_false h2
      exact absurd (of_decide_eq_false h2) (by rw [h0', h1', h2', h3', h4']; exact fun hz => hz hj)
    have h2p := of_decide_eq_true h2
    refine x_f (by kernel_rfl) <| x_skipc <| x_then <| x_seq <| x_region <| x_b H [.n 2 0 5 23] <| z_store H 4 0 [.int .i64 a0, .int .i64 a1, .int .i64 a2, .int .i64 a3, .int .i64 a4] (fun v41 H => ?_)
    refine x_b H [.m] <| x_nil <| x_then <| x_retc <| x_retM1 [0, 1, 2, 3, 4] [.blk g4 #[.int .i64 (c : Int)] 3, .blk g2 #[.int .i64 a0, .int .i64 a1, .int .i64 a2, .int .i64 a3, .int .i64 a4] 23, .blk g3 #[.pointer (some ⟨g2, 0, none⟩), .pointer (some ⟨g2, 1, none⟩), .pointer (some ⟨g2, 2, none⟩), .pointer (some ⟨g2, 3, none⟩), .pointer (some ⟨g2, 4, none⟩)] 62, .blk g1 #[.int .i64 a0, .int .i64 a1, .int .i64 a2, .int .i64 a3, .int .i64 a4] 23] (.tuple #[.agg #[.int .i64 a0, .int .i64 a1, .int .i64 a2, .int .i64 a3, .int .i64 a4], .int .i64 0]) H (by kernel_rfl) rfl (by decide) (fun _ H => (x_rescell H 3 g1 0 #[.int .i64 a0, .int .i64 a1, .int .i64 a2, .int .i64 a3, .int .i64 a4] 23 [.int .i64 a0, .int .i64 a1, .int .i64 a2, .int .i64 a3, .int .i64 a4] (fun x => .tuple #[x, .int .i64 0]) (by kernel_rfl) (by kernel_rfl) (by kernel_rfl))) ?_
    clear H
    intro v42 H
    exact ⟨by rw [h0', h1', h2', h3', h4'], H.below⟩
  · skip
    clear H
    rintro Dq_ cq_ pre ⟨c, a0, a1, a2, a3, a4⟩ W1 hpre hJ H
    exact hJ.elim

set_option maxRecDepth 100000 in
set_option maxHeartbeats 4000000 in
theorem Read_n1 {l : List UInt8} (hl : l.length ≤ 100000) (hr : ¬ RightP (rv (words l) 0) (rv (words l) 1) (rv (words l) 2) (rv (words l) 3) (rv (words l) 4)) (w0 : World) (hE : Env w0) :
    Calls Tryd.prog 13 #[S l] w0 fun e w' => e = .returned (.tuple #[.agg #[.int .i64 0, .int .i64 0, .int .i64 0, .int .i64 0, .int .i64 0], .int .i64 10]) ∧ Below w0.heap.size w0 w' := by
  refine x_enterM Tryd.func13 rfl #[S l, undef, undef, undef, undef, undef, undef, undef, undef, undef, undef, undef, undef, undef, undef, undef, undef, undef, undef, undef, undef, undef, undef, undef, undef, undef, undef, undef, undef, undef, undef, undef, undef, undef, undef, undef, undef, undef, undef, undef, undef] (by kernel_rfl) ?_
  have H := Hs.nil w0
  have hM := nilM
  refine x_seq <| x_region <| z_box H #[.int .i64 0, .int .i64 0, .int .i64 0, .int .i64 0, .int .i64 0] 23 (fun v1 g1 H => ?_)
  refine x_b H [.m] <| x_nil <| x_then <| x_seq <| x_region <| z_box H #[.int .i64 0, .int .i64 0, .int .i64 0, .int .i64 0, .int .i64 0] 23 (fun v2 g2 H => ?_)
  refine x_nil <| x_then <| x_seq <| x_region <| z_callB H (numbers_of g2 _) fun v3 H => z_box H #[.pointer none, .pointer none, .pointer none, .pointer none, .pointer none] 62 (fun v4 g3 H => ?_)
  refine z_store H 0 0 [.pointer (some ⟨g2, 0, none⟩), .pointer (some ⟨g2, 1, none⟩), .pointer (some ⟨g2, 2, none⟩), .pointer (some ⟨g2, 3, none⟩), .pointer (some ⟨g2, 4, none⟩)] (fun v5 H => ?_)
  refine x_nil <| x_then <| x_seq <| x_region <| z_box H #[.int .i64 0] 3 (fun v6 g4 H => ?_)
  refine z_store H 0 0 [.int .i64 0] (fun v7 H => ?_)
  refine x_nil <| x_then <| x_seq <| x_seq <| x_region <| x_b H [.m] <| z_call (SplitSeq_of l _) ?_
  rintro _ v8 ⟨qs, q, qn, rfl, hN'⟩
  refine ⟨_, rfl, ?_⟩
  replace H := H.more hN'
  clear hN'
  refine x_nil <| x_then <| x_block ?_
  replace H := H.pk [3, 5, 4, 6, 0, 1, 2]
  refine x_rangeQ (α := List UInt8) (G := Nat × Int × Int × Int × Int × Int) (words l) (fun x => #[S x]) q #[S l] 9 [.blk qs #[S ([32] : List UInt8)] 9, .blk qn #[.int .i64 0] 3] (fun pre gh => match gh with | (c, a0, a1, a2, a3, a4) => c = List.length pre ∧ a0 = rv pre 0 ∧ a1 = rv pre 1 ∧ a2 = rv pre 2 ∧ a3 = rv pre 3 ∧ a4 = rv pre 4) (fun pre gh => match gh with | (c, a0, a1, a2, a3, a4) => [.blk g4 #[.int .i64 (c : Int)] 3, .blk g2 #[.int .i64 a0, .int .i64 a1, .int .i64 a2, .int .i64 a3, .int .i64 a4] 23, .blk g3 #[.pointer (some ⟨g2, 0, none⟩), .pointer (some ⟨g2, 1, none⟩), .pointer (some ⟨g2, 2, none⟩), .pointer (some ⟨g2, 3, none⟩), .pointer (some ⟨g2, 4, none⟩)] 62, .blk g1 #[.int .i64 0, .int .i64 0, .int .i64 0, .int .i64 0, .int .i64 0] 23]) (fun cd pre gh => match gh with | (c, a0, a1, a2, a3, a4) => False) (fun x => { tmps := #[S l, undef, .pointer (some ⟨g1, 0, none⟩), .int .i64 0, .pointer (some ⟨g2, 0, none⟩), .pointer (some ⟨g3, 0, none⟩), .pointer (some ⟨g4, 0, none⟩), S x, undef, undef, .agg #[.pointer (some ⟨g2, 0, none⟩), .pointer (some ⟨g2, 1, none⟩), .pointer (some ⟨g2, 2, none⟩), .pointer (some ⟨g2, 3, none⟩), .pointer (some ⟨g2, 4, none⟩)], S l, .func (.func 71) #[] #[.pointer (some ⟨qs, 0, none⟩), .pointer (some ⟨q, 0, none⟩), .pointer (some ⟨qn, 0, none⟩)], S x, undef, undef, undef, undef, undef, undef, undef, undef, undef, undef, undef, undef, undef, undef, undef, undef, undef, undef, undef, undef, undef, undef, undef, undef, undef, undef, undef], defers := [] }) (0, 0, 0, 0, 0, 0) (by kernel_rfl) (enters_of Tryd.func71 (by kernel_rfl) rfl) (split_it hl _ (H.pk [4, 5, 6])) (fun _ => rfl) (by kernel_rfl) (by rintro _ ⟨c, a0, a1, a2, a3, a4⟩; rfl) (show Hs [] w0 _ ([.blk g4 #[.int .i64 ((0 : Nat) : Int)] 3, .blk g2 #[.int .i64 0, .int .i64 0, .int .i64 0, .int .i64 0, .int .i64 0] 23, .blk g3 #[.pointer (some ⟨g2, 0, none⟩), .pointer (some ⟨g2, 1, none⟩), .pointer (some ⟨g2, 2, none⟩), .pointer (some ⟨g2, 3, none⟩), .pointer (some ⟨g2, 4, none⟩)] 62, .blk g1 #[.int .i64 0, .int .i64 0, .int .i64 0, .int .i64 0, .int .i64 0] 23] ++ [.blk q #[S l] 9, .blk qs #[S ([32] : List UInt8)] 9, .blk qn #[.int .i64 0] 3]) from H) (⟨rfl, (rv_nil 0).symm, (rv_nil 1).symm, (rv_nil 2).symm, (rv_nil 3).symm, (rv_nil 4).symm⟩) ?_ ?_ ?_ ?_
  · skip
    clear H
    rintro lrnd x W1
    have H := Hs.nil W1
    refine x_at (b := { tmps := #[S l, undef, .pointer (some ⟨g1, 0, none⟩), .int .i64 0, .pointer (some ⟨g2, 0, none⟩), .pointer (some ⟨g3, 0, none⟩), .pointer (some ⟨g4, 0, none⟩), undef, undef, undef, .agg #[.pointer (some ⟨g2, 0, none⟩), .pointer (some ⟨g2, 1, none⟩), .pointer (some ⟨g2, 2, none⟩), .pointer (some ⟨g2, 3, none⟩), .pointer (some ⟨g2, 4, none⟩)], S l, .func (.func 71) #[] #[.pointer (some ⟨qs, 0, none⟩), .pointer (some ⟨q, 0, none⟩), .pointer (some ⟨qn, 0, none⟩)], S x, undef, undef, undef, undef, undef, undef, undef, undef, undef, undef, undef, undef, undef, undef, undef, undef, undef, undef, undef, undef, undef, undef, undef, undef, undef, undef, undef], defers := [] }) (by kernel_rfl) <| x_region <| x_b H [.m] <| x_nil <| x_then ?_
    exact ⟨(by kernel_rfl), rfl⟩
  · skip
    clear H
    rintro lrnd pre x ⟨c, a0, a1, a2, a3, a4⟩ RR W1 hI hpx H0 H
    have hM2 := hE.m hM H0
    replace hE := hE.on hM H0
    replace hM := hM2
    clear hM2 H0
    have hxl : x.length ≤ 281474976710656 := Nat.le_trans (words_mem (pre_mem hpx).1) (by omega)
    have hcn := (pre_mem hpx).2
    have hwl := words_len l
    obtain ⟨hc, h0', h1', h2', h3', h4'⟩ := hI
    rcases (show c = 0 ∨ c = 1 ∨ c = 2 ∨ c = 3 ∨ c = 4 ∨ 5 ≤ c by omega) with rfl | rfl | rfl | rfl | rfl | hc5
    · skip
      have hlt : True := trivial
      refine x_block <| x_seq <| x_seq <| x_region <| x_b H [.l 0 0, .m] <| x_nil <| x_then ?_
      refine x_t (by kernel_rfl) <| z_region_s H 10 [0, 2, 3] <| s_b [(0, .l 0 0), (1, .m), (2, .l 1 0), (3, .m)] 6 <| s_one 4 rfl (by kernel_rfl) rfl ?_
      clear H
      intro v9 H
      refine z_call (Atoi_of x hxl (hE.on hM H)) ?_
      rintro _ v10 ⟨ev, rfl, hB'⟩
      refine ⟨_, rfl, ?_⟩
      replace H := H.via hB'
      clear hB'
      refine x_nil <| x_then <| z_next H [0, 2, 3] [0, 1, 2] rfl <| s_b [(5, .m), (6, .m), (7, .m), (8, .m)] 1 <| s_one 9 rfl (by kernel_rfl) rfl ?_
      clear H
      intro v11 H
      refine z_store H 1 0 [.int .i64 (atoiV x)] (fun v12 H => ?_)
      refine x_nil <| x_then <| z_next H [0, 1, 2, 3] [0, 2, 3] rfl <| s_done (by kernel_rfl) ?_
      clear H
      intro v13 H
      refine x_then <| x_region <| x_b H [.l 0 0, .m] <| z_store H 0 0 [.int .i64 1] (fun v14 H => ?_)
      refine x_nil <| x_blk ?_
      replace H := H.pk [0, 1, 2, 3]
      replace H : Hs (fps [.blk g4 #[.int .i64 0] 3, .blk g2 #[.int .i64 a0, .int .i64 a1, .int .i64 a2, .int .i64 a3, .int .i64 a4] 23, .blk g3 #[.pointer (some ⟨g2, 0, none⟩), .pointer (some ⟨g2, 1, none⟩), .pointer (some ⟨g2, 2, none⟩), .pointer (some ⟨g2, 3, none⟩), .pointer (some ⟨g2, 4, none⟩)] 62, .blk g1 #[.int .i64 0, .int .i64 0, .int .i64 0, .int .i64 0, .int .i64 0] 23]) W1 _ [.blk g4 #[.int .i64 ((1 : Nat) : Int)] 3, .blk g2 #[.int .i64 (atoiV x), .int .i64 a1, .int .i64 a2, .int .i64 a3, .int .i64 a4] 23, .blk g3 #[.pointer (some ⟨g2, 0, none⟩), .pointer (some ⟨g2, 1, none⟩), .pointer (some ⟨g2, 2, none⟩), .pointer (some ⟨g2, 3, none⟩), .pointer (some ⟨g2, 4, none⟩)] 62, .blk g1 #[.int .i64 0, .int .i64 0, .int .i64 0, .int .i64 0, .int .i64 0] 23] := hsAs H (by kernel_rfl)
      replace H := H.pk [0, 1, 2, 3]
      exact ⟨(1, (atoiV x), a1, a2, a3, a4), (by simp only [rv_app, List.length_append, List.length_cons, List.length_nil, ← hc, h0', h1', h2', h3', h4']; simp), H⟩
    · skip
      have hlt : True := trivial
      refine x_block <| x_seq <| x_seq <| x_region <| x_b H [.l 0 0, .m] <| x_nil <| x_then ?_
      refine x_t (by kernel_rfl) <| z_region_s H 10 [0, 2, 3] <| s_b [(0, .l 0 0), (1, .m), (2, .l 1 1), (3, .m)] 6 <| s_one 4 rfl (by kernel_rfl) rfl ?_
      clear H
      intro v15 H
      refine z_call (Atoi_of x hxl (hE.on hM H)) ?_
      rintro _ v16 ⟨ev, rfl, hB'⟩
      refine ⟨_, rfl, ?_⟩
      replace H := H.via hB'
      clear hB'
      refine x_nil <| x_then <| z_next H [0, 2, 3] [0, 1, 2] rfl <| s_b [(5, .m), (6, .m), (7, .m), (8, .m)] 1 <| s_one 9 rfl (by kernel_rfl) rfl ?_
      clear H
      intro v17 H
      refine z_store H 1 1 [.int .i64 (atoiV x)] (fun v18 H => ?_)
      refine x_nil <| x_then <| z_next H [0, 1, 2, 3] [0, 2, 3] rfl <| s_done (by kernel_rfl) ?_
      clear H
      intro v19 H
      refine x_then <| x_region <| x_b H [.l 0 0, .m] <| z_store H 0 0 [.int .i64 2] (fun v20 H => ?_)
      refine x_nil <| x_blk ?_
      replace H := H.pk [0, 1, 2, 3]
      replace H : Hs (fps [.blk g4 #[.int .i64 1] 3, .blk g2 #[.int .i64 a0, .int .i64 a1, .int .i64 a2, .int .i64 a3, .int .i64 a4] 23, .blk g3 #[.pointer (some ⟨g2, 0, none⟩), .pointer (some ⟨g2, 1, none⟩), .pointer (some ⟨g2, 2, none⟩), .pointer (some ⟨g2, 3, none⟩), .pointer (some ⟨g2, 4, none⟩)] 62, .blk g1 #[.int .i64 0, .int .i64 0, .int .i64 0, .int .i64 0, .int .i64 0] 23]) W1 _ [.blk g4 #[.int .i64 ((2 : Nat) : Int)] 3, .blk g2 #[.int .i64 a0, .int .i64 (atoiV x), .int .i64 a2, .int .i64 a3, .int .i64 a4] 23, .blk g3 #[.pointer (some ⟨g2, 0, none⟩), .pointer (some ⟨g2, 1, none⟩), .pointer (some ⟨g2, 2, none⟩), .pointer (some ⟨g2, 3, none⟩), .pointer (some ⟨g2, 4, none⟩)] 62, .blk g1 #[.int .i64 0, .int .i64 0, .int .i64 0, .int .i64 0, .int .i64 0] 23] := hsAs H (by kernel_rfl)
      replace H := H.pk [0, 1, 2, 3]
      exact ⟨(2, a0, (atoiV x), a2, a3, a4), (by simp only [rv_app, List.length_append, List.length_cons, List.length_nil, ← hc, h0', h1', h2', h3', h4']; simp), H⟩
    · skip
      have hlt : True := trivial
      refine x_block <| x_seq <| x_seq <| x_region <| x_b H [.l 0 0, .m] <| x_nil <| x_then ?_
      refine x_t (by kernel_rfl) <| z_region_s H 10 [0, 2, 3] <| s_b [(0, .l 0 0), (1, .m), (2, .l 1 2), (3, .m)] 6 <| s_one 4 rfl (by kernel_rfl) rfl ?_
      clear H
      intro v21 H
      refine z_call (Atoi_of x hxl (hE.on hM H)) ?_
      rintro _ v22 ⟨ev, rfl, hB'⟩
      refine ⟨_, rfl, ?_⟩
      replace H := H.via hB'
      clear hB'
      refine x_nil <| x_then <| z_next H [0, 2, 3] [0, 1, 2] rfl <| s_b [(5, .m), (6, .m), (7, .m), (8, .m)] 1 <| s_one 9 rfl (by kernel_rfl) rfl ?_
      clear H
      intro v23 H
      refine z_store H 1 2 [.int .i64 (atoiV x)] (fun v24 H => ?_)
      refine x_nil <| x_then <| z_next H [0, 1, 2, 3] [0, 2, 3] rfl <| s_done (by kernel_rfl) ?_
      clear H
      intro v25 H
      refine x_then <| x_region <| x_b H [.l 0 0, .m] <| z_store H 0 0 [.int .i64 3] (fun v26 H => ?_)
      refine x_nil <| x_blk ?_
      replace H := H.pk [0, 1, 2, 3]
      replace H : Hs (fps [.blk g4 #[.int .i64 2] 3, .blk g2 #[.int .i64 a0, .int .i64 a1, .int .i64 a2, .int .i64 a3, .int .i64 a4] 23, .blk g3 #[.pointer (some ⟨g2, 0, none⟩), .pointer (some ⟨g2, 1, none⟩), .pointer (some ⟨g2, 2, none⟩), .pointer (some ⟨g2, 3, none⟩), .pointer (some ⟨g2, 4, none⟩)] 62, .blk g1 #[.int .i64 0, .int .i64 0, .int .i64 0, .int .i64 0, .int .i64 0] 23]) W1 _ [.blk g4 #[.int .i64 ((3 : Nat) : Int)] 3, .blk g2 #[.int .i64 a0, .int .i64 a1, .int .i64 (atoiV x), .int .i64 a3, .int .i64 a4] 23, .blk g3 #[.pointer (some ⟨g2, 0, none⟩), .pointer (some ⟨g2, 1, none⟩), .pointer (some ⟨g2, 2, none⟩), .pointer (some ⟨g2, 3, none⟩), .pointer (some ⟨g2, 4, none⟩)] 62, .blk g1 #[.int .i64 0, .int .i64 0, .int .i64 0, .int .i64 0, .int .i64 0] 23] := hsAs H (by kernel_rfl)
      replace H := H.pk [0, 1, 2, 3]
      exact ⟨(3, a0, a1, (atoiV x), a3, a4), (by simp only [rv_app, List.length_append, List.length_cons, List.length_nil, ← hc, h0', h1', h2', h3', h4']; simp), H⟩
    · skip
      have hlt : True := trivial
      refine x_block <| x_seq <| x_seq <| x_region <| x_b H [.l 0 0, .m] <| x_nil <| x_then ?_
      refine x_t (by kernel_rfl) <| z_region_s H 10 [0, 2, 3] <| s_b [(0, .l 0 0), (1, .m), (2, .l 1 3), (3, .m)] 6 <| s_one 4 rfl (by kernel_rfl) rfl ?_
      clear H
      intro v27 H
      refine z_call (Atoi_of x hxl (hE.on hM H)) ?_
      rintro _ v28 ⟨ev, rfl, hB'⟩
      refine ⟨_, rfl, ?_⟩
      replace H := H.via hB'
      clear hB'
      refine x_nil <| x_then <| z_next H [0, 2, 3] [0, 1, 2] rfl <| s_b [(5, .m), (6, .m), (7, .m), (8, .m)] 1 <| s_one 9 rfl (by kernel_rfl) rfl ?_
      clear H
      intro v29 H
      refine z_store H 1 3 [.int .i64 (atoiV x)] (fun v30 H => ?_)
      refine x_nil <| x_then <| z_next H [0, 1, 2, 3] [0, 2, 3] rfl <| s_done (by kernel_rfl) ?_
      clear H
      intro v31 H
      refine x_then <| x_region <| x_b H [.l 0 0, .m] <| z_store H 0 0 [.int .i64 4] (fun v32 H => ?_)
      refine x_nil <| x_blk ?_
      replace H := H.pk [0, 1, 2, 3]
      replace H : Hs (fps [.blk g4 #[.int .i64 3] 3, .blk g2 #[.int .i64 a0, .int .i64 a1, .int .i64 a2, .int .i64 a3, .int .i64 a4] 23, .blk g3 #[.pointer (some ⟨g2, 0, none⟩), .pointer (some ⟨g2, 1, none⟩), .pointer (some ⟨g2, 2, none⟩), .pointer (some ⟨g2, 3, none⟩), .pointer (some ⟨g2, 4, none⟩)] 62, .blk g1 #[.int .i64 0, .int .i64 0, .int .i64 0, .int .i64 0, .int .i64 0] 23]) W1 _ [.blk g4 #[.int .i64 ((4 : Nat) : Int)] 3, .blk g2 #[.int .i64 a0, .int .i64 a1, .int .i64 a2, .int .i64 (atoiV x), .int .i64 a4] 23, .blk g3 #[.pointer (some ⟨g2, 0, none⟩), .pointer (some ⟨g2, 1, none⟩), .pointer (some ⟨g2, 2, none⟩), .pointer (some ⟨g2, 3, none⟩), .pointer (some ⟨g2, 4, none⟩)] 62, .blk g1 #[.int .i64 0, .int .i64 0, .int .i64 0, .int .i64 0, .int .i64 0] 23] := hsAs H (by kernel_rfl)
      replace H := H.pk [0, 1, 2, 3]
      exact ⟨(4, a0, a1, a2, (atoiV x), a4), (by simp only [rv_app, List.length_append, List.length_cons, List.length_nil, ← hc, h0', h1', h2', h3', h4']; simp), H⟩
    · skip
      have hlt : True := trivial
      refine x_block <| x_seq <| x_seq <| x_region <| x_b H [.l 0 0, .m] <| x_nil <| x_then ?_
      refine x_t (by kernel_rfl) <| z_region_s H 10 [0, 2, 3] <| s_b [(0, .l 0 0), (1, .m), (2, .l 1 4), (3, .m)] 6 <| s_one 4 rfl (by kernel_rfl) rfl ?_
      clear H
      intro v33 H
      refine z_call (Atoi_of x hxl (hE.on hM H)) ?_
      rintro _ v34 ⟨ev, rfl, hB'⟩
      refine ⟨_, rfl, ?_⟩
      replace H := H.via hB'
      clear hB'
      refine x_nil <| x_then <| z_next H [0, 2, 3] [0, 1, 2] rfl <| s_b [(5, .m), (6, .m), (7, .m), (8, .m)] 1 <| s_one 9 rfl (by kernel_rfl) rfl ?_
      clear H
      intro v35 H
      refine z_store H 1 4 [.int .i64 (atoiV x)] (fun v36 H => ?_)
      refine x_nil <| x_then <| z_next H [0, 1, 2, 3] [0, 2, 3] rfl <| s_done (by kernel_rfl) ?_
      clear H
      intro v37 H
      refine x_then <| x_region <| x_b H [.l 0 0, .m] <| z_store H 0 0 [.int .i64 5] (fun v38 H => ?_)
      refine x_nil <| x_blk ?_
      replace H := H.pk [0, 1, 2, 3]
      replace H : Hs (fps [.blk g4 #[.int .i64 4] 3, .blk g2 #[.int .i64 a0, .int .i64 a1, .int .i64 a2, .int .i64 a3, .int .i64 a4] 23, .blk g3 #[.pointer (some ⟨g2, 0, none⟩), .pointer (some ⟨g2, 1, none⟩), .pointer (some ⟨g2, 2, none⟩), .pointer (some ⟨g2, 3, none⟩), .pointer (some ⟨g2, 4, none⟩)] 62, .blk g1 #[.int .i64 0, .int .i64 0, .int .i64 0, .int .i64 0, .int .i64 0] 23]) W1 _ [.blk g4 #[.int .i64 ((5 : Nat) : Int)] 3, .blk g2 #[.int .i64 a0, .int .i64 a1, .int .i64 a2, .int .i64 a3, .int .i64 (atoiV x)] 23, .blk g3 #[.pointer (some ⟨g2, 0, none⟩), .pointer (some ⟨g2, 1, none⟩), .pointer (some ⟨g2, 2, none⟩), .pointer (some ⟨g2, 3, none⟩), .pointer (some ⟨g2, 4, none⟩)] 62, .blk g1 #[.int .i64 0, .int .i64 0, .int .i64 0, .int .i64 0, .int .i64 0] 23] := hsAs H (by kernel_rfl)
      replace H := H.pk [0, 1, 2, 3]
      exact ⟨(5, a0, a1, a2, a3, (atoiV x)), (by simp only [rv_app, List.length_append, List.length_cons, List.length_nil, ← hc, h0', h1', h2', h3', h4']; simp), H⟩
    · skip
      have hge : 5 ≤ c := hc5
      refine x_block <| x_seq <| x_seq <| x_region <| x_b H [.l 0 0, .v (.bool (decide ((c : Int) < 5)))] <| x_nil <| x_then ?_
      cases h1 : decide ((c : Int) < 5)
      · skip
        have h1p := of_decide_eq_false h1
        refine x_f (by kernel_rfl) <| x_skipc <| x_then <| x_region <| x_b H [.l 0 0] <| z_ar ((c : Int) + 1) <| z_store H 0 0 [.int .i64 ((c : Int) + 1)] (fun v39 H => ?_)
        refine x_nil <| x_blk ?_
        replace H := H.pk [0, 1, 2, 3]
        replace H : Hs (fps [.blk g4 #[.int .i64 (c : Int)] 3, .blk g2 #[.int .i64 a0, .int .i64 a1, .int .i64 a2, .int .i64 a3, .int .i64 a4] 23, .blk g3 #[.pointer (some ⟨g2, 0, none⟩), .pointer (some ⟨g2, 1, none⟩), .pointer (some ⟨g2, 2, none⟩), .pointer (some ⟨g2, 3, none⟩), .pointer (some ⟨g2, 4, none⟩)] 62, .blk g1 #[.int .i64 0, .int .i64 0, .int .i64 0, .int .i64 0, .int .i64 0] 23]) W1 _ [.blk g4 #[.int .i64 (((c + 1) : Nat) : Int)] 3, .blk g2 #[.int .i64 a0, .int .i64 a1, .int .i64 a2, .int .i64 a3, .int .i64 a4] 23, .blk g3 #[.pointer (some ⟨g2, 0, none⟩), .pointer (some ⟨g2, 1, none⟩), .pointer (some ⟨g2, 2, none⟩), .pointer (some ⟨g2, 3, none⟩), .pointer (some ⟨g2, 4, none⟩)] 62, .blk g1 #[.int .i64 0, .int .i64 0, .int .i64 0, .int .i64 0, .int .i64 0] 23] := hsAs H (by kernel_rfl)
        replace H := H.pk [0, 1, 2, 3]
        exact ⟨((c + 1), a0, a1, a2, a3, a4), (by simp only [rv_app, List.length_append, List.length_cons, List.length_nil, ← hc, h0', h1', h2', h3', h4']; refine ⟨trivial, ?_, ?_, ?_, ?_, ?_⟩ <;> rw [if_neg (by omega)]), H⟩
      have h1p := of_decide_eq_true h1
      exact absurd h1p (by omega)
  · skip
    clear H
    rintro Dq_ ⟨c, a0, a1, a2, a3, a4⟩ W1 hI H
    obtain ⟨-, h0', h1', h2', h3', h4'⟩ := hI
    refine x_blk <| x_then <| x_seq <| x_seq <| x_region <| x_b H [.n 2 0 5 23] <| z_callB H (Show_no (s := a0) (t := a1) (k := a2) (i := a3) (f := a4) (by rw [h0', h1', h2', h3', h4']; exact hr) _) fun v40 H => ?_
    refine x_b H [.m, .m, .m, .m, .m] <| x_nil <| x_then <| x_seq <| x_region <| x_b H [.m, .m, .m, .k, .k, .k, .m] <| x_nil ?_
    refine x_then <| x_t (by kernel_rfl) <| x_seq <| x_region <| x_b H [.m] <| z_store H 4 0 [.int .i64 0, .int .i64 0, .int .i64 0, .int .i64 0, .int .i64 0] (fun v41 H => ?_)
    refine x_b H [.m] <| x_nil <| x_then <| x_retc <| x_then_ret <| x_retM1 [0, 1, 2, 3, 4] [.blk g4 #[.int .i64 (c : Int)] 3, .blk g2 #[.int .i64 a0, .int .i64 a1, .int .i64 a2, .int .i64 a3, .int .i64 a4] 23, .blk g3 #[.pointer (some ⟨g2, 0, none⟩), .pointer (some ⟨g2, 1, none⟩), .pointer (some ⟨g2, 2, none⟩), .pointer (some ⟨g2, 3, none⟩), .pointer (some ⟨g2, 4, none⟩)] 62, .blk g1 #[.int .i64 0, .int .i64 0, .int .i64 0, .int .i64 0, .int .i64 0] 23] (.tuple #[.agg #[.int .i64 0, .int .i64 0, .int .i64 0, .int .i64 0, .int .i64 0], .int .i64 10]) H (by kernel_rfl) rfl (by decide) (fun _ H => (x_rescell H 3 g1 0 #[.int .i64 0, .int .i64 0, .int .i64 0, .int .i64 0, .int .i64 0] 23 [.int .i64 0, .int .i64 0, .int .i64 0, .int .i64 0, .int .i64 0] (fun x => .tuple #[x, .int .i64 10]) (by kernel_rfl) (by kernel_rfl) (by kernel_rfl))) ?_
    clear H
    intro v42 H
    exact ⟨rfl, H.below⟩
  · skip
    clear H
    rintro Dq_ cq_ pre ⟨c, a0, a1, a2, a3, a4⟩ W1 hpre hJ H
    exact hJ.elim

set_option maxRecDepth 100000 in
set_option maxHeartbeats 4000000 in
theorem Read_n2 {l : List UInt8} (hl : l.length ≤ 100000) (hr0 : RightP (rv (words l) 0) (rv (words l) 1) (rv (words l) 2) (rv (words l) 3) (rv (words l) 4)) (hn : ¬ (RightP (rv (words l) 0) (rv (words l) 1) (rv (words l) 2) (rv (words l) 3) (rv (words l) 4) ∧ join5 (rv (words l) 0) (rv (words l) 1) (rv (words l) 2) (rv (words l) 3) (rv (words l) 4) = l)) (hs : rv (words l) 0 ≤ 9223372036854775807) (w0 : World) (hE : Env w0) :
    Calls Tryd.prog 13 #[S l] w0 fun e w' => e = .returned (.tuple #[.agg #[.int .i64 0, .int .i64 0, .int .i64 0, .int .i64 0, .int .i64 0], .int .i64 10]) ∧ Below w0.heap.size w0 w' := by
  refine x_enterM Tryd.func13 rfl #[S l, undef, undef, undef, undef, undef, undef, undef, undef, undef, undef, undef, undef, undef, undef, undef, undef, undef, undef, undef, undef, undef, undef, undef, undef, undef, undef, undef, undef, undef, undef, undef, undef, undef, undef, undef, undef, undef, undef, undef, undef] (by kernel_rfl) ?_
  have H := Hs.nil w0
  have hM := nilM
  refine x_seq <| x_region <| z_box H #[.int .i64 0, .int .i64 0, .int .i64 0, .int .i64 0, .int .i64 0] 23 (fun v1 g1 H => ?_)
  refine x_b H [.m] <| x_nil <| x_then <| x_seq <| x_region <| z_box H #[.int .i64 0, .int .i64 0, .int .i64 0, .int .i64 0, .int .i64 0] 23 (fun v2 g2 H => ?_)
  refine x_nil <| x_then <| x_seq <| x_region <| z_callB H (numbers_of g2 _) fun v3 H => z_box H #[.pointer none, .pointer none, .pointer none, .pointer none, .pointer none] 62 (fun v4 g3 H => ?_)
  refine z_store H 0 0 [.pointer (some ⟨g2, 0, none⟩), .pointer (some ⟨g2, 1, none⟩), .pointer (some ⟨g2, 2, none⟩), .pointer (some ⟨g2, 3, none⟩), .pointer (some ⟨g2, 4, none⟩)] (fun v5 H => ?_)
  refine x_nil <| x_then <| x_seq <| x_region <| z_box H #[.int .i64 0] 3 (fun v6 g4 H => ?_)
  refine z_store H 0 0 [.int .i64 0] (fun v7 H => ?_)
  refine x_nil <| x_then <| x_seq <| x_seq <| x_region <| x_b H [.m] <| z_call (SplitSeq_of l _) ?_
  rintro _ v8 ⟨qs, q, qn, rfl, hN'⟩
  refine ⟨_, rfl, ?_⟩
  replace H := H.more hN'
  clear hN'
  refine x_nil <| x_then <| x_block ?_
  replace H := H.pk [3, 5, 4, 6, 0, 1, 2]
  refine x_rangeQ (α := List UInt8) (G := Nat × Int × Int × Int × Int × Int) (words l) (fun x => #[S x]) q #[S l] 9 [.blk qs #[S ([32] : List UInt8)] 9, .blk qn #[.int .i64 0] 3] (fun pre gh => match gh with | (c, a0, a1, a2, a3, a4) => c = List.length pre ∧ a0 = rv pre 0 ∧ a1 = rv pre 1 ∧ a2 = rv pre 2 ∧ a3 = rv pre 3 ∧ a4 = rv pre 4) (fun pre gh => match gh with | (c, a0, a1, a2, a3, a4) => [.blk g4 #[.int .i64 (c : Int)] 3, .blk g2 #[.int .i64 a0, .int .i64 a1, .int .i64 a2, .int .i64 a3, .int .i64 a4] 23, .blk g3 #[.pointer (some ⟨g2, 0, none⟩), .pointer (some ⟨g2, 1, none⟩), .pointer (some ⟨g2, 2, none⟩), .pointer (some ⟨g2, 3, none⟩), .pointer (some ⟨g2, 4, none⟩)] 62, .blk g1 #[.int .i64 0, .int .i64 0, .int .i64 0, .int .i64 0, .int .i64 0] 23]) (fun cd pre gh => match gh with | (c, a0, a1, a2, a3, a4) => False) (fun x => { tmps := #[S l, undef, .pointer (some ⟨g1, 0, none⟩), .int .i64 0, .pointer (some ⟨g2, 0, none⟩), .pointer (some ⟨g3, 0, none⟩), .pointer (some ⟨g4, 0, none⟩), S x, undef, undef, .agg #[.pointer (some ⟨g2, 0, none⟩), .pointer (some ⟨g2, 1, none⟩), .pointer (some ⟨g2, 2, none⟩), .pointer (some ⟨g2, 3, none⟩), .pointer (some ⟨g2, 4, none⟩)], S l, .func (.func 71) #[] #[.pointer (some ⟨qs, 0, none⟩), .pointer (some ⟨q, 0, none⟩), .pointer (some ⟨qn, 0, none⟩)], S x, undef, undef, undef, undef, undef, undef, undef, undef, undef, undef, undef, undef, undef, undef, undef, undef, undef, undef, undef, undef, undef, undef, undef, undef, undef, undef, undef], defers := [] }) (0, 0, 0, 0, 0, 0) (by kernel_rfl) (enters_of Tryd.func71 (by kernel_rfl) rfl) (split_it hl _ (H.pk [4, 5, 6])) (fun _ => rfl) (by kernel_rfl) (by rintro _ ⟨c, a0, a1, a2, a3, a4⟩; rfl) (show Hs [] w0 _ ([.blk g4 #[.int .i64 ((0 : Nat) : Int)] 3, .blk g2 #[.int .i64 0, .int .i64 0, .int .i64 0, .int .i64 0, .int .i64 0] 23, .blk g3 #[.pointer (some ⟨g2, 0, none⟩), .pointer (some ⟨g2, 1, none⟩), .pointer (some ⟨g2, 2, none⟩), .pointer (some ⟨g2, 3, none⟩), .pointer (some ⟨g2, 4, none⟩)] 62, .blk g1 #[.int .i64 0, .int .i64 0, .int .i64 0, .int .i64 0, .int .i64 0] 23] ++ [.blk q #[S l] 9, .blk qs #[S ([32] : List UInt8)] 9, .blk qn #[.int .i64 0] 3]) from H) (⟨rfl, (rv_nil 0).symm, (rv_nil 1).symm, (rv_nil 2).symm, (rv_nil 3).symm, (rv_nil 4).symm⟩) ?_ ?_ ?_ ?_
  · skip
    clear H
    rintro lrnd x W1
    have H := Hs.nil W1
    refine x_at (b := { tmps := #[S l, undef, .pointer (some ⟨g1, 0, none⟩), .int .i64 0, .pointer (some ⟨g2, 0, none⟩), .pointer (some ⟨g3, 0, none⟩), .pointer (some ⟨g4, 0, none⟩), undef, undef, undef, .agg #[.pointer (some ⟨g2, 0, none⟩), .pointer (some ⟨g2, 1, none⟩), .pointer (some ⟨g2, 2, none⟩), .pointer (some ⟨g2, 3, none⟩), .pointer (some ⟨g2, 4, none⟩)], S l, .func (.func 71) #[] #[.pointer (some ⟨qs, 0, none⟩), .pointer (some ⟨q, 0, none⟩), .pointer (some ⟨qn, 0, none⟩)], S x, undef, undef, undef, undef, undef, undef, undef, undef, undef, undef, undef, undef, undef, undef, undef, undef, undef, undef, undef, undef, undef, undef, undef, undef, undef, undef, undef], defers := [] }) (by kernel_rfl) <| x_region <| x_b H [.m] <| x_nil <| x_then ?_
    exact ⟨(by kernel_rfl), rfl⟩
  · skip
    clear H
    rintro lrnd pre x ⟨c, a0, a1, a2, a3, a4⟩ RR W1 hI hpx H0 H
    have hM2 := hE.m hM H0
    replace hE := hE.on hM H0
    replace hM := hM2
    clear hM2 H0
    have hxl : x.length ≤ 281474976710656 := Nat.le_trans (words_mem (pre_mem hpx).1) (by omega)
    have hcn := (pre_mem hpx).2
    have hwl := words_len l
    obtain ⟨hc, h0', h1', h2', h3', h4'⟩ := hI
    rcases (show c = 0 ∨ c = 1 ∨ c = 2 ∨ c = 3 ∨ c = 4 ∨ 5 ≤ c by omega) with rfl | rfl | rfl | rfl | rfl | hc5
    · skip
      have hlt : True := trivial
      refine x_block <| x_seq <| x_seq <| x_region <| x_b H [.l 0 0, .m] <| x_nil <| x_then ?_
      refine x_t (by kernel_rfl) <| z_region_s H 10 [0, 2, 3] <| s_b [(0, .l 0 0), (1, .m), (2, .l 1 0), (3, .m)] 6 <| s_one 4 rfl (by kernel_rfl) rfl ?_
      clear H
      intro v9 H
      refine z_call (Atoi_of x hxl (hE.on hM H)) ?_
      rintro _ v10 ⟨ev, rfl, hB'⟩
      refine ⟨_, rfl, ?_⟩
      replace H := H.via hB'
      clear hB'
      refine x_nil <| x_then <| z_next H [0, 2, 3] [0, 1, 2] rfl <| s_b [(5, .m), (6, .m), (7, .m), (8, .m)] 1 <| s_one 9 rfl (by kernel_rfl) rfl ?_
      clear H
      intro v11 H
      refine z_store H 1 0 [.int .i64 (atoiV x)] (fun v12 H => ?_)
      refine x_nil <| x_then <| z_next H [0, 1, 2, 3] [0, 2, 3] rfl <| s_done (by kernel_rfl) ?_
      clear H
      intro v13 H
      refine x_then <| x_region <| x_b H [.l 0 0, .m] <| z_store H 0 0 [.int .i64 1] (fun v14 H => ?_)
      refine x_nil <| x_blk ?_
      replace H := H.pk [0, 1, 2, 3]
      replace H : Hs (fps [.blk g4 #[.int .i64 0] 3, .blk g2 #[.int .i64 a0, .int .i64 a1, .int .i64 a2, .int .i64 a3, .int .i64 a4] 23, .blk g3 #[.pointer (some ⟨g2, 0, none⟩), .pointer (some ⟨g2, 1, none⟩), .pointer (some ⟨g2, 2, none⟩), .pointer (some ⟨g2, 3, none⟩), .pointer (some ⟨g2, 4, none⟩)] 62, .blk g1 #[.int .i64 0, .int .i64 0, .int .i64 0, .int .i64 0, .int .i64 0] 23]) W1 _ [.blk g4 #[.int .i64 ((1 : Nat) : Int)] 3, .blk g2 #[.int .i64 (atoiV x), .int .i64 a1, .int .i64 a2, .int .i64 a3, .int .i64 a4] 23, .blk g3 #[.pointer (some ⟨g2, 0, none⟩), .pointer (some ⟨g2, 1, none⟩), .pointer (some ⟨g2, 2, none⟩), .pointer (some ⟨g2, 3, none⟩), .pointer (some ⟨g2, 4, none⟩)] 62, .blk g1 #[.int .i64 0, .int .i64 0, .int .i64 0, .int .i64 0, .int .i64 0] 23] := hsAs H (by kernel_rfl)
      replace H := H.pk [0, 1, 2, 3]
      exact ⟨(1, (atoiV x), a1, a2, a3, a4), (by simp only [rv_app, List.length_append, List.length_cons, List.length_nil, ← hc, h0', h1', h2', h3', h4']; simp), H⟩
    · skip
      have hlt : True := trivial
      refine x_block <| x_seq <| x_seq <| x_region <| x_b H [.l 0 0, .m] <| x_nil <| x_then ?_
      refine x_t (by kernel_rfl) <| z_region_s H 10 [0, 2, 3] <| s_b [(0, .l 0 0), (1, .m), (2, .l 1 1), (3, .m)] 6 <| s_one 4 rfl (by kernel_rfl) rfl ?_
      clear H
      intro v15 H
      refine z_call (Atoi_of x hxl (hE.on hM H)) ?_
      rintro _ v16 ⟨ev, rfl, hB'⟩
      refine ⟨_, rfl, ?_⟩
      replace H := H.via hB'
      clear hB'
      refine x_nil <| x_then <| z_next H [0, 2, 3] [0, 1, 2] rfl <| s_b [(5, .m), (6, .m), (7, .m), (8, .m)] 1 <| s_one 9 rfl (by kernel_rfl) rfl ?_
      clear H
      intro v17 H
      refine z_store H 1 1 [.int .i64 (atoiV x)] (fun v18 H => ?_)
      refine x_nil <| x_then <| z_next H [0, 1, 2, 3] [0, 2, 3] rfl <| s_done (by kernel_rfl) ?_
      clear H
      intro v19 H
      refine x_then <| x_region <| x_b H [.l 0 0, .m] <| z_store H 0 0 [.int .i64 2] (fun v20 H => ?_)
      refine x_nil <| x_blk ?_
      replace H := H.pk [0, 1, 2, 3]
      replace H : Hs (fps [.blk g4 #[.int .i64 1] 3, .blk g2 #[.int .i64 a0, .int .i64 a1, .int .i64 a2, .int .i64 a3, .int .i64 a4] 23, .blk g3 #[.pointer (some ⟨g2, 0, none⟩), .pointer (some ⟨g2, 1, none⟩), .pointer (some ⟨g2, 2, none⟩), .pointer (some ⟨g2, 3, none⟩), .pointer (some ⟨g2, 4, none⟩)] 62, .blk g1 #[.int .i64 0, .int .i64 0, .int .i64 0, .int .i64 0, .int .i64 0] 23]) W1 _ [.blk g4 #[.int .i64 ((2 : Nat) : Int)] 3, .blk g2 #[.int .i64 a0, .int .i64 (atoiV x), .int .i64 a2, .int .i64 a3, .int .i64 a4] 23, .blk g3 #[.pointer (some ⟨g2, 0, none⟩), .pointer (some ⟨g2, 1, none⟩), .pointer (some ⟨g2, 2, none⟩), .pointer (some ⟨g2, 3, none⟩), .pointer (some ⟨g2, 4, none⟩)] 62, .blk g1 #[.int .i64 0, .int .i64 0, .int .i64 0, .int .i64 0, .int .i64 0] 23] := hsAs H (by kernel_rfl)
      replace H := H.pk [0, 1, 2, 3]
      exact ⟨(2, a0, (atoiV x), a2, a3, a4), (by simp only [rv_app, List.length_append, List.length_cons, List.length_nil, ← hc, h0', h1', h2', h3', h4']; simp), H⟩
    · skip
      have hlt : True := trivial
      refine x_block <| x_seq <| x_seq <| x_region <| x_b H [.l 0 0, .m] <| x_nil <| x_then ?_
      refine x_t (by kernel_rfl) <| z_region_s H 10 [0, 2, 3] <| s_b [(0, .l 0 0), (1, .m), (2, .l 1 2), (3, .m)] 6 <| s_one 4 rfl (by kernel_rfl) rfl ?_
      clear H
      intro v21 H
      refine z_call (Atoi_of x hxl (hE.on hM H)) ?_
      rintro _ v22 ⟨ev, rfl, hB'⟩
      refine ⟨_, rfl, ?_⟩
      replace H := H.via hB'
      clear hB'
      refine x_nil <| x_then <| z_next H [0, 2, 3] [0, 1, 2] rfl <| s_b [(5, .m), (6, .m), (7, .m), (8, .m)] 1 <| s_one 9 rfl (by kernel_rfl) rfl ?_
      clear H
      intro v23 H
      refine z_store H 1 2 [.int .i64 (atoiV x)] (fun v24 H => ?_)
      refine x_nil <| x_then <| z_next H [0, 1, 2, 3] [0, 2, 3] rfl <| s_done (by kernel_rfl) ?_
      clear H
      intro v25 H
      refine x_then <| x_region <| x_b H [.l 0 0, .m] <| z_store H 0 0 [.int .i64 3] (fun v26 H => ?_)
      refine x_nil <| x_blk ?_
      replace H := H.pk [0, 1, 2, 3]
      replace H : Hs (fps [.blk g4 #[.int .i64 2] 3, .blk g2 #[.int .i64 a0, .int .i64 a1, .int .i64 a2, .int .i64 a3, .int .i64 a4] 23, .blk g3 #[.pointer (some ⟨g2, 0, none⟩), .pointer (some ⟨g2, 1, none⟩), .pointer (some ⟨g2, 2, none⟩), .pointer (some ⟨g2, 3, none⟩), .pointer (some ⟨g2, 4, none⟩)] 62, .blk g1 #[.int .i64 0, .int .i64 0, .int .i64 0, .int .i64 0, .int .i64 0] 23]) W1 _ [.blk g4 #[.int .i64 ((3 : Nat) : Int)] 3, .blk g2 #[.int .i64 a0, .int .i64 a1, .int .i64 (atoiV x), .int .i64 a3, .int .i64 a4] 23, .blk g3 #[.pointer (some ⟨g2, 0, none⟩), .pointer (some ⟨g2, 1, none⟩), .pointer (some ⟨g2, 2, none⟩), .pointer (some ⟨g2, 3, none⟩), .pointer (some ⟨g2, 4, none⟩)] 62, .blk g1 #[.int .i64 0, .int .i64 0, .int .i64 0, .int .i64 0, .int .i64 0] 23] := hsAs H (by kernel_rfl)
      replace H := H.pk [0, 1, 2, 3]
      exact ⟨(3, a0, a1, (atoiV x), a3, a4), (by simp only [rv_app, List.length_append, List.length_cons, List.length_nil, ← hc, h0', h1', h2', h3', h4']; simp), H⟩
    · skip
      have hlt : True := trivial
      refine x_block <| x_seq <| x_seq <| x_region <| x_b H [.l 0 0, .m] <| x_nil <| x_then ?_
      refine x_t (by kernel_rfl) <| z_region_s H 10 [0, 2, 3] <| s_b [(0, .l 0 0), (1, .m), (2, .l 1 3), (3, .m)] 6 <| s_one 4 rfl (by kernel_rfl) rfl ?_
      clear H
      intro v27 H
      refine z_call (Atoi_of x hxl (hE.on hM H)) ?_
      rintro _ v28 ⟨ev, rfl, hB'⟩
      refine ⟨_, rfl, ?_⟩
      replace H := H.via hB'
      clear hB'
      refine x_nil <| x_then <| z_next H [0, 2, 3] [0, 1, 2] rfl <| s_b [(5, .m), (6, .m), (7, .m), (8, .m)] 1 <| s_one 9 rfl (by kernel_rfl) rfl ?_
      clear H
      intro v29 H
      refine z_store H 1 3 [.int .i64 (atoiV x)] (fun v30 H => ?_)
      refine x_nil <| x_then <| z_next H [0, 1, 2, 3] [0, 2, 3] rfl <| s_done (by kernel_rfl) ?_
      clear H
      intro v31 H
      refine x_then <| x_region <| x_b H [.l 0 0, .m] <| z_store H 0 0 [.int .i64 4] (fun v32 H => ?_)
      refine x_nil <| x_blk ?_
      replace H := H.pk [0, 1, 2, 3]
      replace H : Hs (fps [.blk g4 #[.int .i64 3] 3, .blk g2 #[.int .i64 a0, .int .i64 a1, .int .i64 a2, .int .i64 a3, .int .i64 a4] 23, .blk g3 #[.pointer (some ⟨g2, 0, none⟩), .pointer (some ⟨g2, 1, none⟩), .pointer (some ⟨g2, 2, none⟩), .pointer (some ⟨g2, 3, none⟩), .pointer (some ⟨g2, 4, none⟩)] 62, .blk g1 #[.int .i64 0, .int .i64 0, .int .i64 0, .int .i64 0, .int .i64 0] 23]) W1 _ [.blk g4 #[.int .i64 ((4 : Nat) : Int)] 3, .blk g2 #[.int .i64 a0, .int .i64 a1, .int .i64 a2, .int .i64 (atoiV x), .int .i64 a4] 23, .blk g3 #[.pointer (some ⟨g2, 0, none⟩), .pointer (some ⟨g2, 1, none⟩), .pointer (some ⟨g2, 2, none⟩), .pointer (some ⟨g2, 3, none⟩), .pointer (some ⟨g2, 4, none⟩)] 62, .blk g1 #[.int .i64 0, .int .i64 0, .int .i64 0, .int .i64 0, .int .i64 0] 23] := hsAs H (by kernel_rfl)
      replace H := H.pk [0, 1, 2, 3]
      exact ⟨(4, a0, a1, a2, (atoiV x), a4), (by simp only [rv_app, List.length_append, List.length_cons, List.length_nil, ← hc, h0', h1', h2', h3', h4']; simp), H⟩
    · skip
      have hlt : True := trivial
      refine x_block <| x_seq <| x_seq <| x_region <| x_b H [.l 0 0, .m] <| x_nil <| x_then ?_
      refine x_t (by kernel_rfl) <| z_region_s H 10 [0, 2, 3] <| s_b [(0, .l 0 0), (1, .m), (2, .l 1 4), (3, .m)] 6 <| s_one 4 rfl (by kernel_rfl) rfl ?_
      clear H
      intro v33 H
      refine z_call (Atoi_of x hxl (hE.on hM H)) ?_
      rintro _ v34 ⟨ev, rfl, hB'⟩
      refine ⟨_, rfl, ?_⟩
      replace H := H.via hB'
      clear hB'
      refine x_nil <| x_then <| z_next H [0, 2, 3] [0, 1, 2] rfl <| s_b [(5, .m), (6, .m), (7, .m), (8, .m)] 1 <| s_one 9 rfl (by kernel_rfl) rfl ?_
      clear H
      intro v35 H
      refine z_store H 1 4 [.int .i64 (atoiV x)] (fun v36 H => ?_)
      refine x_nil <| x_then <| z_next H [0, 1, 2, 3] [0, 2, 3] rfl <| s_done (by kernel_rfl) ?_
      clear H
      intro v37 H
      refine x_then <| x_region <| x_b H [.l 0 0, .m] <| z_store H 0 0 [.int .i64 5] (fun v38 H => ?_)
      refine x_nil <| x_blk ?_
      replace H := H.pk [0, 1, 2, 3]
      replace H : Hs (fps [.blk g4 #[.int .i64 4] 3, .blk g2 #[.int .i64 a0, .int .i64 a1, .int .i64 a2, .int .i64 a3, .int .i64 a4] 23, .blk g3 #[.pointer (some ⟨g2, 0, none⟩), .pointer (some ⟨g2, 1, none⟩), .pointer (some ⟨g2, 2, none⟩), .pointer (some ⟨g2, 3, none⟩), .pointer (some ⟨g2, 4, none⟩)] 62, .blk g1 #[.int .i64 0, .int .i64 0, .int .i64 0, .int .i64 0, .int .i64 0] 23]) W1 _ [.blk g4 #[.int .i64 ((5 : Nat) : Int)] 3, .blk g2 #[.int .i64 a0, .int .i64 a1, .int .i64 a2, .int .i64 a3, .int .i64 (atoiV x)] 23, .blk g3 #[.pointer (some ⟨g2, 0, none⟩), .pointer (some ⟨g2, 1, none⟩), .pointer (some ⟨g2, 2, none⟩), .pointer (some ⟨g2, 3, none⟩), .pointer (some ⟨g2, 4, none⟩)] 62, .blk g1 #[.int .i64 0, .int .i64 0, .int .i64 0, .int .i64 0, .int .i64 0] 23] := hsAs H (by kernel_rfl)
      replace H := H.pk [0, 1, 2, 3]
      exact ⟨(5, a0, a1, a2, a3, (atoiV x)), (by simp only [rv_app, List.length_append, List.length_cons, List.length_nil, ← hc, h0', h1', h2', h3', h4']; simp), H⟩
    · skip
      have hge : 5 ≤ c := hc5
      refine x_block <| x_seq <| x_seq <| x_region <| x_b H [.l 0 0, .v (.bool (decide ((c : Int) < 5)))] <| x_nil <| x_then ?_
      cases h1 : decide ((c : Int) < 5)
      · skip
        have h1p := of_decide_eq_false h1
        refine x_f (by kernel_rfl) <| x_skipc <| x_then <| x_region <| x_b H [.l 0 0] <| z_ar ((c : Int) + 1) <| z_store H 0 0 [.int .i64 ((c : Int) + 1)] (fun v39 H => ?_)
        refine x_nil <| x_blk ?_
        replace H := H.pk [0, 1, 2, 3]
        replace H : Hs (fps [.blk g4 #[.int .i64 (c : Int)] 3, .blk g2 #[.int .i64 a0, .int .i64 a1, .int .i64 a2, .int .i64 a3, .int .i64 a4] 23, .blk g3 #[.pointer (some ⟨g2, 0, none⟩), .pointer (some ⟨g2, 1, none⟩), .pointer (some ⟨g2, 2, none⟩), .pointer (some ⟨g2, 3, none⟩), .pointer (some ⟨g2, 4, none⟩)] 62, .blk g1 #[.int .i64 0, .int .i64 0, .int .i64 0, .int .i64 0, .int .i64 0] 23]) W1 _ [.blk g4 #[.int .i64 (((c + 1) : Nat) : Int)] 3, .blk g2 #[.int .i64 a0, .int .i64 a1, .int .i64 a2, .int .i64 a3, .int .i64 a4] 23, .blk g3 #[.pointer (some ⟨g2, 0, none⟩), .pointer (some ⟨g2, 1, none⟩), .pointer (some ⟨g2, 2, none⟩), .pointer (some ⟨g2, 3, none⟩), .pointer (some ⟨g2, 4, none⟩)] 62, .blk g1 #[.int .i64 0, .int .i64 0, .int .i64 0, .int .i64 0, .int .i64 0] 23] := hsAs H (by kernel_rfl)
        replace H := H.pk [0, 1, 2, 3]
        exact ⟨((c + 1), a0, a1, a2, a3, a4), (by simp only [rv_app, List.length_append, List.length_cons, List.length_nil, ← hc, h0', h1', h2', h3', h4']; refine ⟨trivial, ?_, ?_, ?_, ?_, ?_⟩ <;> rw [if_neg (by omega)]), H⟩
      have h1p := of_decide_eq_true h1
      exact absurd h1p (by omega)
  · skip
    clear H
    rintro Dq_ ⟨c, a0, a1, a2, a3, a4⟩ W1 hI H
    obtain ⟨-, h0', h1', h2', h3', h4'⟩ := hI
    refine x_blk <| x_then <| x_seq <| x_seq <| x_region <| x_b H [.n 2 0 5 23] <| z_callB H (Show_yes (s := a0) (t := a1) (k := a2) (i := a3) (f := a4) (by rw [h0', h1', h2', h3', h4']; exact hr0) (by rw [h0']; exact hs) _ (hE.on hM H)) fun v40 H => ?_
    refine x_b H [.m, .m, .m, .m, .m] <| x_nil <| x_then <| x_seq <| x_region <| x_b H [.m, .m, .m, .m, .m] <| x_eq (.bool (!(decide (join5 a0 a1 a2 a3 a4 = l)))) (strNe (join5 a0 a1 a2 a3 a4) l) (by kernel_rfl) rfl (by kernel_rfl) ?_
    refine x_b H [.v (.bool (!(decide (join5 a0 a1 a2 a3 a4 = l))))] <| x_nil <| x_then ?_
    cases h2 : decide (join5 a0 a1 a2 a3 a4 = l)
    · skip
      have h2p := of_decide_eq_false h2
      refine x_t (by kernel_rfl) <| x_seq <| x_region <| x_b H [.m] <| z_store H 4 0 [.int .i64 0, .int .i64 0, .int .i64 0, .int .i64 0, .int .i64 0] (fun v41 H => ?_)
      refine x_b H [.m] <| x_nil <| x_then <| x_retc <| x_then_ret <| x_retM1 [0, 1, 2, 3, 4] [.blk g4 #[.int .i64 (c : Int)] 3, .blk g2 #[.int .i64 a0, .int .i64 a1, .int .i64 a2, .int .i64 a3, .int .i64 a4] 23, .blk g3 #[.pointer (some ⟨g2, 0, none⟩), .pointer (some ⟨g2, 1, none⟩), .pointer (some ⟨g2, 2, none⟩), .pointer (some ⟨g2, 3, none⟩), .pointer (some ⟨g2, 4, none⟩)] 62, .blk g1 #[.int .i64 0, .int .i64 0, .int .i64 0, .int .i64 0, .int .i64 0] 23] (.tuple #[.agg #[.int .i64 0, .int .i64 0, .int .i64 0, .int .i64 0, .int .i64 0], .int .i64 10]) H (by kernel_rfl) rfl (by decide) (fun _ H => (x_rescell H 3 g1 0 #[.int .i64 0, .int .i64 0, .int .i64 0, .int .i64 0, .int .i64 0] 23 [.int .i64 0, .int .i64 0, .int .i64 0, .int .i64 0, .int .i64 0] (fun x => .tuple #[x, .int .i64 10]) (by kernel_rfl) (by kernel_rfl) (by kernel_rfl))) ?_
      clear H
      intro v42 H
      exact ⟨rfl, H.below⟩
    have h2p := of_decide_eq_true h2
    exact absurd (of_decide_eq_true h2) (by rw [h0', h1', h2', h3', h4']; exact fun hz => hn ⟨hr0, hz⟩)
  · skip
    clear H
    rintro Dq_ cq_ pre ⟨c, a0, a1, a2, a3, a4⟩ W1 hpre hJ H
    exact hJ.elim

end Go.Proofs.YtjbaabffilejeaaDoor
