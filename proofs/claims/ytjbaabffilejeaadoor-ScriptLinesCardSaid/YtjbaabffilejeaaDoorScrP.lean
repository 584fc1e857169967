/- A script's steps and their lines, plain. -/
import Derived.Test.YtjbaabffilejeaaDoorTxtP
import Derived.Test.YtjbaabffilejeaaDoorPxU
import Derived.Lib.ParseIntBCases
namespace Go.Proofs.YtjbaabffilejeaaDoor
open Go Go.Lib
set_option linter.unusedVariables false
/-- A step: what it is, a line, data, a mask, a fault. -/
structure Stp where
  k : Int
  l : Int
  d : Nat → Nat
  m : Nat
  fk : Int
  rk : Int
  bk : Int
  ro : Int
  co : Int
  ch : Int
  bi : Int
  va : Int
def stepL (x : Stp) : List Value := .int .i64 x.k :: .int .i64 x.l :: (arrL x.d 64 0 ++ [.int .u64 ((x.m : Nat) : Int), .int .i64 x.fk, .int .i64 x.rk, .int .i64 x.bk, .int .i64 x.ro, .int .i64 x.co, .int .i64 x.ch, .int .i64 x.bi, .int .i64 x.va])
def stepA (x : Stp) : Array Value := (stepL x).toArray
def zeroS : Stp := ⟨0, 0, fun _ => 0, 0, 0, 0, 0, 0, 0, 0, 0, 0⟩
def SEQ (a b : Stp) : Prop := a.k = b.k ∧ a.l = b.l ∧ (∀ i, i < 64 → a.d i = b.d i) ∧ a.m = b.m ∧ a.fk = b.fk ∧ a.rk = b.rk ∧ a.bk = b.bk ∧ a.ro = b.ro ∧ a.co = b.co ∧ a.ch = b.ch ∧ a.bi = b.bi ∧ a.va = b.va
instance (a b : Stp) : Decidable (SEQ a b) := by unfold SEQ; infer_instance
theorem SEQ.rfl' (a : Stp) : SEQ a a := ⟨rfl, rfl, fun _ _ => rfl, rfl, rfl, rfl, rfl, rfl, rfl, rfl, rfl, rfl⟩
def eqBs (D E : Nat → Nat) : List Nat → Bool
  | [] => true
  | i :: is => (((D i : Nat) : Int) == ((E i : Nat) : Int)) && eqBs D E is
def seqB (a b : Stp) : Bool := (a.k == b.k) && ((a.l == b.l) && (eqBs a.d b.d (List.range 64) && ((((a.m : Nat) : Int) == ((b.m : Nat) : Int)) && (((a.fk == b.fk) && (((a.rk == b.rk) && ((a.bk == b.bk) && ((a.ro == b.ro) && ((a.co == b.co) && true)))) && ((a.ch == b.ch) && ((a.bi == b.bi) && ((a.va == b.va) && true))))) && true))))
theorem eqBs_iff (D E : Nat → Nat) : ∀ l : List Nat, eqBs D E l = true ↔ ∀ i ∈ l, D i = E i
  | [] => by simp [eqBs]
  | i :: is => by
    simp only [eqBs, Bool.and_eq_true, eqBs_iff D E is, List.mem_cons, forall_eq_or_imp, beq_iff_eq]
    exact ⟨fun ⟨h1, h2⟩ => ⟨by omega, h2⟩, fun ⟨h1, h2⟩ => ⟨by omega, h2⟩⟩
theorem seqB_iff (a b : Stp) : seqB a b = decide (SEQ a b) := by
  rw [Bool.eq_iff_iff, decide_eq_true_iff]
  unfold SEQ
  simp only [seqB, Bool.and_eq_true, eqBs_iff, List.mem_range, beq_iff_eq, and_true]
  constructor
  · rintro ⟨h1, h2, h3, h4, h5, ⟨h6, h7, h8, h9⟩, h10, h11, h12⟩; exact ⟨h1, h2, h3, by omega, h5, h6, h7, h8, h9, h10, h11, h12⟩
  · rintro ⟨h1, h2, h3, h4, h5, h6, h7, h8, h9, h10, h11, h12⟩; exact ⟨h1, h2, h3, by omega, h5, ⟨h6, h7, h8, h9⟩, h10, h11, h12⟩
/-! ### data in digits -/
def hexd (n : Nat) : UInt8 := if n < 10 then UInt8.ofNat (48 + n) else UInt8.ofNat (87 + n)
def hexL (D : Nat → Nat) : Nat → List UInt8
  | 0 => []
  | n + 1 => hexL D n ++ [hexd (D n / 16), hexd (D n % 16)]
theorem hexL_len (D : Nat → Nat) : ∀ n, (hexL D n).length = 2 * n
  | 0 => rfl
  | n + 1 => by rw [hexL, List.length_append, hexL_len D n]; simp; omega
/-- A digit's value; 16: it is none. -/
def hv (c : Nat) : Nat := if 48 ≤ c ∧ c ≤ 57 then c - 48 else if 97 ≤ c ∧ c ≤ 102 then c - 87 else 16
theorem hv_hexd {n : Nat} (h : n < 16) : hv (hexd n).toNat = n := by
  unfold hexd
  split
  · rw [UInt8.toNat_ofNat']; unfold hv; rw [if_pos (by omega)]; omega
  · rw [UInt8.toNat_ofNat']; unfold hv; rw [if_neg (by omega), if_pos (by omega)]; omega
def hexOk (l : List UInt8) : Prop := l.length = 128 ∧ ∀ i, i < 128 → hv (l.getD i 0).toNat < 16
instance (l : List UInt8) : Decidable (hexOk l) := by unfold hexOk; infer_instance
def lineV (l : List UInt8) : Nat → Nat := fun i => if hexOk l then hv (l.getD (2 * i) 0).toNat * 16 + hv (l.getD (2 * i + 1) 0).toNat else 0
theorem hexL_get (D : Nat → Nat) : ∀ (n i : Nat), i < n → (hexL D n).getD (2 * i) 0 = hexd (D i / 16) ∧ (hexL D n).getD (2 * i + 1) 0 = hexd (D i % 16)
  | 0, _, h => by omega
  | n + 1, i, h => by
    have hl := hexL_len D n
    by_cases e : i = n
    · subst e
      simp only [hexL, List.getD_eq_getElem?_getD]
      rw [List.getElem?_append_right (by omega), List.getElem?_append_right (by omega), hl]
      simp
    · obtain ⟨h1, h2⟩ := hexL_get D n i (by omega)
      simp only [hexL, List.getD_eq_getElem?_getD] at h1 h2 ⊢
      rw [List.getElem?_append_left (by omega), List.getElem?_append_left (by omega)]
      exact ⟨h1, h2⟩
theorem hexOk_hex {D : Nat → Nat} (hD : ∀ i, i < 64 → D i < 256) : hexOk (hexL D 64) := by
  refine ⟨hexL_len D 64, fun i hi => ?_⟩
  obtain ⟨h1, h2⟩ := hexL_get D 64 (i / 2) (by omega)
  have := hD (i / 2) (by omega)
  rcases Nat.mod_two_eq_zero_or_one i with e | e
  · rw [show i = 2 * (i / 2) by omega, h1, hv_hexd (by omega)]; omega
  · rw [show i = 2 * (i / 2) + 1 by omega, h2, hv_hexd (by omega)]; omega
theorem lineV_hex {D : Nat → Nat} (hD : ∀ i, i < 64 → D i < 256) : ∀ i, i < 64 → lineV (hexL D 64) i = D i := fun i hi => by
  obtain ⟨h1, h2⟩ := hexL_get D 64 i hi
  have := hD i hi
  unfold lineV
  rw [if_pos (hexOk_hex hD), h1, h2, hv_hexd (by omega), hv_hexd (by omega)]; omega
theorem hexd_no (n : Nat) (h : n < 16) : 48 ≤ (hexd n).toNat := by
  unfold hexd; split <;> rw [UInt8.toNat_ofNat'] <;> omega
theorem hexL_no {D : Nat → Nat} (hD : ∀ i, i < 64 → D i < 256) : ∀ n, n ≤ 64 → ∀ c ∈ hexL D n, 48 ≤ c.toNat
  | 0, _, c, h => by simp [hexL] at h
  | n + 1, hn, c, h => by
    simp only [hexL, List.mem_append, List.mem_cons, List.not_mem_nil, or_false] at h
    have := hD n (by omega)
    rcases h with h | rfl | rfl
    · exact hexL_no hD n (by omega) c h
    · exact hexd_no _ (by omega)
    · exact hexd_no _ (by omega)
theorem hexL_same {D E : Nat → Nat} : ∀ n, (∀ i, i < n → D i = E i) → hexL D n = hexL E n
  | 0, _ => rfl
  | n + 1, h => by rw [hexL, hexL, hexL_same n fun i hi => h i (by omega), h n (by omega)]
/-! ### words -/
def wordB (k : Nat) : List UInt8 := [[], [114, 101, 97, 100], [119, 114, 105, 116, 101], [109, 97, 115, 107], [115, 99, 114, 117, 98], [99, 111, 112, 121], [116, 105, 99, 107], [99, 108, 101, 97, 114]].getD k []
def faultB (k : Nat) : List UInt8 := [[], [102, 108, 105, 112], [115, 116, 117, 99, 107], [114, 111, 119], [99, 111, 108, 117, 109, 110], [99, 104, 105, 112], [115, 116, 114, 97, 121], [100, 114, 111, 112]].getD k []
def numsS (x : Stp) : List Int := if x.fk = 1 then [x.rk, x.bk, x.ro, x.co, x.bi] else if x.fk = 2 then [x.rk, x.bk, x.ro, x.co, x.bi, x.va] else if x.fk = 3 then [x.rk, x.bk, x.ro, x.ch, x.va]
  else if x.fk = 4 then [x.rk, x.bk, x.co, x.ch, x.va] else if x.fk = 5 then [x.rk, x.ch, x.va] else if x.fk = 6 then [x.rk, x.bk, x.ro, x.co] else []
def bareF (x : Stp) : Stp := if x.fk = 1 then ⟨8, 0, fun _ => 0, 0, x.fk, x.rk, x.bk, x.ro, x.co, 0, x.bi, 0⟩ else if x.fk = 2 then ⟨8, 0, fun _ => 0, 0, x.fk, x.rk, x.bk, x.ro, x.co, 0, x.bi, x.va⟩ else if x.fk = 3 then ⟨8, 0, fun _ => 0, 0, x.fk, x.rk, x.bk, x.ro, 0, x.ch, 0, x.va⟩
  else if x.fk = 4 then ⟨8, 0, fun _ => 0, 0, x.fk, x.rk, x.bk, 0, x.co, x.ch, 0, x.va⟩ else if x.fk = 5 then ⟨8, 0, fun _ => 0, 0, x.fk, x.rk, 0, 0, 0, x.ch, 0, x.va⟩ else if x.fk = 6 then ⟨8, 0, fun _ => 0, 0, x.fk, x.rk, x.bk, x.ro, x.co, 0, 0, 0⟩ else ⟨8, 0, fun _ => 0, 0, x.fk, 0, 0, 0, 0, 0, 0, 0⟩
def bareS (x : Stp) : Stp := if x.k = 1 then ⟨1, x.l, fun _ => 0, 0, 0, 0, 0, 0, 0, 0, 0, 0⟩ else if x.k = 2 then ⟨2, x.l, x.d, 0, 0, 0, 0, 0, 0, 0, 0, 0⟩ else if x.k = 3 then ⟨3, x.l, x.d, x.m, 0, 0, 0, 0, 0, 0, 0, 0⟩
  else if x.k = 8 then bareF x else ⟨x.k, 0, fun _ => 0, 0, 0, 0, 0, 0, 0, 0, 0, 0⟩
def wsS (x : Stp) : List (List UInt8) := if x.k = 8 then faultB x.fk.toNat :: (numsS x).map itoa else if x.k = 1 then [wordB 1, itoa x.l] else if x.k = 2 then [wordB 2, itoa x.l, hexL x.d 64] else if x.k = 3 then [wordB 3, itoa x.l, hexL x.d 64, decDigits x.m] else [wordB x.k.toNat]
def txtS (x : Stp) : List UInt8 := join (wsS x) [32]
def RightS (x : Stp) : Prop := 1 ≤ x.k ∧ x.k ≤ 8 ∧ SEQ x (bareS x) ∧ (x.k = 8 → 1 ≤ x.fk ∧ x.fk ≤ 7)
instance (x : Stp) : Decidable (RightS x) := by unfold RightS; infer_instance
def I64 (n : Int) : Prop := -9223372036854775808 ≤ n ∧ n ≤ 9223372036854775807
structure Rng (x : Stp) : Prop where
  k : I64 x.k
  l : I64 x.l
  d : ∀ i, i < 64 → x.d i < 256
  m : x.m < 18446744073709551616
  fk : I64 x.fk
  rk : I64 x.rk
  bk : I64 x.bk
  ro : I64 x.ro
  co : I64 x.co
  ch : I64 x.ch
  bi : I64 x.bi
  va : I64 x.va
/-! ### a text's step -/
def uintV (l : List UInt8) : Nat := match parseUintB 64 l with | .ok v => v | .range => 18446744073709551615 | _ => 0
def wAt (ws : List (List UInt8)) (i : Nat) : List UInt8 := ws.getD i []
def fillW (i : Nat) (ws : List (List UInt8)) : Stp := if i = 1 then ⟨1, atoiV (wAt ws 1), fun _ => 0, 0, 0, 0, 0, 0, 0, 0, 0, 0⟩ else if i = 2 then ⟨2, atoiV (wAt ws 1), lineV (wAt ws 2), 0, 0, 0, 0, 0, 0, 0, 0, 0⟩
  else if i = 3 then ⟨3, atoiV (wAt ws 1), lineV (wAt ws 2), uintV (wAt ws 3), 0, 0, 0, 0, 0, 0, 0, 0⟩ else ⟨(i : Int), 0, fun _ => 0, 0, 0, 0, 0, 0, 0, 0, 0, 0⟩
def nV (ws : List (List UInt8)) (j : Nat) : Int := atoiV (wAt ws (j + 1))
def fillF (i : Nat) (ws : List (List UInt8)) : Stp := if i = 1 then ⟨8, 0, fun _ => 0, 0, 1, nV ws 0, nV ws 1, nV ws 2, nV ws 3, 0, nV ws 4, 0⟩ else if i = 2 then ⟨8, 0, fun _ => 0, 0, 2, nV ws 0, nV ws 1, nV ws 2, nV ws 3, 0, nV ws 4, nV ws 5⟩
  else if i = 3 then ⟨8, 0, fun _ => 0, 0, 3, nV ws 0, nV ws 1, nV ws 2, 0, nV ws 3, 0, nV ws 4⟩ else if i = 4 then ⟨8, 0, fun _ => 0, 0, 4, nV ws 0, nV ws 1, 0, nV ws 2, nV ws 3, 0, nV ws 4⟩
  else if i = 5 then ⟨8, 0, fun _ => 0, 0, 5, nV ws 0, 0, 0, 0, nV ws 1, 0, nV ws 2⟩ else if i = 6 then ⟨8, 0, fun _ => 0, 0, 6, nV ws 0, nV ws 1, nV ws 2, nV ws 3, 0, 0, 0⟩ else ⟨8, 0, fun _ => 0, 0, (i : Int), 0, 0, 0, 0, 0, 0, 0⟩
def wIx (w : List UInt8) : Nat := if w = wordB 1 then 1 else if w = wordB 2 then 2 else if w = wordB 3 then 3 else if w = wordB 4 then 4 else if w = wordB 5 then 5 else if w = wordB 6 then 6 else if w = wordB 7 then 7 else 0
def fIx (w : List UInt8) : Nat := if w = faultB 1 then 1 else if w = faultB 2 then 2 else if w = faultB 3 then 3 else if w = faultB 4 then 4 else if w = faultB 5 then 5 else if w = faultB 6 then 6 else if w = faultB 7 then 7 else 0
def stepOf (l : List UInt8) : Stp := if 1 ≤ wIx (wAt (words l) 0) then fillW (wIx (wAt (words l) 0)) (words l) else if 1 ≤ fIx (wAt (words l) 0) then fillF (fIx (wAt (words l) 0)) (words l) else zeroS
def goodT (l : List UInt8) : Prop := 1 ≤ (stepOf l).k ∧ txtS (stepOf l) = l
instance (l : List UInt8) : Decidable (goodT l) := by unfold goodT; infer_instance
theorem wordB_no : ∀ k, ∀ c ∈ wordB k, 97 ≤ c.toNat := by
  intro k c h
  rcases Nat.lt_or_ge k 8 with h1 | h1
  · have : k = 0 ∨ k = 1 ∨ k = 2 ∨ k = 3 ∨ k = 4 ∨ k = 5 ∨ k = 6 ∨ k = 7 := by omega
    revert c
    rcases this with rfl | rfl | rfl | rfl | rfl | rfl | rfl | rfl <;> decide
  · have : wordB k = [] := by unfold wordB; rw [List.getD_eq_getElem?_getD, List.getElem?_eq_none (by simpa using h1)]; rfl
    rw [this] at h; simp at h
theorem faultB_no : ∀ k, ∀ c ∈ faultB k, 97 ≤ c.toNat := by
  intro k c h
  rcases Nat.lt_or_ge k 8 with h1 | h1
  · have : k = 0 ∨ k = 1 ∨ k = 2 ∨ k = 3 ∨ k = 4 ∨ k = 5 ∨ k = 6 ∨ k = 7 := by omega
    revert c
    rcases this with rfl | rfl | rfl | rfl | rfl | rfl | rfl | rfl <;> decide
  · have : faultB k = [] := by unfold faultB; rw [List.getD_eq_getElem?_getD, List.getElem?_eq_none (by simpa using h1)]; rfl
    rw [this] at h; simp at h
/-- No word has a sign below '-'. -/
theorem wsS_no {x : Stp} (hx : Rng x) : ∀ w ∈ wsS x, ∀ c ∈ w, 45 ≤ c.toNat := by
  have hi : ∀ n, ∀ c ∈ itoa n, 45 ≤ c.toNat := fun n c hc => by have := itoa_no n c hc; omega
  have hd : ∀ n, ∀ c ∈ decDigits n, 45 ≤ c.toNat := fun n c hc => by have := decDigits_digit n c hc; omega
  have hw : ∀ n, ∀ c ∈ wordB n, 45 ≤ c.toNat := fun n c hc => by have := wordB_no n c hc; omega
  have hf : ∀ n, ∀ c ∈ faultB n, 45 ≤ c.toNat := fun n c hc => by have := faultB_no n c hc; omega
  have hh : ∀ c ∈ hexL x.d 64, 45 ≤ c.toNat := fun c hc => by have := hexL_no hx.d 64 (Nat.le_refl _) c hc; omega
  intro w h
  unfold wsS at h
  by_cases h8 : x.k = 8
  · rw [if_pos h8] at h
    rcases List.mem_cons.1 h with e | e
    · rw [e]; exact hf _
    · obtain ⟨n, _, e⟩ := List.mem_map.1 e
      rw [← e]; exact hi _
  rw [if_neg h8] at h
  by_cases h1 : x.k = 1
  · rw [if_pos h1] at h
    rcases List.mem_cons.1 h with e | e
    · rw [e]; exact hw _
    · rw [List.mem_singleton.1 e]; exact hi _
  rw [if_neg h1] at h
  by_cases h2 : x.k = 2
  · rw [if_pos h2] at h
    rcases List.mem_cons.1 h with e | e
    · rw [e]; exact hw _
    rcases List.mem_cons.1 e with e | e
    · rw [e]; exact hi _
    · rw [List.mem_singleton.1 e]; exact hh
  rw [if_neg h2] at h
  by_cases h3 : x.k = 3
  · rw [if_pos h3] at h
    rcases List.mem_cons.1 h with e | e
    · rw [e]; exact hw _
    rcases List.mem_cons.1 e with e | e
    · rw [e]; exact hi _
    rcases List.mem_cons.1 e with e | e
    · rw [e]; exact hh
    · rw [List.mem_singleton.1 e]; exact hd _
  rw [if_neg h3] at h
  rw [List.mem_singleton.1 h]; exact hw _
theorem wsS_ne (x : Stp) : wsS x ≠ [] := by unfold wsS; split <;> (try split) <;> (try split) <;> (try split) <;> simp
theorem words_txt {x : Stp} (hx : Rng x) : words (txtS x) = wsS x := words_join (wsS_ne x) fun w hw c hc e => by
  have := wsS_no hx w hw c hc; rw [e] at this; exact absurd this (by decide)
theorem uintV_dec {u : Nat} (h : u < 18446744073709551616) : uintV (decDigits u) = u := by
  unfold uintV
  rw [parseUintB_64, parseMag_dec h]
end Go.Proofs.YtjbaabffilejeaaDoor
