/- A line's step, plain: what is written is read again. -/
import Derived.Test.YtjbaabffilejeaaDoorDrV
namespace Go.Proofs.YtjbaabffilejeaaDoor
open Go Go.Lib
set_option linter.unusedVariables false
theorem SEQ.symm {a b : Stp} (h : SEQ a b) : SEQ b a := by
  obtain ⟨h1, h2, h3, h4, h5, h6, h7, h8, h9, h10, h11, h12⟩ := h
  exact ⟨h1.symm, h2.symm, fun i hi => (h3 i hi).symm, h4.symm, h5.symm, h6.symm, h7.symm, h8.symm, h9.symm, h10.symm, h11.symm, h12.symm⟩
theorem SEQ.trans {a b c : Stp} (h : SEQ a b) (k : SEQ b c) : SEQ a c := by
  obtain ⟨h1, h2, h3, h4, h5, h6, h7, h8, h9, h10, h11, h12⟩ := h
  obtain ⟨k1, k2, k3, k4, k5, k6, k7, k8, k9, k10, k11, k12⟩ := k
  exact ⟨h1.trans k1, h2.trans k2, fun i hi => (h3 i hi).trans (k3 i hi), h4.trans k4, h5.trans k5, h6.trans k6, h7.trans k7, h8.trans k8, h9.trans k9, h10.trans k10, h11.trans k11, h12.trans k12⟩
theorem txtS_congr {a b : Stp} (h : SEQ a b) : txtS a = txtS b := by
  obtain ⟨h1, h2, h3, h4, h5, h6, h7, h8, h9, h10, h11, h12⟩ := h
  have hd := hexL_same (D := a.d) (E := b.d) 64 h3
  unfold txtS wsS numsS
  rw [h1, h2, hd, h4, h5, h6, h7, h8, h9, h10, h11, h12]
theorem atoiV_rng (l : List UInt8) : I64 (atoiV l) := by
  unfold atoiV I64
  cases h : atoiAll l
  · exact atoiAll_bounds h
  · exact ⟨by show -9223372036854775808 ≤ (0 : Int); decide, by show (0 : Int) ≤ _; decide⟩
  · unfold atoiSat; dsimp only; split <;> decide
theorem z64 : I64 0 := by unfold I64; decide
theorem lineV_lt (l : List UInt8) : ∀ i, i < 64 → lineV l i < 256 := fun i hi => by
  unfold lineV
  split
  · rename_i h
    have h1 := h.2 (2 * i) (by omega)
    have h2 := h.2 (2 * i + 1) (by omega)
    omega
  · decide
theorem uintV_lt (l : List UInt8) : uintV l < 18446744073709551616 := by
  unfold uintV
  cases h : parseUintB 64 l
  · have := parseUintB_le h; dsimp only; omega
  · decide
  · decide
theorem fillW_rng {i : Nat} (hi : i < 100) (ws : List (List UInt8)) : Rng (fillW i ws) := by
  have ha := atoiV_rng (wAt ws 1)
  have h1 : I64 1 := by unfold I64; decide
  have h2 : I64 2 := by unfold I64; decide
  have h3 : I64 3 := by unfold I64; decide
  unfold fillW
  split
  · exact ⟨h1, ha, fun _ _ => show (0 : Nat) < 256 by decide, show (0 : Nat) < _ by decide, z64, z64, z64, z64, z64, z64, z64, z64⟩
  split
  · exact ⟨h2, ha, lineV_lt _, show (0 : Nat) < _ by decide, z64, z64, z64, z64, z64, z64, z64, z64⟩
  split
  · exact ⟨h3, ha, lineV_lt _, uintV_lt _, z64, z64, z64, z64, z64, z64, z64, z64⟩
  · exact ⟨by show I64 (i : Int); unfold I64; omega, z64, fun _ _ => show (0 : Nat) < 256 by decide, show (0 : Nat) < _ by decide, z64, z64, z64, z64, z64, z64, z64, z64⟩
theorem fillW_right {i : Nat} (h1 : 1 ≤ i) (h7 : i ≤ 7) (ws : List (List UInt8)) : RightS (fillW i ws) := by
  have : i = 1 ∨ i = 2 ∨ i = 3 ∨ i = 4 ∨ i = 5 ∨ i = 6 ∨ i = 7 := by omega
  rcases this with rfl | rfl | rfl | rfl | rfl | rfl | rfl
  · exact ⟨show (1 : Int) ≤ 1 by decide, show (1 : Int) ≤ 8 by decide, SEQ.rfl' _, fun h => absurd (show (1 : Int) = 8 from h) (by decide)⟩
  · exact ⟨show (1 : Int) ≤ 2 by decide, show (2 : Int) ≤ 8 by decide, SEQ.rfl' _, fun h => absurd (show (2 : Int) = 8 from h) (by decide)⟩
  · exact ⟨show (1 : Int) ≤ 3 by decide, show (3 : Int) ≤ 8 by decide, SEQ.rfl' _, fun h => absurd (show (3 : Int) = 8 from h) (by decide)⟩
  · exact ⟨show (1 : Int) ≤ 4 by decide, show (4 : Int) ≤ 8 by decide, SEQ.rfl' _, fun h => absurd (show (4 : Int) = 8 from h) (by decide)⟩
  · exact ⟨show (1 : Int) ≤ 5 by decide, show (5 : Int) ≤ 8 by decide, SEQ.rfl' _, fun h => absurd (show (5 : Int) = 8 from h) (by decide)⟩
  · exact ⟨show (1 : Int) ≤ 6 by decide, show (6 : Int) ≤ 8 by decide, SEQ.rfl' _, fun h => absurd (show (6 : Int) = 8 from h) (by decide)⟩
  · exact ⟨show (1 : Int) ≤ 7 by decide, show (7 : Int) ≤ 8 by decide, SEQ.rfl' _, fun h => absurd (show (7 : Int) = 8 from h) (by decide)⟩
theorem nV_rng (ws : List (List UInt8)) (j : Nat) : I64 (nV ws j) := atoiV_rng _
theorem fillF_rng {i : Nat} (hi : i < 100) (ws : List (List UInt8)) : Rng (fillF i ws) := by
  have h8 : I64 8 := by unfold I64; decide
  have n := nV_rng ws
  have hd : ∀ j, j < 64 → (0 : Nat) < 256 := fun _ _ => by decide
  have hm : (0 : Nat) < 18446744073709551616 := by decide
  have hk : ∀ k : Int, 0 ≤ k → k < 100 → I64 k := fun k _ _ => by unfold I64; omega
  unfold fillF
  split
  · exact ⟨h8, z64, hd, hm, hk 1 (by decide) (by decide), n 0, n 1, n 2, n 3, z64, n 4, z64⟩
  split
  · exact ⟨h8, z64, hd, hm, hk 2 (by decide) (by decide), n 0, n 1, n 2, n 3, z64, n 4, n 5⟩
  split
  · exact ⟨h8, z64, hd, hm, hk 3 (by decide) (by decide), n 0, n 1, n 2, z64, n 3, z64, n 4⟩
  split
  · exact ⟨h8, z64, hd, hm, hk 4 (by decide) (by decide), n 0, n 1, z64, n 2, n 3, z64, n 4⟩
  split
  · exact ⟨h8, z64, hd, hm, hk 5 (by decide) (by decide), n 0, z64, z64, z64, n 1, z64, n 2⟩
  split
  · exact ⟨h8, z64, hd, hm, hk 6 (by decide) (by decide), n 0, n 1, n 2, n 3, z64, z64, z64⟩
  · exact ⟨h8, z64, hd, hm, hk (i : Int) (by omega) (by omega), z64, z64, z64, z64, z64, z64, z64⟩
theorem fillF_right {i : Nat} (h1 : 1 ≤ i) (h7 : i ≤ 7) (ws : List (List UInt8)) : RightS (fillF i ws) := by
  have e8 : (1 : Int) ≤ 8 := by decide
  have f8 : (8 : Int) ≤ 8 := by decide
  have : i = 1 ∨ i = 2 ∨ i = 3 ∨ i = 4 ∨ i = 5 ∨ i = 6 ∨ i = 7 := by omega
  rcases this with rfl | rfl | rfl | rfl | rfl | rfl | rfl
  · exact ⟨e8, f8, SEQ.rfl' _, fun _ => ⟨show (1 : Int) ≤ 1 by decide, show (1 : Int) ≤ 7 by decide⟩⟩
  · exact ⟨e8, f8, SEQ.rfl' _, fun _ => ⟨show (1 : Int) ≤ 2 by decide, show (2 : Int) ≤ 7 by decide⟩⟩
  · exact ⟨e8, f8, SEQ.rfl' _, fun _ => ⟨show (1 : Int) ≤ 3 by decide, show (3 : Int) ≤ 7 by decide⟩⟩
  · exact ⟨e8, f8, SEQ.rfl' _, fun _ => ⟨show (1 : Int) ≤ 4 by decide, show (4 : Int) ≤ 7 by decide⟩⟩
  · exact ⟨e8, f8, SEQ.rfl' _, fun _ => ⟨show (1 : Int) ≤ 5 by decide, show (5 : Int) ≤ 7 by decide⟩⟩
  · exact ⟨e8, f8, SEQ.rfl' _, fun _ => ⟨show (1 : Int) ≤ 6 by decide, show (6 : Int) ≤ 7 by decide⟩⟩
  · exact ⟨e8, f8, SEQ.rfl' _, fun _ => ⟨show (1 : Int) ≤ 7 by decide, show (7 : Int) ≤ 7 by decide⟩⟩
theorem wIx_le (w : List UInt8) : wIx w ≤ 7 := by unfold wIx; (repeat' split) <;> decide
theorem fIx_le (w : List UInt8) : fIx w ≤ 7 := by unfold fIx; (repeat' split) <;> decide
theorem wIx_eq {w : List UInt8} {i : Nat} (h : wIx w = i) (h0 : i ≠ 0) : w = wordB i := by
  unfold wIx at h
  split at h
  · rename_i e; rw [← h]; exact e
  split at h
  · rename_i e; rw [← h]; exact e
  split at h
  · rename_i e; rw [← h]; exact e
  split at h
  · rename_i e; rw [← h]; exact e
  split at h
  · rename_i e; rw [← h]; exact e
  split at h
  · rename_i e; rw [← h]; exact e
  split at h
  · rename_i e; rw [← h]; exact e
  · exact absurd h.symm h0
theorem fIx_w {w : List UInt8} {i : Nat} (h : wIx w = i) (h0 : i ≠ 0) : fIx w = 0 := by
  have h7 := wIx_le w
  rw [wIx_eq h h0]
  have : i = 1 ∨ i = 2 ∨ i = 3 ∨ i = 4 ∨ i = 5 ∨ i = 6 ∨ i = 7 := by omega
  rcases this with rfl | rfl | rfl | rfl | rfl | rfl | rfl <;> decide
theorem stepOf_w {l : List UInt8} {i : Nat} (h : wIx ((words l).getD 0 []) = i) (h1 : 1 ≤ i) : stepOf l = fillW i (words l) := by
  have h' : wIx (wAt (words l) 0) = i := h
  unfold stepOf; rw [h', if_pos h1]
theorem stepOf_f {l : List UInt8} {i : Nat} (h0 : wIx ((words l).getD 0 []) = 0) (h : fIx ((words l).getD 0 []) = i) (h1 : 1 ≤ i) : stepOf l = fillF i (words l) := by
  have h0' : wIx (wAt (words l) 0) = 0 := h0
  have h' : fIx (wAt (words l) 0) = i := h
  unfold stepOf; rw [h0', if_neg (by decide), h', if_pos h1]
theorem stepOf_0 {l : List UInt8} (h0 : wIx ((words l).getD 0 []) = 0) (h : fIx ((words l).getD 0 []) = 0) : stepOf l = zeroS := by
  have h0' : wIx (wAt (words l) 0) = 0 := h0
  have h' : fIx (wAt (words l) 0) = 0 := h
  unfold stepOf; rw [h0', if_neg (by decide), h', if_neg (by decide)]
/-- What Parse hands back. -/
def pres (X : Stp) (l : List UInt8) : Value := if txtS X = l then .tuple #[.agg (stepA X), .int .i64 0] else .tuple #[.agg (stepA zeroS), .int .i64 61]
theorem pres_yes {X : Stp} {l : List UInt8} (h : txtS X = l) : pres X l = .tuple #[.agg (stepA X), .int .i64 0] := if_pos h
theorem pres_no {X : Stp} {l : List UInt8} (h : ¬ txtS X = l) : pres X l = .tuple #[.agg (stepA zeroS), .int .i64 61] := if_neg h
/-- What is written is read again. -/
theorem stepOf_txt {x : Stp} (hr : RightS x) (hx : Rng x) : SEQ (stepOf (txtS x)) x := by
  obtain ⟨h1, h2, hs, hf⟩ := hr
  have hw := words_txt hx
  refine SEQ.trans ?_ hs.symm
  have ad : ∀ n, I64 n → atoiV (itoa n) = n := fun n h => atoiV_itoa h.1 h.2
  by_cases h8 : x.k = 8
  · obtain ⟨f1, f7⟩ := hf h8
    have hn := numsS_rng hx
    have ew : wsS x = faultB x.fk.toNat :: (numsS x).map itoa := by unfold wsS; rw [if_pos h8]
    have eb : bareS x = bareF x := by unfold bareS; rw [if_neg (by omega), if_neg (by omega), if_neg (by omega), if_pos h8]
    have : x.fk = 1 ∨ x.fk = 2 ∨ x.fk = 3 ∨ x.fk = 4 ∨ x.fk = 5 ∨ x.fk = 6 ∨ x.fk = 7 := by omega
    have go : ∀ i : Nat, 1 ≤ i → i ≤ 7 → x.fk = (i : Int) → stepOf (txtS x) = fillF i (wsS x) := fun i hi1 hi7 e => by
      have e2 : (wsS x).getD 0 [] = faultB i := by rw [ew, e]; rfl
      have h3 : i = 1 ∨ i = 2 ∨ i = 3 ∨ i = 4 ∨ i = 5 ∨ i = 6 ∨ i = 7 := by omega
      rw [← hw] at e2 ⊢
      refine stepOf_f ?_ ?_ hi1
      · rw [e2]; rcases h3 with rfl | rfl | rfl | rfl | rfl | rfl | rfl <;> decide
      · rw [e2]; rcases h3 with rfl | rfl | rfl | rfl | rfl | rfl | rfl <;> decide
    rw [eb]
    rcases this with e | e | e | e | e | e | e
    · rw [go 1 (by decide) (by decide) e, ew]
      have en : numsS x = [x.rk, x.bk, x.ro, x.co, x.bi] := by unfold numsS; rw [if_pos e]
      have eB : bareF x = ⟨8, 0, fun _ => 0, 0, x.fk, x.rk, x.bk, x.ro, x.co, 0, x.bi, 0⟩ := by unfold bareF; rw [if_pos e]
      rw [en, eB, e]
      exact ⟨rfl, rfl, fun _ _ => rfl, rfl, rfl, ad _ hx.rk, ad _ hx.bk, ad _ hx.ro, ad _ hx.co, rfl, ad _ hx.bi, rfl⟩
    · rw [go 2 (by decide) (by decide) e, ew]
      have en : numsS x = [x.rk, x.bk, x.ro, x.co, x.bi, x.va] := by unfold numsS; rw [if_neg (by omega), if_pos e]
      have eB : bareF x = ⟨8, 0, fun _ => 0, 0, x.fk, x.rk, x.bk, x.ro, x.co, 0, x.bi, x.va⟩ := by unfold bareF; rw [if_neg (by omega), if_pos e]
      rw [en, eB, e]
      exact ⟨rfl, rfl, fun _ _ => rfl, rfl, rfl, ad _ hx.rk, ad _ hx.bk, ad _ hx.ro, ad _ hx.co, rfl, ad _ hx.bi, ad _ hx.va⟩
    · rw [go 3 (by decide) (by decide) e, ew]
      have en : numsS x = [x.rk, x.bk, x.ro, x.ch, x.va] := by unfold numsS; rw [if_neg (by omega), if_neg (by omega), if_pos e]
      have eB : bareF x = ⟨8, 0, fun _ => 0, 0, x.fk, x.rk, x.bk, x.ro, 0, x.ch, 0, x.va⟩ := by unfold bareF; rw [if_neg (by omega), if_neg (by omega), if_pos e]
      rw [en, eB, e]
      exact ⟨rfl, rfl, fun _ _ => rfl, rfl, rfl, ad _ hx.rk, ad _ hx.bk, ad _ hx.ro, rfl, ad _ hx.ch, rfl, ad _ hx.va⟩
    · rw [go 4 (by decide) (by decide) e, ew]
      have en : numsS x = [x.rk, x.bk, x.co, x.ch, x.va] := by unfold numsS; rw [if_neg (by omega), if_neg (by omega), if_neg (by omega), if_pos e]
      have eB : bareF x = ⟨8, 0, fun _ => 0, 0, x.fk, x.rk, x.bk, 0, x.co, x.ch, 0, x.va⟩ := by unfold bareF; rw [if_neg (by omega), if_neg (by omega), if_neg (by omega), if_pos e]
      rw [en, eB, e]
      exact ⟨rfl, rfl, fun _ _ => rfl, rfl, rfl, ad _ hx.rk, ad _ hx.bk, rfl, ad _ hx.co, ad _ hx.ch, rfl, ad _ hx.va⟩
    · rw [go 5 (by decide) (by decide) e, ew]
      have en : numsS x = [x.rk, x.ch, x.va] := by unfold numsS; rw [if_neg (by omega), if_neg (by omega), if_neg (by omega), if_neg (by omega), if_pos e]
      have eB : bareF x = ⟨8, 0, fun _ => 0, 0, x.fk, x.rk, 0, 0, 0, x.ch, 0, x.va⟩ := by unfold bareF; rw [if_neg (by omega), if_neg (by omega), if_neg (by omega), if_neg (by omega), if_pos e]
      rw [en, eB, e]
      exact ⟨rfl, rfl, fun _ _ => rfl, rfl, rfl, ad _ hx.rk, rfl, rfl, rfl, ad _ hx.ch, rfl, ad _ hx.va⟩
    · rw [go 6 (by decide) (by decide) e, ew]
      have en : numsS x = [x.rk, x.bk, x.ro, x.co] := by unfold numsS; rw [if_neg (by omega), if_neg (by omega), if_neg (by omega), if_neg (by omega), if_neg (by omega), if_pos e]
      have eB : bareF x = ⟨8, 0, fun _ => 0, 0, x.fk, x.rk, x.bk, x.ro, x.co, 0, 0, 0⟩ := by unfold bareF; rw [if_neg (by omega), if_neg (by omega), if_neg (by omega), if_neg (by omega), if_neg (by omega), if_pos e]
      rw [en, eB, e]
      exact ⟨rfl, rfl, fun _ _ => rfl, rfl, rfl, ad _ hx.rk, ad _ hx.bk, ad _ hx.ro, ad _ hx.co, rfl, rfl, rfl⟩
    · rw [go 7 (by decide) (by decide) e, ew]
      have eB : bareF x = ⟨8, 0, fun _ => 0, 0, x.fk, 0, 0, 0, 0, 0, 0, 0⟩ := by unfold bareF; rw [if_neg (by omega), if_neg (by omega), if_neg (by omega), if_neg (by omega), if_neg (by omega), if_neg (by omega)]
      rw [eB, e]
      exact ⟨rfl, rfl, fun _ _ => rfl, rfl, rfl, rfl, rfl, rfl, rfl, rfl, rfl, rfl⟩
  have go : ∀ i : Nat, 1 ≤ i → i ≤ 7 → (wsS x).getD 0 [] = wordB i → stepOf (txtS x) = fillW i (wsS x) := fun i hi1 hi7 e2 => by
    have h3 : i = 1 ∨ i = 2 ∨ i = 3 ∨ i = 4 ∨ i = 5 ∨ i = 6 ∨ i = 7 := by omega
    rw [← hw] at e2 ⊢
    refine stepOf_w ?_ hi1
    rw [e2]; rcases h3 with rfl | rfl | rfl | rfl | rfl | rfl | rfl <;> decide
  by_cases k1 : x.k = 1
  · have ew : wsS x = [wordB 1, itoa x.l] := by unfold wsS; rw [if_neg h8, if_pos k1]
    have eB : bareS x = ⟨1, x.l, fun _ => 0, 0, 0, 0, 0, 0, 0, 0, 0, 0⟩ := by unfold bareS; rw [if_pos k1]
    rw [go 1 (by decide) (by decide) (by rw [ew]; rfl), ew, eB]
    exact ⟨rfl, ad _ hx.l, fun _ _ => rfl, rfl, rfl, rfl, rfl, rfl, rfl, rfl, rfl, rfl⟩
  by_cases k2 : x.k = 2
  · have ew : wsS x = [wordB 2, itoa x.l, hexL x.d 64] := by unfold wsS; rw [if_neg h8, if_neg k1, if_pos k2]
    have eB : bareS x = ⟨2, x.l, x.d, 0, 0, 0, 0, 0, 0, 0, 0, 0⟩ := by unfold bareS; rw [if_neg k1, if_pos k2]
    rw [go 2 (by decide) (by decide) (by rw [ew]; rfl), ew, eB]
    have hl := lineV_hex hx.d
    have ha := ad _ hx.l
    generalize hexL x.d 64 = X at hl ⊢
    generalize itoa x.l = Y at ha ⊢
    exact ⟨rfl, ha, hl, rfl, rfl, rfl, rfl, rfl, rfl, rfl, rfl, rfl⟩
  by_cases k3 : x.k = 3
  · have ew : wsS x = [wordB 3, itoa x.l, hexL x.d 64, decDigits x.m] := by unfold wsS; rw [if_neg h8, if_neg k1, if_neg k2, if_pos k3]
    have eB : bareS x = ⟨3, x.l, x.d, x.m, 0, 0, 0, 0, 0, 0, 0, 0⟩ := by unfold bareS; rw [if_neg k1, if_neg k2, if_pos k3]
    rw [go 3 (by decide) (by decide) (by rw [ew]; rfl), ew, eB]
    have hl := lineV_hex hx.d
    have ha := ad _ hx.l
    have hu := uintV_dec hx.m
    generalize hexL x.d 64 = X at hl ⊢
    generalize itoa x.l = Y at ha ⊢
    generalize decDigits x.m = Z at hu ⊢
    exact ⟨rfl, ha, hl, hu, rfl, rfl, rfl, rfl, rfl, rfl, rfl, rfl⟩
  have ew : wsS x = [wordB x.k.toNat] := by unfold wsS; rw [if_neg h8, if_neg k1, if_neg k2, if_neg k3]
  have eB : bareS x = ⟨x.k, 0, fun _ => 0, 0, 0, 0, 0, 0, 0, 0, 0, 0⟩ := by unfold bareS; rw [if_neg k1, if_neg k2, if_neg k3, if_neg h8]
  rw [go x.k.toNat (by omega) (by omega) (by rw [ew]; rfl), eB]
  unfold fillW
  rw [if_neg (by omega), if_neg (by omega), if_neg (by omega)]
  exact ⟨show ((x.k.toNat : Nat) : Int) = x.k by omega, rfl, fun _ _ => rfl, rfl, rfl, rfl, rfl, rfl, rfl, rfl, rfl, rfl⟩
theorem good_txt {x : Stp} (hr : RightS x) (hx : Rng x) : goodT (txtS x) := by
  have h := stepOf_txt hr hx
  exact ⟨by rw [h.1]; exact hr.1, txtS_congr h⟩
theorem join_mem : ∀ (xs : List (List UInt8)), ∀ c ∈ join xs [32], c = 32 ∨ ∃ x ∈ xs, c ∈ x
  | [], c, h => by simp [join_nil] at h
  | [x], c, h => by rw [join_one] at h; exact .inr ⟨x, by simp, h⟩
  | x :: y :: r, c, h => by
    have e : join (x :: y :: r) [32] = x ++ 32 :: join (y :: r) [32] := by simp [join, List.intercalate]
    rw [e, List.mem_append, List.mem_cons] at h
    rcases h with h | h | h
    · exact .inr ⟨x, by simp, h⟩
    · exact .inl h
    · rcases join_mem (y :: r) c h with h | ⟨z, hz, hc⟩
      · exact .inl h
      · exact .inr ⟨z, List.mem_cons_of_mem _ hz, hc⟩
theorem txtS_no {x : Stp} (hx : Rng x) : ∀ c ∈ txtS x, ¬ c.toNat = 10 := by
  intro c hc e
  rcases join_mem _ c hc with h | ⟨w, hw, hcw⟩
  · rw [h] at e; exact absurd e (by decide)
  · have := wsS_no hx w hw c hcw; omega
theorem wAt_len (l : List UInt8) (i : Nat) : (wAt (words l) i).length ≤ l.length := by
  unfold wAt
  rw [List.getD_eq_getElem?_getD]
  cases h : (words l)[i]? with
  | none => simp
  | some x => exact words_mem (List.mem_of_getElem? h)
theorem words_pos (l : List UInt8) : 0 < (words l).length := List.length_pos_iff.2 (words_ne l)
end Go.Proofs.YtjbaabffilejeaaDoor
