/- Structs with arrays of numbers as arguments; a step that is handed in. -/
import Derived.Test.YtjbaabffilejeaaDoorOpen
import Derived.Test.YtjbaabffilejeaaDoorScrP
import Derived.OpenShut
namespace Go.Proofs.YtjbaabffilejeaaDoor
open Go Go.RowKit Go.ChangeShapes Go.WideShapes
set_option linter.unusedVariables false
def plainA (P : Program) : Nat → TypeId → Option (List Lf)
  | 0, _ => none
  | n + 1, t => match P.underlying t with
    | some (.int k) => some [.inl k]
    | some (.array k e) => match P.underlying e with
      | some (.int q) => if P.cellsOf e = 1 ∧ P.cellsOf t = k then some (List.replicate k (.inl q)) else none
      | _ => none
    | some (.struct fs) => match plainFs (plainA P n) P 0 fs.toList with
      | some ls => if ls.length = P.cellsOf t then some ls else none
      | none => none
    | _ => none
theorem fitsAll_rep (q : IntKind) : ∀ (n : Nat) (cs : List Value), cs.length = n → (∀ i, i < n → ∃ z, cs[i]? = some (.int q z) ∧ (Lit.int q z).wf = true) → fitsAll (List.replicate n (.inl q)) cs
  | 0, cs, h, _ => by rw [List.length_eq_zero_iff.1 h]; exact True.intro
  | n + 1, [], h, _ => by simp at h
  | n + 1, v :: vs, h, hv => by
    obtain ⟨z, hz, hw⟩ := hv 0 (by omega)
    simp only [List.getElem?_cons_zero, Option.some.injEq] at hz
    exact ⟨⟨z, hz, hw⟩, fitsAll_rep q n vs (by simpa using h) fun i hi => by simpa using hv (i + 1) (by omega)⟩
section
variable {H : Type} {enc : TypeId × Value → H} {P : Program} {w : World} {base : Nat} {spare : Nat → Bool} {held : Bool}
theorem fits_fieldsA {rec : TypeId → Option (List Lf)} {fuel : Nat} {cs : List Value} (ih : ∀ t ls fuel cs x, rec t = some ls → DataW.trod enc P w base spare held fuel t cs = some x → fitsAll ls cs) :
    ∀ (fs : List Field) (off : Nat) (ls : List Lf) (xs), plainFs rec P off fs = some ls →
      (fs.mapM fun f => DataW.trod enc P w base spare held fuel f.type ((cs.drop f.offset).take (P.cellsOf f.type))) = some xs →
      off + ls.length = cs.length → fitsAll ls (cs.drop off)
  | [], off, ls, xs, h1, h2, h3 => by
    simp only [plainFs, Option.some.injEq] at h1
    subst h1
    rw [List.drop_eq_nil_of_le (by simp at h3; omega)]
    exact True.intro
  | f :: fs, off, ls, xs, h1, h2, h3 => by
    unfold plainFs at h1
    cases hr : rec f.type with
    | none => rw [hr] at h1; cases h1
    | some l0 =>
      rw [hr] at h1
      simp only at h1
      by_cases hc : f.offset = off ∧ l0.length = P.cellsOf f.type
      · rw [if_pos hc] at h1
        cases hs : plainFs rec P (off + l0.length) fs with
        | none => rw [hs] at h1; cases h1
        | some r =>
          rw [hs] at h1
          simp only [Option.some.injEq] at h1
          subst h1
          rw [List.mapM_cons] at h2
          cases hx : DataW.trod enc P w base spare held fuel f.type ((cs.drop f.offset).take (P.cellsOf f.type)) with
          | none => rw [hx] at h2; cases h2
          | some x0 =>
            rw [hx] at h2
            cases hy : (fs.mapM fun f => DataW.trod enc P w base spare held fuel f.type ((cs.drop f.offset).take (P.cellsOf f.type))) with
            | none => simp [hy] at h2
            | some ys =>
              have a := ih _ _ _ _ _ hr hx
              have b := fits_fieldsA ih fs (off + l0.length) r ys hs hy (by simp at h3; omega)
              rw [hc.1, ← hc.2] at a
              have e : cs.drop off = (cs.drop off).take l0.length ++ cs.drop (off + l0.length) := by
                rw [← List.drop_drop]; exact (List.take_append_drop _ _).symm
              rw [e]
              exact fitsAll_append a b
      · rw [if_neg hc] at h1; cases h1
theorem trod_plainA : ∀ (n : Nat) (t : TypeId) (ls : List Lf) (fuel : Nat) (cs : List Value) (x), plainA P n t = some ls → DataW.trod enc P w base spare held fuel t cs = some x → fitsAll ls cs
  | 0, _, _, _, _, _, h, _ => by cases h
  | n + 1, t, ls, fuel, cs, x, h1, h2 => by
    unfold plainA at h1
    split at h1
    · rename_i k hu
      simp only [Option.some.injEq] at h1; subst h1
      obtain ⟨z, hc, _, hw⟩ := DataW.trod_int hu h2
      rw [hc]; exact ⟨⟨z, rfl, hw⟩, True.intro⟩
    · rename_i k e hu
      split at h1
      · rename_i q he
        split at h1
        · rename_i hc
          simp only [Option.some.injEq] at h1; subst h1
          obtain ⟨xs, m, _, _, hl, hn, hel⟩ := DataW.trod_array hu h2
          refine fitsAll_rep q k cs (by rw [hl, hc.2]) fun i hi => ?_
          have h3 := hel i hi
          rw [hc.1, Nat.mul_one] at h3
          obtain ⟨b, hb⟩ : ∃ b, xs[i]? = some b := ⟨_, List.getElem?_eq_getElem (by omega)⟩
          rw [hb] at h3
          obtain ⟨z, hz, _, hw⟩ := DataW.trod_int he h3
          refine ⟨z, ?_, hw⟩
          have := congrArg (·[0]?) hz
          simpa [List.getElem?_take, List.getElem?_drop] using this
        · cases h1
      · cases h1
    · rename_i fs hu
      cases hp : plainFs (plainA P n) P 0 fs.toList with
      | none => rw [hp] at h1; cases h1
      | some l0 =>
        rw [hp] at h1
        simp only at h1
        by_cases hc : l0.length = P.cellsOf t
        · rw [if_pos hc] at h1
          simp only [Option.some.injEq] at h1
          subst h1
          cases fuel with
          | zero => simp [DataW.trod] at h2
          | succ fuel =>
            unfold DataW.trod at h2
            rw [hu] at h2
            simp only at h2
            by_cases hl : cs.length = P.cellsOf t
            · rw [if_pos hl] at h2
              cases hm : (fs.toList.mapM fun f => DataW.trod enc P w base spare held fuel f.type ((cs.drop f.offset).take (P.cellsOf f.type))) with
              | none => rw [hm] at h2; cases h2
              | some xs => simpa using fits_fieldsA (fun t ls fuel cs x => trod_plainA n t ls fuel cs x) fs.toList 0 l0 xs hp hm (by omega)
            · rw [if_neg hl] at h2; cases h2
        · rw [if_neg hc] at h1; cases h1
    · cases h1
end
theorem fits_bytes : ∀ (n i : Nat) (ls : List Lf) (cs : List Value), fitsAll (List.replicate n (.inl .u8) ++ ls) cs → ∃ (D : Nat → Nat) (r : List Value), cs = arrL D n i ++ r ∧ (∀ j, i ≤ j → j < i + n → D j < 256) ∧ fitsAll ls r
  | 0, i, ls, cs, h => ⟨fun _ => 0, cs, rfl, fun j h1 h2 => by omega, h⟩
  | n + 1, i, ls, [], h => by simp [List.replicate_succ, fitsAll] at h
  | n + 1, i, ls, v :: vs, h => by
    rw [List.replicate_succ, List.cons_append] at h
    obtain ⟨⟨z, rfl, hz⟩, h2⟩ := h
    obtain ⟨D, r, e, hD, hr⟩ := fits_bytes n (i + 1) ls vs h2
    have hz' : 0 ≤ z ∧ z ≤ 255 := by
      have e1 : IntKind.u8.min = 0 := rfl
      have e2 : IntKind.u8.max = 255 := rfl
      simp [Lit.wf, e1, e2] at hz; omega
    refine ⟨fun j => if j = i then z.toNat else D j, r, ?_, fun j h1 h3 => ?_, hr⟩
    · rw [e]
      show Value.int .u8 z :: (arrL D n (i + 1) ++ r) = Value.int .u8 (((if i = i then z.toNat else D i : Nat) : Nat) : Int) :: (arrL (fun j => if j = i then z.toNat else D j) n (i + 1) ++ r)
      rw [if_pos rfl, show ((z.toNat : Nat) : Int) = z by omega, arrL_same (D := D) (E := fun j => if j = i then z.toNat else D j) n (i + 1) fun j h1 _ => by show D j = if j = i then _ else _; rw [if_neg (by omega)]]
    · dsimp only
      split
      · omega
      · exact hD j (by omega) (by omega)
theorem wf64 {z : Int} (h : (Lit.int .i64 z).wf = true) : I64 z := by
  have e1 : IntKind.i64.min = -9223372036854775808 := rfl
  have e2 : IntKind.i64.max = 9223372036854775807 := rfl
  simp [Lit.wf, e1, e2] at h
  exact ⟨by omega, by omega⟩
/-- A step's cells. -/
def stepLs : List Lf := .inl .i64 :: .inl .i64 :: (List.replicate 64 (.inl .u8) ++ [.inl .u64, .inl .i64, .inl .i64, .inl .i64, .inl .i64, .inl .i64, .inl .i64, .inl .i64, .inl .i64])
theorem step_of_fits {cs : List Value} (h : fitsAll stepLs cs) : ∃ x : Stp, cs = stepL x ∧ Rng x := by
  unfold stepLs at h
  obtain ⟨v1, vs1, e1, ⟨k, e1', wk⟩, h1⟩ := fitsAll_cons.1 h
  obtain ⟨v2, vs2, e2, ⟨l, e2', wl⟩, h2⟩ := fitsAll_cons.1 h1
  obtain ⟨D, r, e3, hD, h3⟩ := fits_bytes 64 0 _ _ h2
  subst e1' e2' e3 e2 e1
  clear h h1 h2
  simp only [fitsAll_cons, fitsAll_nil, lfFits] at h3
  obtain ⟨_, _, rfl, ⟨m, rfl, wm⟩, _, _, rfl, ⟨fk, rfl, w1⟩, _, _, rfl, ⟨rk, rfl, w2⟩, _, _, rfl, ⟨bk, rfl, w3⟩, _, _, rfl, ⟨ro, rfl, w4⟩, _, _, rfl, ⟨co, rfl, w5⟩, _, _, rfl, ⟨ch, rfl, w6⟩, _, _, rfl, ⟨bi, rfl, w7⟩, _, _, rfl, ⟨va, rfl, w8⟩, rfl⟩ := h3
  have hm : 0 ≤ m ∧ m ≤ 18446744073709551615 := by
    have e1 : IntKind.u64.min = 0 := rfl
    have e2 : IntKind.u64.max = 18446744073709551615 := rfl
    simp [Lit.wf, e1, e2] at wm; omega
  obtain ⟨m, rfl⟩ := Int.eq_ofNat_of_zero_le hm.1
  refine ⟨⟨k, l, D, m, fk, rk, bk, ro, co, ch, bi, va⟩, rfl, wf64 wk, wf64 wl, fun i hi => hD i (Nat.zero_le _) (by omega), by dsimp only; omega, wf64 w1, wf64 w2, wf64 w3, wf64 w4, wf64 w5, wf64 w6, wf64 w7, wf64 w8⟩
theorem plStep : plainA Tryd.prog 6 41 = some stepLs := by kernel_rfl
end Go.Proofs.YtjbaabffilejeaaDoor
