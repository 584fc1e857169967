/- Arguments of plain types (integers, truths, strings, structs of them, slices of them), opened all alike. -/
import Derived.Test.YtjbaabffilejeaaDoorRows
import Derived.WalkKit
import Derived.ProofKit
import Derived.OpenShut
namespace Go.Proofs.YtjbaabffilejeaaDoor
open Go Go.ChangeShapes Go.WideShapes Go.ChangeAt Go.RowKit
set_option linter.unusedVariables false

/-- A cell of a plain type: an integer of a kind; false: a truth; true: a string. -/
abbrev Lf := IntKind ⊕ Bool
def lfFits : Lf → Value → Prop
  | .inl k, v => ∃ n, v = .int k n ∧ (Lit.int k n).wf = true
  | .inr false, v => ∃ b, v = .bool b
  | .inr true, v => ∃ s : ByteArray, v = .string s ∧ s.size ≤ maxLen
def fitsAll : List Lf → List Value → Prop
  | [], [] => True
  | l :: ls, v :: vs => lfFits l v ∧ fitsAll ls vs
  | _, _ => False
theorem fitsAll_nil {cs : List Value} : fitsAll [] cs ↔ cs = [] := by cases cs <;> simp [fitsAll]
theorem fitsAll_cons {l : Lf} {ls : List Lf} {cs : List Value} : fitsAll (l :: ls) cs ↔ ∃ v vs, cs = v :: vs ∧ lfFits l v ∧ fitsAll ls vs := by
  cases cs with
  | nil => simp [fitsAll]
  | cons v vs => constructor
                 · intro h; exact ⟨v, vs, rfl, h.1, h.2⟩
                 · rintro ⟨_, _, e, h⟩; cases e; exact h
theorem fitsAll_length : ∀ {ls : List Lf} {cs : List Value}, fitsAll ls cs → cs.length = ls.length
  | [], cs, h => by rw [fitsAll_nil.1 h]; rfl
  | l :: ls, cs, h => by obtain ⟨v, vs, rfl, _, h2⟩ := fitsAll_cons.1 h; simp [fitsAll_length h2]
theorem fitsAll_append : ∀ {ls ms : List Lf} {cs ds : List Value}, fitsAll ls cs → fitsAll ms ds → fitsAll (ls ++ ms) (cs ++ ds)
  | [], ms, cs, ds, h, h2 => by rw [fitsAll_nil.1 h]; exact h2
  | l :: ls, ms, cs, ds, h, h2 => by
    obtain ⟨v, vs, rfl, h0, h1⟩ := fitsAll_cons.1 h
    exact ⟨h0, fitsAll_append h1 h2⟩

def plainFs (rec : TypeId → Option (List Lf)) (P : Program) : Nat → List Field → Option (List Lf)
  | _, [] => some []
  | off, f :: fs => match rec f.type with
    | some ls => if f.offset = off ∧ ls.length = P.cellsOf f.type then
        match plainFs rec P (off + ls.length) fs with
        | some r => some (ls ++ r)
        | none => none
      else none
    | none => none
def plain (P : Program) : Nat → TypeId → Option (List Lf)
  | 0, _ => none
  | n + 1, t => match P.underlying t with
    | some .bool => some [.inr false]
    | some (.int k) => some [.inl k]
    | some .string => some [.inr true]
    | some (.struct fs) => match plainFs (plain P n) P 0 fs.toList with
      | some ls => if ls.length = P.cellsOf t then some ls else none
      | none => none
    | _ => none

section
variable {H : Type} {enc : TypeId × Value → H} {P : Program} {w : World} {base : Nat} {spare : Nat → Bool} {held : Bool}

theorem fits_fields {n fuel : Nat} {cs : List Value} (ih : ∀ t ls fuel cs x, plain P n t = some ls → DataW.trod enc P w base spare held fuel t cs = some x → fitsAll ls cs) :
    ∀ (fs : List Field) (off : Nat) (ls : List Lf) (xs), plainFs (plain P n) P off fs = some ls →
      (fs.mapM fun f => DataW.trod enc P w base spare held fuel f.type ((cs.drop f.offset).take (P.cellsOf f.type))) = some xs →
      off + ls.length = cs.length → fitsAll ls (cs.drop off)
  | [], off, ls, xs, h1, h2, h3 => by
    simp only [plainFs, Option.some.injEq] at h1
    subst h1
    rw [List.drop_eq_nil_of_le (by simp at h3; omega)]
    exact True.intro
  | f :: fs, off, ls, xs, h1, h2, h3 => by
    unfold plainFs at h1
    cases hr : plain P n f.type with
    | none => rw [hr] at h1; cases h1
    | some l0 =>
      rw [hr] at h1
      simp only at h1
      by_cases hc : f.offset = off ∧ l0.length = P.cellsOf f.type
      · rw [if_pos hc] at h1
        cases hs : plainFs (plain P n) P (off + l0.length) fs with
        | none => rw [hs] at h1; cases h1
        | some r =>
          rw [hs] at h1
          simp only [Option.some.injEq] at h1
          subst h1
          rw [List.mapM_cons] at h2
          cases hx : DataW.trod enc P w base spare held fuel f.type ((cs.drop f.offset).take (P.cellsOf f.type)) with
          | none => rw [hx] at h2; cases h2
          | some x0 =>
            rw [hx] at h2
            cases hy : (fs.mapM fun f => DataW.trod enc P w base spare held fuel f.type ((cs.drop f.offset).take (P.cellsOf f.type))) with
            | none => simp [hy] at h2
            | some ys =>
              have a := ih _ _ _ _ _ hr hx
              have b := fits_fields ih fs (off + l0.length) r ys hs hy (by simp at h3; omega)
              rw [hc.1, ← hc.2] at a
              have e : cs.drop off = (cs.drop off).take l0.length ++ cs.drop (off + l0.length) := by
                rw [← List.drop_drop]; exact (List.take_append_drop _ _).symm
              rw [e]
              exact fitsAll_append a b
      · rw [if_neg hc] at h1; cases h1

theorem trod_plain : ∀ (n : Nat) (t : TypeId) (ls : List Lf) (fuel : Nat) (cs : List Value) (x), plain P n t = some ls → DataW.trod enc P w base spare held fuel t cs = some x → fitsAll ls cs
  | 0, _, _, _, _, _, h, _ => by cases h
  | n + 1, t, ls, 0, cs, x, _, h => by simp [DataW.trod] at h
  | n + 1, t, ls, fuel + 1, cs, x, h1, h2 => by
    unfold plain at h1
    unfold DataW.trod at h2
    split at h1
    · rename_i hu
      simp only [Option.some.injEq] at h1; subst h1
      rw [hu] at h2
      split at h2 <;> simp_all [fitsAll, lfFits]
    · rename_i k hu
      simp only [Option.some.injEq] at h1; subst h1
      rw [hu] at h2
      split at h2 <;> simp_all [fitsAll, lfFits]
    · rename_i hu
      simp only [Option.some.injEq] at h1; subst h1
      rw [hu] at h2
      split at h2 <;> simp_all [fitsAll, lfFits]
    · rename_i fs hu
      cases hp : plainFs (plain P n) P 0 fs.toList with
      | none => rw [hp] at h1; cases h1
      | some l0 =>
        rw [hp] at h1
        simp only at h1
        by_cases hc : l0.length = P.cellsOf t
        · rw [if_pos hc] at h1
          simp only [Option.some.injEq] at h1
          subst h1
          rw [hu] at h2
          simp only at h2
          by_cases hl : cs.length = P.cellsOf t
          · rw [if_pos hl] at h2
            cases hm : (fs.toList.mapM fun f => DataW.trod enc P w base spare held fuel f.type ((cs.drop f.offset).take (P.cellsOf f.type))) with
            | none => rw [hm] at h2; cases h2
            | some xs => simpa using fits_fields (fun t ls fuel cs x => trod_plain n t ls fuel cs x) fs.toList 0 l0 xs hp hm (by omega)
          · rw [if_neg hl] at h2; cases h2
        · rw [if_neg hc] at h1; cases h1
    · cases h1

/-- A struct by value. -/
theorem open_struct {r : Reach} {b0 : Nat} {t : TypeId} {fs : Array Field} {ls : List Lf} {v : Value} {d : DataW H} {p : List MemPlace} (n : Nat) (hp : plain P n t = some ls) (hs : P.underlying t = some (.struct fs))
    (hv : Value.okWide P w r b0 t v) (h : DataW.Trod enc P w base spare held t v d p) : ∃ cs : List Value, v = .agg cs.toArray ∧ fitsAll ls cs := by
  obtain ⟨cs, rfl, _⟩ := okWide_struct hs hv
  obtain ⟨fuel, hf⟩ := h
  exact ⟨cs.toList, by simp, trod_plain n t ls fuel _ _ hp hf⟩

/-- What a slice of plain elements holds: the rows, each cell at its place. -/
def rowsAt (w : World) (ls : List Lf) (a : Option Addr) (len : Nat) (rows : List (List Value)) : Prop :=
  rows.length = len ∧ (∀ r ∈ rows, fitsAll ls r) ∧ (a = none → len = 0) ∧
  ∀ b, a = some b → ∀ i j v, (rows[i]?.getD [])[j]? = some v → w.cell? ((b.add (i * ls.length)).add j) = some v

theorem cells_row {b : Addr} {n : Nat} {cs : List Value} (h : w.cells? base b n = some cs) : cs.length = n ∧ ∀ j v, cs[j]? = some v → w.cell? (b.add j) = some v := by
  unfold World.cells? at h
  split at h
  · have key : ∀ (l : List Nat) (cs : List Value), l.mapM (fun i => w.cell? (b.add i)) = some cs → cs.length = l.length ∧ ∀ (j : Nat) (v : Value), cs[j]? = some v → ∃ i, l[j]? = some i ∧ w.cell? (b.add i) = some v := by
      intro l
      induction l with
      | nil => intro cs h; simp at h; subst h; simp
      | cons i l ih =>
        intro cs h
        rw [List.mapM_cons] at h
        cases h1 : w.cell? (b.add i) with
        | none => rw [h1] at h; cases h
        | some v0 =>
          rw [h1] at h
          cases h2 : l.mapM (fun i => w.cell? (b.add i)) with
          | none => simp [h2] at h
          | some vs =>
            simp [h2] at h
            subst h
            obtain ⟨e1, e2⟩ := ih vs h2
            refine ⟨by simp [e1], fun j v hj => ?_⟩
            cases j with
            | zero => simp at hj; subst hj; exact ⟨i, rfl, h1⟩
            | succ j => simp at hj; obtain ⟨i', g1, g2⟩ := e2 j v hj; exact ⟨i', by simpa using g1, g2⟩
    obtain ⟨e1, e2⟩ := key _ _ h
    refine ⟨by simpa using e1, fun j v hj => ?_⟩
    obtain ⟨i, g1, g2⟩ := e2 j v hj
    rw [List.getElem?_range] at g1
    · cases g1; exact g2
    · have := (List.getElem?_eq_some_iff.1 hj).1
      simp at e1
      omega
  · cases h

theorem open_slice_plain {r : Reach} {b0 : Nat} {t e : TypeId} {ls : List Lf} {v : Value} {d : DataW H} {p : List MemPlace} (n : Nat) (ht : P.underlying t = some (.slice e)) (hp : plain P n e = some ls) (hc : P.cellsOf e = ls.length)
    (hv : Value.okWide P w r b0 t v) (h : DataW.Trod enc P w base spare held t v d p) :
    ∃ (a : Option Addr) (len cap : Nat) (rows : List (List Value)), v = .slice a len cap ∧ len ≤ cap ∧ cap ≤ maxLen ∧ rowsAt w ls a len rows := by
  obtain ⟨a, len, cap, rfl⟩ := okWide_slice ht hv
  obtain ⟨fuel, hf⟩ := h
  rcases DataW.trod_slice ht hf with ⟨h0, _⟩ | ⟨a', len', cap', elems, rest, m, _, h1, _, hb, hl, hm, hlen, hel, hsp, hns⟩
  · simp [Value.cells] at h0
    obtain ⟨rfl, rfl, rfl⟩ := h0
    exact ⟨none, 0, 0, [], rfl, Nat.le_refl _, Nat.zero_le _, rfl, by simp, fun _ => rfl, fun b hb => by cases hb⟩
  · simp [Value.cells] at h1
    obtain ⟨rfl, rfl, rfl⟩ := h1
    have each : ∀ i, i < len → ∃ cs, w.cells? base (a'.add (i * P.cellsOf e)) (P.cellsOf e) = some cs ∧ fitsAll ls cs := by
      intro i hi
      have hx : i < elems.length := by omega
      have h2 := hel i hi
      rw [List.getElem?_eq_getElem hx] at h2
      cases h3 : w.cells? base (a'.add (i * P.cellsOf e)) (P.cellsOf e) with
      | none => rw [h3] at h2; cases h2
      | some cs =>
        rw [h3] at h2
        exact ⟨cs, rfl, trod_plain n e ls _ _ _ hp h2⟩
    let row (i : Nat) : List Value := (w.cells? base (a'.add (i * P.cellsOf e)) (P.cellsOf e)).getD []
    refine ⟨some a', len, cap, (List.range len).map row, rfl, hl, hm, by simp, ?_, (fun hn => nomatch hn), ?_⟩
    · intro r hr
      obtain ⟨i, hi, rfl⟩ := List.mem_map.1 hr
      obtain ⟨cs, g1, g2⟩ := each i (List.mem_range.1 hi)
      show fitsAll ls ((w.cells? base (a'.add (i * P.cellsOf e)) (P.cellsOf e)).getD [])
      rw [g1]; exact g2
    · intro b hb i j v hv
      cases hb
      by_cases hi : i < len
      · obtain ⟨cs, g1, g2⟩ := each i hi
        have : ((List.range len).map row)[i]?.getD [] = cs := by
          simp [hi, row, g1]
        rw [this] at hv
        rw [← hc]
        exact (cells_row g1).2 j v hv
      · have : ((List.range len).map row)[i]?.getD [] = [] := by simp [hi]
        rw [this] at hv
        cases hv
/-- Where there is an element the slice begins at a plain place. -/
theorem rowsAt_pos {ls : List Lf} {a : Option Addr} {len : Nat} {rows : List (List Value)} (h : rowsAt w ls a len rows) (hlen : 0 < len) (hls : ls ≠ []) :
    ∃ b off, a = some ⟨b, off, none⟩ ∧ b < w.heap.size ∧ ∀ i j v, (rows[i]?.getD [])[j]? = some v → w.cell? ⟨b, off + i * ls.length + j, none⟩ = some v := by
  obtain ⟨h1, h2, h3, h4⟩ := h
  cases a with
  | none => have := h3 rfl; omega
  | some ad =>
    have hr0 : rows[0]?.getD [] ∈ rows := by
      rw [List.getElem?_eq_getElem (by omega)]; exact List.getElem_mem _
    have hl0 := fitsAll_length (h2 _ hr0)
    have hp : 0 < ls.length := by cases ls with
      | nil => exact absurd rfl hls
      | cons => simp
    have hc0 : ∃ v, (rows[0]?.getD [])[0]? = some v := ⟨_, List.getElem?_eq_getElem (by omega)⟩
    obtain ⟨v0, hv0⟩ := hc0
    have g := h4 ad rfl 0 0 v0 hv0
    have g' : w.cell? ad = some v0 := by simpa [Addr.add] using g
    obtain ⟨b, off, spot⟩ := ad
    have hsp : spot = none := World.cell?_spot g'
    subst hsp
    refine ⟨b, off, rfl, World.block_lt_of_cell? w _ g', fun i j v hv => ?_⟩
    have := h4 _ rfl i j v hv
    unfold Addr.add at this
    by_cases hi : i * ls.length = 0 <;> by_cases hj : j = 0
    all_goals simp [hi, hj] at this ⊢
    all_goals exact this
/-- A slice of ints: its numbers, at a plain place where there is one. -/
theorem ints_of_rows {a : Option Addr} {len : Nat} {rows : List (List Value)} (h : rowsAt w [.inl .i64] a len rows) (hlen : 0 < len) :
    ∃ (b off : Nat) (zs : List Int), a = some ⟨b, off, none⟩ ∧ b < w.heap.size ∧ zs.length = len ∧ (∀ i, i < len → w.cell? ⟨b, off + i, none⟩ = some (.int .i64 (zs.getD i 0))) ∧
      ∀ i, i < len → -9223372036854775808 ≤ zs.getD i 0 ∧ zs.getD i 0 ≤ 9223372036854775807 := by
  obtain ⟨b, off, rfl, hb, hc⟩ := rowsAt_pos h hlen (by simp)
  obtain ⟨h1, h2, -, -⟩ := h
  refine ⟨b, off, rows.map (fun r => intOf (r.headD .nilFunc)), rfl, hb, by simp [h1], ?_, ?_⟩
  all_goals
    intro i hi
    have hm : rows[i]'(by omega) ∈ rows := List.getElem_mem _
    have hf := h2 _ hm
    simp only [fitsAll_cons, fitsAll_nil, lfFits] at hf
    obtain ⟨_, _, hr, ⟨n, rfl, wn⟩, rfl⟩ := hf
    have e : (rows.map (fun r => intOf (r.headD .nilFunc))).getD i 0 = n := by
      simp [List.getD_eq_getElem?_getD, List.getElem?_map, List.getElem?_eq_getElem (show i < rows.length by omega), hr, intOf]
    rw [e]
  · have := hc i 0 (.int .i64 n) (by rw [List.getElem?_eq_getElem (show i < rows.length by omega)]; simp [hr])
    simpa using this
  · simp [Lit.wf, IntKind.min, IntKind.max, IntKind.signed, IntKind.bits] at wn; omega
end
end Go.Proofs.YtjbaabffilejeaaDoor
