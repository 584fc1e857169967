/- Arguments that are structs of plain cells and of slices of plain elements, opened all alike. -/
import Derived.Test.YtjbaabffilejeaaDoorOpen
import Derived.Test.YtjbaabffilejeaaDoorBase
import Derived.Test.YtjbaabffilejeaaDoorPx
namespace Go.Proofs.YtjbaabffilejeaaDoor
open Go Go.ChangeShapes Go.WideShapes Go.ChangeAt Go.RowKit
set_option linter.unusedVariables false
abbrev Fld := Lf ⊕ List Lf
def fldFits (w : World) : Fld → Value → Prop
  | .inl l, v => lfFits l v
  | .inr ls, v => ∃ (a : Option Addr) (len cap : Nat) (rows : List (List Value)), v = .slice a len cap ∧ len ≤ cap ∧ cap ≤ maxLen ∧ (a = none → cap = 0 ∧ len = 0) ∧ rowsAt w ls a len rows
def fitsMix (w : World) : List Fld → List Value → Prop
  | [], [] => True
  | l :: ls, v :: vs => fldFits w l v ∧ fitsMix w ls vs
  | _, _ => False
theorem fitsMix_nil {w : World} {cs : List Value} : fitsMix w [] cs ↔ cs = [] := by cases cs <;> simp [fitsMix]
theorem fitsMix_cons {w : World} {l : Fld} {ls : List Fld} {cs : List Value} : fitsMix w (l :: ls) cs ↔ ∃ v vs, cs = v :: vs ∧ fldFits w l v ∧ fitsMix w ls vs := by
  cases cs with
  | nil => simp [fitsMix]
  | cons v vs => constructor
                 · intro h; exact ⟨v, vs, rfl, h.1, h.2⟩
                 · rintro ⟨_, _, e, h⟩; cases e; exact h
theorem fitsMix_append {w : World} : ∀ {ls ms : List Fld} {cs ds : List Value}, fitsMix w ls cs → fitsMix w ms ds → fitsMix w (ls ++ ms) (cs ++ ds)
  | [], ms, cs, ds, h, h2 => by rw [fitsMix_nil.1 h]; exact h2
  | l :: ls, ms, cs, ds, h, h2 => by
    obtain ⟨v, vs, rfl, h0, h1⟩ := fitsMix_cons.1 h
    exact ⟨h0, fitsMix_append h1 h2⟩
theorem fitsMix_plain {w : World} : ∀ {ls : List Lf} {cs : List Value}, fitsAll ls cs → fitsMix w (ls.map .inl) cs
  | [], cs, h => by rw [fitsAll_nil.1 h]; exact True.intro
  | l :: ls, cs, h => by
    obtain ⟨v, vs, rfl, h0, h1⟩ := fitsAll_cons.1 h
    exact ⟨h0, fitsMix_plain h1⟩
/-- What one field is. -/
def mixF (P : Program) (t : TypeId) : Option (List Fld) := match P.underlying t with
  | some (.slice e) => match plain P 6 e with
    | some ls => if P.cellsOf e = ls.length ∧ P.cellsOf t = 1 then some [.inr ls] else none
    | none => none
  | _ => match plain P 6 t with
    | some ls => some (ls.map .inl)
    | none => none
def mixFs (P : Program) : Nat → List Field → Option (List Fld)
  | _, [] => some []
  | off, f :: fs => match mixF P f.type with
    | some ls => if f.offset = off ∧ ls.length = P.cellsOf f.type then
        match mixFs P (off + ls.length) fs with
        | some r => some (ls ++ r)
        | none => none
      else none
    | none => none
def mixed (P : Program) (t : TypeId) : Option (List Fld) := match P.underlying t with
  | some (.struct fs) => match mixFs P 0 fs.toList with
    | some ls => if ls.length = P.cellsOf t then some ls else none
    | none => none
  | _ => none
section
variable {H : Type} {enc : TypeId × Value → H} {P : Program} {w : World} {base : Nat} {spare : Nat → Bool} {held : Bool}
theorem trod_sliceMix {t e : TypeId} {ls : List Lf} {fuel : Nat} {cs : List Value} {x} (ht : P.underlying t = some (.slice e)) (hp : plain P 6 e = some ls) (hc : P.cellsOf e = ls.length)
    (hf : DataW.trod enc P w base spare held fuel t cs = some x) : ∃ v, cs = [v] ∧ fldFits w (.inr ls) v := by
  rcases DataW.trod_slice ht hf with ⟨h0, _⟩ | ⟨a', len, cap, elems, rest, m, _, h1, _, hb, hl, hm, hlen, hel, hsp, hns⟩
  · exact ⟨_, h0, none, 0, 0, [], rfl, Nat.le_refl _, Nat.zero_le _, fun _ => ⟨rfl, rfl⟩, rfl, by simp, fun _ => rfl, fun b hb => by cases hb⟩
  · refine ⟨_, h1, ?_⟩
    have each : ∀ i, i < len → ∃ cs, w.cells? base (a'.add (i * P.cellsOf e)) (P.cellsOf e) = some cs ∧ fitsAll ls cs := by
      intro i hi
      have hx : i < elems.length := by omega
      have h2 := hel i hi
      rw [List.getElem?_eq_getElem hx] at h2
      cases h3 : w.cells? base (a'.add (i * P.cellsOf e)) (P.cellsOf e) with
      | none => rw [h3] at h2; cases h2
      | some cs =>
        rw [h3] at h2
        exact ⟨cs, rfl, trod_plain 6 e ls _ _ _ hp h2⟩
    let row (i : Nat) : List Value := (w.cells? base (a'.add (i * P.cellsOf e)) (P.cellsOf e)).getD []
    refine ⟨some a', len, cap, (List.range len).map row, rfl, hl, hm, (fun hn => nomatch hn), by simp, ?_, (fun hn => nomatch hn), ?_⟩
    · intro r hr
      obtain ⟨i, hi, rfl⟩ := List.mem_map.1 hr
      obtain ⟨cs, g1, g2⟩ := each i (List.mem_range.1 hi)
      show fitsAll ls ((w.cells? base (a'.add (i * P.cellsOf e)) (P.cellsOf e)).getD [])
      rw [g1]; exact g2
    · intro b hb i j v hv
      cases hb
      by_cases hi : i < len
      · obtain ⟨cs, g1, g2⟩ := each i hi
        have : ((List.range len).map row)[i]?.getD [] = cs := by
          simp [hi, row, g1]
        rw [this] at hv
        rw [← hc]
        exact (cells_row g1).2 j v hv
      · have : ((List.range len).map row)[i]?.getD [] = [] := by simp [hi]
        rw [this] at hv
        cases hv
theorem trod_mixF {t : TypeId} {ls : List Fld} {fuel : Nat} {cs : List Value} {x} (h1 : mixF P t = some ls) (h2 : DataW.trod enc P w base spare held fuel t cs = some x) : fitsMix w ls cs := by
  unfold mixF at h1
  split at h1
  · rename_i e hu
    cases hp : plain P 6 e with
    | none => rw [hp] at h1; cases h1
    | some l0 =>
      rw [hp] at h1
      simp only at h1
      by_cases hc : P.cellsOf e = l0.length ∧ P.cellsOf t = 1
      · rw [if_pos hc] at h1
        simp only [Option.some.injEq] at h1
        subst h1
        obtain ⟨v, rfl, hv⟩ := trod_sliceMix hu hp hc.1 h2
        exact ⟨hv, True.intro⟩
      · rw [if_neg hc] at h1; cases h1
  · cases hp : plain P 6 t with
    | none => rw [hp] at h1; cases h1
    | some l0 =>
      rw [hp] at h1
      simp only [Option.some.injEq] at h1
      subst h1
      exact fitsMix_plain (trod_plain 6 t l0 _ _ _ hp h2)
theorem mix_fields {fuel : Nat} {cs : List Value} :
    ∀ (fs : List Field) (off : Nat) (ls : List Fld) (xs), mixFs P off fs = some ls →
      (fs.mapM fun f => DataW.trod enc P w base spare held fuel f.type ((cs.drop f.offset).take (P.cellsOf f.type))) = some xs →
      off + ls.length = cs.length → fitsMix w ls (cs.drop off)
  | [], off, ls, xs, h1, h2, h3 => by
    simp only [mixFs, Option.some.injEq] at h1
    subst h1
    rw [List.drop_eq_nil_of_le (by simp at h3; omega)]
    exact True.intro
  | f :: fs, off, ls, xs, h1, h2, h3 => by
    unfold mixFs at h1
    cases hr : mixF P f.type with
    | none => rw [hr] at h1; cases h1
    | some l0 =>
      rw [hr] at h1
      simp only at h1
      by_cases hc : f.offset = off ∧ l0.length = P.cellsOf f.type
      · rw [if_pos hc] at h1
        cases hs : mixFs P (off + l0.length) fs with
        | none => rw [hs] at h1; cases h1
        | some r =>
          rw [hs] at h1
          simp only [Option.some.injEq] at h1
          subst h1
          rw [List.mapM_cons] at h2
          cases hx : DataW.trod enc P w base spare held fuel f.type ((cs.drop f.offset).take (P.cellsOf f.type)) with
          | none => rw [hx] at h2; cases h2
          | some x0 =>
            rw [hx] at h2
            cases hy : (fs.mapM fun f => DataW.trod enc P w base spare held fuel f.type ((cs.drop f.offset).take (P.cellsOf f.type))) with
            | none => simp [hy] at h2
            | some ys =>
              have a := trod_mixF hr hx
              have b := mix_fields fs (off + l0.length) r ys hs hy (by simp at h3; omega)
              rw [hc.1, ← hc.2] at a
              have e : cs.drop off = (cs.drop off).take l0.length ++ cs.drop (off + l0.length) := by
                rw [← List.drop_drop]; exact (List.take_append_drop _ _).symm
              rw [e]
              exact fitsMix_append a b
      · rw [if_neg hc] at h1; cases h1
theorem trod_mixed {t : TypeId} {ls : List Fld} {fuel : Nat} {cs : List Value} {x} (h1 : mixed P t = some ls) (h2 : DataW.trod enc P w base spare held fuel t cs = some x) : fitsMix w ls cs := by
  cases fuel with
  | zero => simp [DataW.trod] at h2
  | succ fuel =>
  unfold mixed at h1
  unfold DataW.trod at h2
  split at h1
  · rename_i fs hu
    cases hp : mixFs P 0 fs.toList with
    | none => rw [hp] at h1; cases h1
    | some l0 =>
      rw [hp] at h1
      simp only at h1
      by_cases hc : l0.length = P.cellsOf t
      · rw [if_pos hc] at h1
        simp only [Option.some.injEq] at h1
        subst h1
        rw [hu] at h2
        simp only at h2
        by_cases hl : cs.length = P.cellsOf t
        · rw [if_pos hl] at h2
          cases hm : (fs.toList.mapM fun f => DataW.trod enc P w base spare held fuel f.type ((cs.drop f.offset).take (P.cellsOf f.type))) with
          | none => rw [hm] at h2; cases h2
          | some xs => simpa using mix_fields fs.toList 0 l0 xs hp hm (by omega)
        · rw [if_neg hl] at h2; cases h2
      · rw [if_neg hc] at h1; cases h1
  · cases h1
/-- A struct by value, with slices. -/
theorem open_mixed {r : Reach} {b0 : Nat} {t : TypeId} {fs : Array Field} {ls : List Fld} {v : Value} {d : DataW H} {p : List MemPlace} (hp : mixed P t = some ls) (hs : P.underlying t = some (.struct fs))
    (hv : Value.okWide P w r b0 t v) (h : DataW.Trod enc P w base spare held t v d p) : ∃ cs : List Value, v = .agg cs.toArray ∧ fitsMix w ls cs := by
  obtain ⟨cs, rfl, _⟩ := okWide_struct hs hv
  obtain ⟨fuel, hf⟩ := h
  exact ⟨cs.toList, by simp, trod_mixed hp hf⟩
end
/-- One of some values. -/
def nthV : List Value → Nat → Value
  | [], _ => undef
  | v :: _, 0 => v
  | _ :: l, n + 1 => nthV l n
/-- Some ints that are handed in. -/
def IntsAt (w0 : World) (ad : Option Addr) (n : Nat) (l : List Int) : Prop :=
  0 < n → ∃ g off, ad = some ⟨g, off, none⟩ ∧ ∀ w', Below w0.heap.size w0 w' → ∀ i, i < n → w'.cell? ⟨g, off + i, none⟩ = some (.int .i64 (l.getD i 0))
theorem IntsAt.at {w0 w : World} {ad : Option Addr} {n : Nat} {l : List Int} (h : IntsAt w0 ad n l) (hb : Below w0.heap.size w0 w) : IntsAt w ad n l := fun hn => by
  obtain ⟨g, off, e, h⟩ := h hn
  exact ⟨g, off, e, fun w' hw => h w' (belowKeep hb hw)⟩
theorem intsAt_of_rows {w : World} {a : Option Addr} {len : Nat} {rows : List (List Value)} (h : rowsAt w [.inl .i64] a len rows) :
    ∃ l : List Int, l.length = len ∧ IntsAt w a len l ∧ ∀ i, i < len → -9223372036854775808 ≤ l.getD i 0 ∧ l.getD i 0 ≤ 9223372036854775807 := by
  by_cases hn : 0 < len
  · obtain ⟨b, off, zs, ha, hb, hl, hc, hw⟩ := ints_of_rows h hn
    exact ⟨zs, hl, fun _ => ⟨b, off, ha, fun w' hb' i hi => cellKeep (hc i hi) hb'⟩, hw⟩
  · exact ⟨[], by simp; omega, fun h => absurd h hn, fun i hi => by omega⟩
/-- The same, as long as just the blocks of M are changed. -/
def IntsM (M : List Nat) (w0 : World) (ad : Option Addr) (n : Nat) (l : List Int) : Prop :=
  0 < n → ∃ g off, ad = some ⟨g, off, none⟩ ∧ ∀ w', Fr M w0 w' → ∀ i, i < n → w'.cell? ⟨g, off + i, none⟩ = some (.int .i64 (l.getD i 0))
theorem cellFr {w w' : World} {g off : Nat} {v : Value} (h : w.cell? ⟨g, off, none⟩ = some v) (e : w'.heap[g]? = w.heap[g]?) : w'.cell? ⟨g, off, none⟩ = some v := by
  rw [← h]; unfold World.cell?; rw [e]
theorem IntsAt.held {w0 w : World} {ad : Option Addr} {n : Nat} {l : List Int} {L : List Res} (h : IntsAt w0 ad n l) (H : Hs [] w0 w L) (ix : List Nat) (A : List Res) (hp : ix.map (fun i => L[i]?) = A.map some) : IntsM (fps A) w ad n l := fun hn => by
  obtain ⟨g, off, e, h⟩ := h hn
  refine ⟨g, off, e, fun w' hw i hi => ?_⟩
  have c0 := h w0 (Below.refl _ _) i hi
  have c1 := h w H.below i hi
  have hg := World.block_lt_of_cell? w0 _ c0
  refine cellFr c1 (hw.block g (World.block_lt_of_cell? w _ c1) fun hm => ?_)
  obtain ⟨j, r, hj, hgr⟩ := mem_fps hm
  have h1 : (A.map some)[j]? = some (some r) := by rw [List.getElem?_map, hj]; rfl
  rw [← hp, List.getElem?_map] at h1
  cases hk : ix[j]? with
  | none => rw [hk] at h1; cases h1
  | some k =>
    rw [hk] at h1
    simp only [Option.map_some, Option.some.injEq] at h1
    rcases H.my k r h1 g hgr with h2 | h2
    · simp at h2
    · simp at hg; omega
end Go.Proofs.YtjbaabffilejeaaDoor
