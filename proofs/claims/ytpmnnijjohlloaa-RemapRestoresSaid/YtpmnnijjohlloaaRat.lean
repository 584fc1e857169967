/- Slices of plain elements that are handed in: told as a list, by any coding of an element in cells. -/
import Derived.Test.YtpmnnijjohlloaaOpenMix
import Derived.Test.YtpmnnijjohlloaaPxD
namespace Go.Proofs.Ytpmnnijjohlloaa
open Go Go.RowKit
set_option linter.unusedVariables false
/-- A slice that is handed in holds these elements, and holds them on. -/
def RAt {α : Type} (f : α → List Value) (sz : Nat) (d : α) (w0 : World) (ad : Option Addr) (n : Nat) (l : List α) : Prop :=
  0 < n → ∃ g off, ad = some ⟨g, off, none⟩ ∧ ∀ w', Below w0.heap.size w0 w' → ∀ i, i < n → ∀ (j : Nat) v, (f (l.getD i d))[j]? = some v → w'.cell? ⟨g, off + i * sz + j, none⟩ = some v
theorem RAt.at {α : Type} {f : α → List Value} {sz : Nat} {d : α} {w0 w : World} {ad : Option Addr} {n : Nat} {l : List α} (h : RAt f sz d w0 ad n l) (hb : Below w0.heap.size w0 w) : RAt f sz d w ad n l := fun hn => by
  obtain ⟨g, off, e, hc⟩ := h hn
  exact ⟨g, off, e, fun w' hw' => hc w' (hb.trans (hw'.mono hb.size))⟩
theorem rat_of_rows {α : Type} {w : World} {lfs : List Lf} {a : Option Addr} {len : Nat} {rows : List (List Value)} (f : α → List Value) (sz : Nat) (d : α) (dec : List Value → α) (hd : ∀ r, fitsAll lfs r → f (dec r) = r) (hs : lfs.length = sz) (h0 : 0 < sz) (h : rowsAt w lfs a len rows) :
    ∃ l : List α, l.length = len ∧ RAt f sz d w a len l ∧ ∀ x ∈ l, ∃ r, fitsAll lfs r ∧ x = dec r := by
  have h1 := h.1
  have h2 := h.2.1
  have key : ∀ i, i < len → rows[i]?.getD [] = f ((rows.map dec).getD i d) := by
    intro i hi
    have hm : rows[i]'(by omega) ∈ rows := List.getElem_mem _
    rw [List.getElem?_eq_getElem (show i < rows.length by omega), Option.getD_some]
    simp only [List.getD_eq_getElem?_getD, List.getElem?_map, List.getElem?_eq_getElem (show i < rows.length by omega), Option.map_some, Option.getD_some]
    exact (hd _ (h2 _ hm)).symm
  refine ⟨rows.map dec, by simp [h1], fun hlen => ?_, fun x hx => ?_⟩
  · obtain ⟨b, off, ha, hb, hc⟩ := rowsAt_pos h hlen (by intro e; rw [e] at hs; simp at hs; omega)
    refine ⟨b, off, ha, fun w' hw i hi j v hj => ?_⟩
    have := hc i j v (by rw [key i hi]; exact hj)
    exact cellKeep (by simpa [hs] using this) hw
  · obtain ⟨r, hr, rfl⟩ := List.mem_map.1 hx
    exact ⟨r, h2 r hr, rfl⟩
/-- The same, as long as just the blocks of M are changed. -/
def RAtM {α : Type} (M : List Nat) (f : α → List Value) (sz : Nat) (d : α) (w0 : World) (ad : Option Addr) (n : Nat) (l : List α) : Prop :=
  0 < n → ∃ g off, ad = some ⟨g, off, none⟩ ∧ ∀ w', Fr M w0 w' → ∀ i, i < n → ∀ (j : Nat) v, (f (l.getD i d))[j]? = some v → w'.cell? ⟨g, off + i * sz + j, none⟩ = some v
theorem RAt.held {α : Type} {f : α → List Value} {sz : Nat} {d : α} (hf : ∀ x, 0 < (f x).length) {w0 w : World} {ad : Option Addr} {n : Nat} {l : List α} {L : List Res} (h : RAt f sz d w0 ad n l) (H : Hs [] w0 w L) (ix : List Nat) (A : List Res) (hp : ix.map (fun i => L[i]?) = A.map some) : RAtM (fps A) f sz d w ad n l := fun hn => by
  obtain ⟨g, off, e, h⟩ := h hn
  refine ⟨g, off, e, fun w' hw i hi j v hj => ?_⟩
  have c0 := h w0 (Below.refl _ _) i hi j v hj
  have c1 := h w H.below i hi j v hj
  have hg := World.block_lt_of_cell? w0 _ c0
  refine cellFr c1 (hw.block g (World.block_lt_of_cell? w _ c1) fun hm => ?_)
  obtain ⟨j2, r, hj2, hgr⟩ := mem_fps hm
  have h1 : (A.map some)[j2]? = some (some r) := by rw [List.getElem?_map, hj2]; rfl
  rw [← hp, List.getElem?_map] at h1
  cases hk : ix[j2]? with
  | none => rw [hk] at h1; cases h1
  | some k =>
    rw [hk] at h1
    simp only [Option.map_some, Option.some.injEq] at h1
    rcases H.my k r h1 g hgr with h2 | h2
    · simp at h2
    · simp at hg; omega
/-- What a row holds, as a slice that is handed in. -/
theorem RAt.ofRow {α : Type} {f : α → List Value} {sz : Nat} {d : α} (hf : ∀ x, (f x).length = sz) {w : World} {ty : TypeId} {n : Nat} {v : Value} {l : List α} (h : w.ownsRow 0 ty sz v n (l.flatMap f)) (hl : l.length = n) : ∃ ad c, v = .slice ad n c ∧ RAt f sz d w ad n l := by
  rcases h.2 with ⟨rfl, rfl⟩ | ⟨g, cap, cur, rfl, hb, hg, _⟩
  · exact ⟨none, 0, rfl, fun h => absurd h (Nat.lt_irrefl _)⟩
  · refine ⟨_, cap, rfl, fun hn => ⟨g, 0, rfl, fun w' hw i hi j x hj => ?_⟩⟩
    have c := World.ownsRow.cells h (g := g) rfl (i * sz + j) x (flatAt hf d l (by omega) j x hj)
    rw [add_none] at c
    have e : 0 + i * sz + j = 0 + (i * sz + j) := by omega
    rw [e]; exact cellKeep c hw
theorem RAt.src {α : Type} {f : α → List Value} {sz : Nat} {d : α} (hf : ∀ x, (f x).length = sz) {w0 w : World} {ad : Option Addr} {n c : Nat} {l : List α} (h : RAt f sz d w0 ad n l) (hl : l.length = n) (hb : Below w0.heap.size w0 w) (hn : 0 < n) : Src w sz (.slice ad n c) n (l.flatMap f) := by
  obtain ⟨g, off, rfl, hc⟩ := h hn
  refine .inr ⟨?_, _, _, rfl, fun j x hj => ?_⟩
  · have : ∀ l : List α, (l.flatMap f).length = l.length * sz := fun l => by
      induction l with
      | nil => simp
      | cons a l ih => rw [List.flatMap_cons, List.length_append, ih, hf, List.length_cons, Nat.succ_mul]; omega
    rw [this, hl]
  · have hlen : ∀ l : List α, (l.flatMap f).length = l.length * sz := fun l => by
      induction l with
      | nil => simp
      | cons a l ih => rw [List.flatMap_cons, List.length_append, ih, hf, List.length_cons, Nat.succ_mul]; omega
    have hj2 : j < n * sz := by
      have := (List.getElem?_eq_some_iff.1 hj).1
      rw [hlen, hl] at this; exact this
    have hsz : 0 < sz := by
      rcases Nat.eq_zero_or_pos sz with h0 | h0
      · subst h0; simp at hj2
      · exact h0
    have hq : j / sz < n := Nat.div_lt_of_lt_mul (by rw [Nat.mul_comm]; exact hj2)
    have hr : j % sz < sz := Nat.mod_lt _ hsz
    have hx : (f (l.getD (j / sz) d))[j % sz]? = some x := by
      have hlt : j % sz < (f (l.getD (j / sz) d)).length := by rw [hf]; exact hr
      have e2 := flatAt hf d l (k := j / sz) (by omega) (j % sz) _ (List.getElem?_eq_getElem hlt)
      rw [Nat.div_add_mod'] at e2
      rw [e2] at hj
      rw [List.getElem?_eq_getElem hlt]; exact hj
    have c := hc w hb (j / sz) hq (j % sz) x hx
    rw [add_none]
    have e3 : off + j / sz * sz + j % sz = off + j := by rw [Nat.add_assoc, Nat.div_add_mod']
    rw [← e3]; exact c
def intL (x : Int) : List Value := [.int .i64 x]
theorem ints1_of_rows {w : World} {a : Option Addr} {len : Nat} {rows : List (List Value)} (h : rowsAt w [.inl .i64] a len rows) : ∃ l : List Int, l.length = len ∧ RAt intL 1 0 w a len l := by
  obtain ⟨l, h1, h2, _⟩ := rat_of_rows intL 1 (0 : Int) (fun r => intOf (r[0]?.getD .nilFunc)) (fun r h => by
    simp only [fitsAll_cons, fitsAll_nil, lfFits] at h
    obtain ⟨_, _, rfl, ⟨x, rfl, wx⟩, rfl⟩ := h
    rfl) rfl (by decide) h
  exact ⟨l, h1, h2⟩
abbrev Int4 := Int × Int × Int × Int
def int4L (x : Int4) : List Value := [.int .i64 x.1, .int .i64 x.2.1, .int .i64 x.2.2.1, .int .i64 x.2.2.2]
def int4of (r : List Value) : Int4 := (intOf (r[0]?.getD .nilFunc), intOf (r[1]?.getD .nilFunc), intOf (r[2]?.getD .nilFunc), intOf (r[3]?.getD .nilFunc))
theorem int4_dec (r : List Value) (h : fitsAll [.inl .i64, .inl .i64, .inl .i64, .inl .i64] r) : int4L (int4of r) = r := by
  simp only [fitsAll_cons, fitsAll_nil, lfFits] at h
  obtain ⟨_, _, rfl, ⟨x, rfl, wx⟩, _, _, rfl, ⟨y, rfl, wy⟩, _, _, rfl, ⟨z, rfl, wz⟩, _, _, rfl, ⟨u, rfl, wu⟩, rfl⟩ := h
  simp [int4L, int4of, intOf]
theorem int4s_of_rows {w : World} {a : Option Addr} {len : Nat} {rows : List (List Value)} (h : rowsAt w [.inl .i64, .inl .i64, .inl .i64, .inl .i64] a len rows) : ∃ l : List Int4, l.length = len ∧ RAt int4L 4 (0, 0, 0, 0) w a len l := by
  obtain ⟨l, h1, h2, _⟩ := rat_of_rows int4L 4 (0, 0, 0, 0) int4of int4_dec rfl (by decide) h
  exact ⟨l, h1, h2⟩
end Go.Proofs.Ytpmnnijjohlloaa
