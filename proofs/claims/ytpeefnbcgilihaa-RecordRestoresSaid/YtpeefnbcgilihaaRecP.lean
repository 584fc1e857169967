/- A log that is played: plain. -/
import Derived.Test.YtpeefnbcgilihaaRecH
namespace Go.Proofs.Ytpeefnbcgilihaa
open Go Go.RowKit
set_option linter.unusedVariables false
abbrev LS := List Rec × Int × Bool
def stepP (room : Nat) (st : LS) (o : ROp) : LS :=
  if o.1 = 2 then ([], st.2.1, false) else ((addS room st.1 (st.2.1, o.2.2.2.1, o.2.2.2.2.1, o.2.2.2.2.2.1, o.2.2.2.2.2.2)).1, st.2.1 + 1, (st.2.2 || !(decide (st.1.length < room))))
def playK (room : Nat) (l : List ROp) : Nat → LS → LS
  | 0, st => st
  | k + 1, st => stepP room (playK room l k st) (l.getD k (0, 0, 0, 0, 0, 0, 0))
/-- The numbers rise, from 1 on, below the next one. -/
structure Ris (room : Nat) (m : Int) (st : LS) : Prop where
  len : st.1.length ≤ room
  up : st.1.Pairwise fun a b => a.1 < b.1
  bd : ∀ r ∈ st.1, 1 ≤ r.1 ∧ r.1 < st.2.1
  nx : 1 ≤ st.2.1 ∧ st.2.1 ≤ m
theorem Ris.step {room : Nat} {m : Int} {st : LS} (h : Ris room m st) (o : ROp) : Ris room (m + 1) (stepP room st o) := by
  have hn := h.nx
  unfold stepP
  split
  · exact ⟨Nat.zero_le _, List.Pairwise.nil, fun r hr => by simp at hr, by show 1 ≤ st.2.1 ∧ st.2.1 ≤ m + 1; omega⟩
  · refine ⟨addS_len _ _ _ h.len, ?_, fun r hr => ?_, by show 1 ≤ st.2.1 + 1 ∧ st.2.1 + 1 ≤ m + 1; omega⟩
    · show (addS room st.1 _).1.Pairwise _
      unfold addS
      split
      · exact List.pairwise_append.2 ⟨h.up, List.pairwise_singleton _ _, fun a ha b hb => by simp at hb; subst hb; exact (h.bd a ha).2⟩
      · split
        · exact List.pairwise_append.2 ⟨h.up.sublist (List.eraseIdx_sublist _ _), List.pairwise_singleton _ _, fun a ha b hb => by simp at hb; subst hb; exact (h.bd a (List.mem_of_mem_eraseIdx ha)).2⟩
        · exact h.up
    · show 1 ≤ r.1 ∧ r.1 < st.2.1 + 1
      have hr' : r ∈ st.1 ∨ r.1 = st.2.1 := by
        revert hr
        show r ∈ (addS room st.1 _).1 → _
        unfold addS
        split
        · intro hr; rcases List.mem_append.1 hr with h1 | h1
          · exact .inl h1
          · simp at h1; subst h1; exact .inr rfl
        · split
          · intro hr; rcases List.mem_append.1 hr with h1 | h1
            · exact .inl (List.mem_of_mem_eraseIdx h1)
            · simp at h1; subst h1; exact .inr rfl
          · exact fun hr => .inl hr
      rcases hr' with h1 | h1
      · have := h.bd r h1; omega
      · omega
theorem Ris.play {room : Nat} {m : Int} {st : LS} (h : Ris room m st) (l : List ROp) : ∀ k : Nat, Ris room (m + k) (playK room l k st)
  | 0 => by rw [show m + ((0 : Nat) : Int) = m by omega]; exact h
  | k + 1 => by
    have := (Ris.play h l k).step (l.getD k (0, 0, 0, 0, 0, 0, 0))
    rw [show m + ((k + 1 : Nat) : Int) = m + k + 1 by omega]
    exact this
theorem Ris.new (room : Nat) : Ris room 1 ([], 1, false) := ⟨Nat.zero_le _, List.Pairwise.nil, fun r hr => by simp at hr, by decide⟩
/-- The number ahead of a place. -/
def lastS (l : List Rec) : Nat → Int
  | 0 => 0
  | k + 1 => (l.getD k (0, 0, 0, 0, 0)).1
theorem Ris.rise {room : Nat} {m : Int} {st : LS} (h : Ris room m st) : ∀ i, i < st.1.length → lastS st.1 i < (st.1.getD i (0, 0, 0, 0, 0)).1 := fun i hi => by
  have e : st.1.getD i (0, 0, 0, 0, 0) = st.1[i] := by simp [List.getD, hi]
  cases i with
  | zero => have := h.bd st.1[0] (List.getElem_mem _); rw [e]; show 0 < _; omega
  | succ i =>
    have e2 : st.1.getD i (0, 0, 0, 0, 0) = st.1[i] := by simp [List.getD, show i < st.1.length by omega]
    rw [e]; show (st.1.getD i _).1 < _; rw [e2]
    exact List.pairwise_iff_getElem.1 h.up i (i + 1) (by omega) hi (by omega)
theorem Ris.last {room : Nat} {m : Int} {st : LS} (h : Ris room m st) : lastS st.1 st.1.length < st.2.1 := by
  cases hl : st.1.length with
  | zero => have := h.nx; show 0 < _; omega
  | succ k =>
    have e2 : st.1.getD k (0, 0, 0, 0, 0) = st.1[k] := by simp [List.getD, show k < st.1.length by omega]
    show (st.1.getD k _).1 < _; rw [e2]
    exact (h.bd _ (List.getElem_mem _)).2
/-- Some steps that are handed in, as long as just the blocks of M are changed. -/
def ROpsM (M : List Nat) (w0 : World) (ad : Option Addr) (n : Nat) (l : List ROp) : Prop :=
  0 < n → ∃ g off, ad = some ⟨g, off, none⟩ ∧ ∀ w', Fr M w0 w' → ∀ i, i < n → ∀ (j : Nat) v, (ropL (l.getD i (0, 0, 0, 0, 0, 0, 0)))[j]? = some v → w'.cell? ⟨g, off + i * 7 + j, none⟩ = some v
theorem ROpsAt.held {w0 w : World} {ad : Option Addr} {n : Nat} {l : List ROp} {L : List Res} (h : ROpsAt w0 ad n l) (H : Hs [] w0 w L) (ix : List Nat) (A : List Res) (hp : ix.map (fun i => L[i]?) = A.map some) : ROpsM (fps A) w ad n l := fun hn => by
  obtain ⟨g, off, e, h⟩ := h hn
  refine ⟨g, off, e, fun w' hw i hi j v hj => ?_⟩
  have c0 := h w0 (Below.refl _ _) i hi j v hj
  have c1 := h w H.below i hi j v hj
  have hg := World.block_lt_of_cell? w0 _ c0
  refine cellFr c1 (hw.block g (World.block_lt_of_cell? w _ c1) fun hm => ?_)
  obtain ⟨jj, r, hjj, hgr⟩ := mem_fps hm
  have h1 : (A.map some)[jj]? = some (some r) := by rw [List.getElem?_map, hjj]; rfl
  rw [← hp, List.getElem?_map] at h1
  cases hk : ix[jj]? with
  | none => rw [hk] at h1; cases h1
  | some k =>
    rw [hk] at h1
    simp only [Option.map_some, Option.some.injEq] at h1
    rcases H.my k r h1 g hgr with h2 | h2
    · simp at h2
    · simp at hg; omega
/-- A value that holds some records. -/
def RecsV (w : World) (u : Value) (n : Nat) (l : List Rec) : Prop := ∃ ad c, u = .slice ad n c ∧ (ad = none → c = 0 ∧ n = 0) ∧ RecsAt w ad n l
theorem recsV_row {w : World} {ty : TypeId} {u : Value} {l : List Rec} (h : w.ownsRow 0 ty 5 u l.length (List.flatMap recL l)) : RecsV w u l.length l := by
  rcases rowForm h with ⟨rfl, h0⟩ | ⟨g, cap, rfl, hc, _⟩
  · rw [h0]; exact ⟨none, 0, rfl, fun _ => ⟨rfl, rfl⟩, fun hn => absurd hn (by omega)⟩
  · refine ⟨_, cap, rfl, (fun h => by cases h), fun hn => ⟨g, 0, rfl, fun w' hw i hi j v hj => ?_⟩⟩
    have hx : (List.flatMap recL l)[i * 5 + j]? = some v := flatAt recLen (0, 0, 0, 0, 0) l hi j v hj
    have := World.ownsRow.cells h (g := g) rfl (i * 5 + j) v hx
    rw [add_none] at this
    exact cellKeep (by rw [show 0 + i * 5 + j = 0 + (i * 5 + j) by omega]; exact this) hw
theorem RecsV.src {w w' : World} {u : Value} {l : List Rec} (h : RecsV w u l.length l) (hb : Below w.heap.size w w') : Src w' 5 u l.length (List.flatMap recL l) := by
  obtain ⟨ad, c, rfl, h0, hA⟩ := h
  by_cases hn : 0 < l.length
  · obtain ⟨g, off, rfl, hc⟩ := hA hn
    refine .inr ⟨flatLen recLen l, _, _, rfl, fun j x hj => ?_⟩
    have hj5 : j < l.length * 5 := by rw [← flatLen recLen l]; exact (List.getElem?_eq_some_iff.1 hj).1
    have hi : j / 5 < l.length := Nat.div_lt_of_lt_mul (by omega)
    have e : j = j / 5 * 5 + j % 5 := by omega
    have hx : (recL (l.getD (j / 5) (0, 0, 0, 0, 0)))[j % 5]? = some x := by
      have hlt : j % 5 < (recL (l.getD (j / 5) (0, 0, 0, 0, 0))).length := by rw [recLen]; omega
      have q := flatAt recLen (0, 0, 0, 0, 0) l hi (j % 5) _ (List.getElem?_eq_getElem hlt)
      rw [← e, hj] at q
      rw [List.getElem?_eq_getElem hlt]; exact q.symm
    have q := hc w' hb (j / 5) hi (j % 5) x hx
    rw [add_none]
    rwa [show off + j / 5 * 5 + j % 5 = off + j by omega] at q
  · have hl : l = [] := List.length_eq_zero_iff.1 (by omega)
    subst hl
    cases ad with
    | none => obtain ⟨rfl, _⟩ := h0 rfl; exact .inl ⟨rfl, rfl, rfl⟩
    | some A => exact .inr ⟨rfl, _, _, rfl, fun j x hj => by simp at hj⟩
end Go.Proofs.Ytpeefnbcgilihaa
