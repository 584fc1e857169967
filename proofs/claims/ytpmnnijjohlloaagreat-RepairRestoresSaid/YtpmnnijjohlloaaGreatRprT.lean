/- The document's repair: what waits, as a slice of a row. -/
import Derived.Test.YtpmnnijjohlloaaGreatRprE
import Derived.Test.YtpmnnijjohlloaaGreatRemapY
namespace Go.Proofs.YtpmnnijjohlloaaGreat
open Go Go.RowKit
set_option linter.unusedVariables false
def sufA (a : Option Addr) (c l s : Nat) : Option Addr := if c = l then a else a.map (·.add (l * s))
/-- A slice that is what is left of a row. -/
def AskAt (fv : Value) (F : List Ent) (ad : Option Addr) (n c : Nat) (Q : List Ent) : Prop :=
  Q.length = n ∧ n ≤ c ∧ (ad = none → c = 0) ∧ (0 < n → ∃ g cap q, fv = .slice (some ⟨g, 0, none⟩) F.length cap ∧ ad = some ⟨g, q * 2, none⟩ ∧ Q = F.drop q)
section
variable {fv : Value} {F : List Ent} {ad : Option Addr} {n c : Nat} {Q : List Ent} {w : World} {ty : TypeId}
theorem entFlat : ∀ l : List Ent, (l.flatMap entL).length = l.length * 2
  | [] => rfl
  | x :: l => by rw [List.flatMap_cons, List.length_append, entFlat l, entLen, List.length_cons]; omega
theorem AskAt.at (h : AskAt fv F ad n c Q) (hn : 0 < n) : ∃ g off, ad = some ⟨g, off, none⟩ ∧ ∀ (w : World) (ty : TypeId), w.ownsRow 0 ty 2 fv F.length (F.flatMap entL) → ∀ i, i < n → ∀ (j : Nat) v, (entL (Q.getD i (0, 0)))[j]? = some v → w.cell? ⟨g, off + i * 2 + j, none⟩ = some v := by
  obtain ⟨h1, h2, h2', h3⟩ := h
  obtain ⟨g, cap, q, rfl, rfl, rfl⟩ := h3 hn
  refine ⟨g, q * 2, rfl, fun w ty ho i hi j v hj => ?_⟩
  have hq : (F.drop q).getD i (0, 0) = F.getD (q + i) (0, 0) := by simp [List.getD, List.getElem?_drop]
  rw [hq] at hj
  rw [List.length_drop] at h1
  have c := World.ownsRow.cells ho (g := g) rfl ((q + i) * 2 + j) v (flatAt entLen (0, 0) F (k := q + i) (by omega) j v hj)
  rw [add_none] at c
  have e : q * 2 + i * 2 + j = 0 + ((q + i) * 2 + j) := by omega
  rw [e]; exact c
theorem AskAt.tail (h : AskAt fv F ad n c Q) (hn : 0 < n) : AskAt fv F (sufA ad c 1 2) (n - 1) (c - 1) Q.tail := by
  obtain ⟨h1, h2, h2', h3⟩ := h
  obtain ⟨g, cap, q, e1, e2, e3⟩ := h3 hn
  refine ⟨by rw [List.length_tail]; omega, by omega, fun e => ?_, fun hn2 => ⟨g, cap, q + 1, e1, ?_, ?_⟩⟩
  · unfold sufA at e; rw [e2] at e; split at e <;> simp at e
  · unfold sufA; rw [if_neg (by omega), e2, Option.map_some, add_none]
    have : q * 2 + 1 * 2 = (q + 1) * 2 := by omega
    rw [this]
  · rw [e3]; simp
theorem AskAt.src (h : AskAt fv F ad n c Q) (ho : w.ownsRow 0 ty 2 fv F.length (F.flatMap entL)) : Src w 2 (.slice ad n c) n (Q.flatMap entL) := by
  obtain ⟨h1, h2, h2', h3⟩ := h
  by_cases hn : 0 < n
  · obtain ⟨g, cap, q, rfl, rfl, rfl⟩ := h3 hn
    refine .inr ⟨by rw [entFlat, h1], _, _, rfl, fun j u hj => ?_⟩
    rw [← flatDrop entLen, List.getElem?_drop] at hj
    have := World.ownsRow.cells ho (g := g) rfl _ u hj
    rw [add_none] at this ⊢
    simpa using this
  · have hq : Q = [] := List.eq_nil_of_length_eq_zero (by omega)
    subst hq
    cases ad with
    | none => exact .inl ⟨by rw [h2' rfl, show n = 0 by omega], by omega, rfl⟩
    | some a => exact .inr ⟨by rw [show n = 0 by omega]; rfl, a, c, rfl, fun j u hj => by simp at hj⟩
end
/-- What the document's repair has besides. -/
structure D21 where
  pv : Value
  kv : Value
  fv : Value
  Pg : List Ent
  Rk : List Ent
  F : List Ent
  ad : Option Addr
  n : Nat
  c : Nat
structure D21.Ok (pg sn ns : Nat) (x : Rp) (g : D21) : Prop where
  d : DocM pg sn ns x.L x.D x.S g.Pg g.Rk
  a : AskAt g.fv g.F g.ad g.n g.c x.Q
section
variable {r s b o c y z : Int} {sn pg ns : Nat} {x : Rp} {Pg Rk : List Ent}
theorem RpOk.reE0 (hL : Lay r s b o c y z pg sn ns) (h : RpOk r s b o c z sn pg ns x) (h1 : x.j.1 = 1) : reE sn pg x.pu x.D x.j.2.1 x.j.2.2.1 = 0 := by
  have hsn := hL.hsn
  have hpu := h.v.m.hp
  rcases h.jb with e | ⟨-, h2, h3, h4, h5, h6, h7, h8, h9⟩ | e
  · rw [e] at h1; cases h1
  · unfold reE
    rw [if_neg (by omega), if_neg]
    rintro (q | q | q)
    · rw [h3] at q; cases q
    · rw [h5] at q; cases q
    · exact h6 q
  · omega
theorem RpOk.rpE0 (hL : Lay r s b o c y z pg sn ns) (h : RpOk r s b o c z sn pg ns x) (h1 : x.j.1 = 2) : rpE r ns x.ru x.S x.j.2.1 x.j.2.2.1 = 0 := by
  rcases h.jb with e | e | ⟨-, h2, h3, h4, h5, h8, h9⟩
  · rw [e] at h1; cases h1
  · omega
  · unfold rpE; rw [if_neg (by omega), if_neg (fun q => q h3)]
theorem DocM.start {y : Rp} {a : Ent} (hd : DocM pg sn ns y.L y.D y.S Pg Rk) : DocM pg sn ns (y.start r s z sn a).L (y.start r s z sn a).D (y.start r s z sn a).S Pg Rk := by
  unfold Rp.start; split <;> split <;> exact hd
end
end Go.Proofs.YtpmnnijjohlloaaGreat
