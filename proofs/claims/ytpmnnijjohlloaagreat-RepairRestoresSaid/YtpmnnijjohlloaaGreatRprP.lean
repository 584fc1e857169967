/- Things that wait, in a ring. Plain laws. -/
import Derived.Test.YtpmnnijjohlloaaGreatRemapV
import Derived.Test.YtpmnnijjohlloaaGreatPxF
namespace Go.Proofs.YtpmnnijjohlloaaGreat
open Go Go.RowKit
set_option linter.unusedVariables false
/-- A ring's cells hold what waits, in order. -/
structure RgOk (ls : List Ent) (ra qn : Nat) (Q : List Ent) : Prop where
  len : ls.length = 256
  ha : ra < 256
  hn : qn ≤ 256
  hQ : Q.length = qn
  el : ∀ i, i < qn → ls.getD ((ra + i) % 256) (0, 0) = Q.getD i (0, 0)
theorem RgOk.new : RgOk (List.replicate 256 (0, 0)) 0 0 [] := ⟨List.length_replicate, by decide, by decide, rfl, fun i h => by omega⟩
theorem getD_setE {α : Type} (l : List α) (i j : Nat) (x d : α) (hi : i < l.length) : (l.set i x).getD j d = if i = j then x else l.getD j d := by
  simp only [List.getD, List.getElem?_set]
  split
  · rename_i e; subst e; simp
  · rfl
theorem RgOk.push {ls : List Ent} {ra qn : Nat} {Q : List Ent} (h : RgOk ls ra qn Q) (hn : qn < 256) (x : Ent) : RgOk (ls.set ((ra + qn) % 256) x) ra (qn + 1) (Q ++ [x]) := by
  have h1 := h.len
  have h2 := h.ha
  have h3 := h.hQ
  refine ⟨by rw [List.length_set, h1], h2, by omega, by rw [List.length_append, h3]; rfl, fun i hi => ?_⟩
  rw [getD_setE _ _ _ _ _ (by omega)]
  by_cases e : i = qn
  · subst e; rw [if_pos rfl]; simp [List.getD, ← h3]
  · rw [if_neg (by omega), h.el i (by omega)]
    simp only [List.getD, List.getElem?_append_left (show i < Q.length by omega)]
theorem RgOk.pop {ls : List Ent} {ra m : Nat} {Q : List Ent} (h : RgOk ls ra (m + 1) Q) : RgOk (ls.set ra (0, 0)) ((ra + 1) % 256) m Q.tail ∧ ls.getD (ra % 256) (0, 0) = Q.getD 0 (0, 0) := by
  have h1 := h.len
  have h2 := h.ha
  have h3 := h.hQ
  have h4 := h.hn
  refine ⟨⟨by rw [List.length_set, h1], Nat.mod_lt _ (by decide), by omega, by rw [List.length_tail, h3]; rfl, fun i hi => ?_⟩, by have := h.el 0 (by omega); simpa using this⟩
  rw [getD_setE _ _ _ _ _ (by omega), if_neg (by omega)]
  have := h.el (i + 1) (by omega)
  rw [show ((ra + 1) % 256 + i) % 256 = (ra + (i + 1)) % 256 by omega, this]
  cases Q with
  | nil => simp
  | cons a Q => simp [List.getD]
abbrev QEnt := Nat × Ent
/-- What waits, with its place. -/
def idxQ (Q : List Ent) : List QEnt := (List.range Q.length).map fun i => (i, Q.getD i (0, 0))
theorem idxQ_len (Q : List Ent) : (idxQ Q).length = Q.length := by simp [idxQ]
theorem idxQ_get (Q : List Ent) (k : Nat) (h : k < Q.length) : (idxQ Q).getD k (0, (0, 0)) = (k, Q.getD k (0, 0)) := by simp [idxQ, List.getD, h]
theorem idxQ_mem {Q : List Ent} {y : QEnt} (h : y ∈ idxQ Q) : y.2 ∈ Q := by
  simp only [idxQ, List.mem_map, List.mem_range] at h
  obtain ⟨i, hi, rfl⟩ := h
  exact getD_mem hi (0, 0)
theorem mem_idxQ {Q : List Ent} {x : Ent} (h : x ∈ Q) : ∃ y ∈ idxQ Q, y.2 = x := by
  obtain ⟨k, hk, e⟩ := List.getElem_of_mem h
  exact ⟨(k, Q.getD k (0, 0)), by simp only [idxQ, List.mem_map, List.mem_range]; exact ⟨k, hk, rfl⟩, by simp [List.getD, hk, e]⟩
end Go.Proofs.YtpmnnijjohlloaaGreat
