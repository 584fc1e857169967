/- A table in which one value is heavier than all others: plain. -/
import Derived.Test.YtpeefnbcgilihaaTabB
namespace Go.Proofs.Ytpeefnbcgilihaa
open Go Go.RowKit
set_option linter.unusedVariables false
abbrev HV : Int := 1099511627776
structure Heavy (key : Int) (xs : List PairI) : Prop where
  ex : ∃ a b : List PairI, xs = a ++ (key, HV) :: b ∧ ∀ y ∈ a ++ b, y.1 ≠ key ∧ y.2 < HV
theorem Heavy.find {key : Int} {xs : List PairI} (h : Heavy key xs) : fkI xs key < xs.length ∧ (xs.getD (fkI xs key) (0, 0)).2 = HV := by
  obtain ⟨a, b, rfl, hy⟩ := h.ex
  have e : fkI (a ++ (key, HV) :: b) key = a.length := by
    unfold fkI
    rw [List.findIdx_append]
    have hn : ¬ List.findIdx (fun x => eqkI x.1 key) a < a.length := fun hlt => by
      have q := List.findIdx_getElem (w := hlt)
      have m := hy _ (List.mem_append_left b (List.getElem_mem hlt))
      exact m.1 (of_decide_eq_true q)
    rw [if_neg hn, List.findIdx_cons]
    simp [eqkI]
  rw [e]
  constructor
  · simp
  · simp [List.getD]
theorem Heavy.append {key : Int} {xs : List PairI} (h : Heavy key xs) {k v : Int} (hk : ¬ k = key) (hv : v < HV) : Heavy key (xs ++ [(k, v)]) := by
  obtain ⟨a, b, rfl, hy⟩ := h.ex
  refine ⟨a, b ++ [(k, v)], by simp, fun y hm => ?_⟩
  rw [← List.append_assoc] at hm
  rcases List.mem_append.1 hm with h1 | h1
  · exact hy y h1
  · simp at h1; subst h1; exact ⟨hk, hv⟩
theorem Heavy.erase {key : Int} {xs : List PairI} (h : Heavy key xs) {m : Nat} (hm : m < xs.length) (hne : ¬ xs.getD m (0, 0) = (key, HV)) : Heavy key (xs.eraseIdx m) := by
  obtain ⟨a, b, rfl, hy⟩ := h.ex
  by_cases h1 : m < a.length
  · rw [List.eraseIdx_append_of_lt_length h1]
    refine ⟨a.eraseIdx m, b, rfl, fun y hym => hy y ?_⟩
    rcases List.mem_append.1 hym with h2 | h2
    · exact List.mem_append_left _ (List.mem_of_mem_eraseIdx h2)
    · exact List.mem_append_right _ h2
  · rw [List.eraseIdx_append_of_length_le (by omega)]
    cases hd : m - a.length with
    | zero =>
      have e : m = a.length := by omega
      subst e
      exact absurd (by simp [List.getD]) hne
    | succ j =>
      rw [List.eraseIdx_cons_succ]
      refine ⟨a, b.eraseIdx j, rfl, fun y hym => hy y ?_⟩
      rcases List.mem_append.1 hym with h2 | h2
      · exact List.mem_append_left _ h2
      · exact List.mem_append_right _ (List.mem_of_mem_eraseIdx h2)
theorem Heavy.setAt {key : Int} {xs : List PairI} (h : Heavy key xs) {m : Nat} (hm : m < xs.length) {v : Int} (hk : ¬ (xs.getD m (0, 0)).1 = key) (hv : v < HV) : Heavy key (xs.set m ((xs.getD m (0, 0)).1, v)) := by
  obtain ⟨a, b, rfl, hy⟩ := h.ex
  generalize hx : ((a ++ (key, HV) :: b).getD m (0, 0)).1 = k at hk
  by_cases h1 : m < a.length
  · rw [List.set_append_left _ _ h1]
    refine ⟨a.set m (k, v), b, rfl, fun y hym => ?_⟩
    rcases List.mem_append.1 hym with h2 | h2
    · rcases List.mem_or_eq_of_mem_set h2 with h3 | h3
      · exact hy y (List.mem_append_left _ h3)
      · subst h3; exact ⟨hk, hv⟩
    · exact hy y (List.mem_append_right _ h2)
  · rw [List.set_append_right _ _ (by omega)]
    cases hd : m - a.length with
    | zero =>
      have e : m = a.length := by omega
      subst e
      exact absurd (by rw [← hx]; simp [List.getD]) hk
    | succ j =>
      rw [List.set_cons_succ]
      refine ⟨a, b.set j (k, v), rfl, fun y hym => ?_⟩
      rcases List.mem_append.1 hym with h2 | h2
      · exact hy y (List.mem_append_left _ h2)
      · rcases List.mem_or_eq_of_mem_set h2 with h3 | h3
        · exact hy y (List.mem_append_right _ h3)
        · subst h3; exact ⟨hk, hv⟩
theorem lt_le (xs : List PairI) : ∀ k, 0 < k → (ltI xs k).2 = (xs.getD (ltI xs k).1 (0, 0)).2 ∧ ∀ j, j < k → (ltI xs k).2 ≤ (xs.getD j (0, 0)).2
  | 0, h => absurd h (Nat.lt_irrefl _)
  | 1, _ => by
    rw [ltI, if_pos (.inl rfl)]
    exact ⟨rfl, fun j hj => by rw [show j = 0 by omega]; exact Int.le_refl _⟩
  | k + 2, _ => by
    have ih := lt_le xs (k + 1) (by omega)
    rw [ltI]
    split
    · rename_i h
      refine ⟨rfl, fun j hj => ?_⟩
      rcases h with h | h
      · omega
      · by_cases e : j = k + 1
        · rw [e]; exact Int.le_refl _
        · have := ih.2 j (by omega); show (xs.getD (k + 1) _).2 ≤ _; omega
    · rename_i h
      refine ⟨ih.1, fun j hj => ?_⟩
      by_cases e : j = k + 1
      · rw [e]; exact Int.not_lt.1 fun q => h (.inr q)
      · exact ih.2 j (by omega)
theorem Heavy.light {key : Int} {xs : List PairI} (h : Heavy key xs) (h2 : 2 ≤ xs.length) : ¬ xs.getD (ltI xs xs.length).1 (0, 0) = (key, HV) := fun hq => by
  obtain ⟨l1, l2⟩ := lt_le xs xs.length (by omega)
  rw [hq] at l1
  obtain ⟨a, b, rfl, hy⟩ := h.ex
  cases a with
  | cons x r =>
    have := l2 0 (by simp)
    rw [l1] at this
    have hx := hy x (by simp)
    simp [List.getD] at this
    omega
  | nil =>
    cases b with
    | nil => simp at h2
    | cons x r =>
      have := l2 1 (by simp)
      rw [l1] at this
      have hx := hy x (by simp)
      simp [List.getD] at this
      omega
theorem Heavy.put {key : Int} {xs : List PairI} {room : Nat} (h : Heavy key xs) (hr : 2 ≤ room) (hl : xs.length ≤ room) {k v : Int} (hk : ¬ k = key) (hv : v < HV) : Heavy key (putI room xs k v).1 ∧ (putI room xs k v).1.length ≤ room := by
  unfold putI
  split
  · rename_i hq
    have e := fk_atI xs k hq
    simp only [eqkI, decide_eq_true_eq] at e
    exact ⟨h.setAt hq (by rw [e]; exact hk) hv, by rw [List.length_set]; exact hl⟩
  · split
    · exact ⟨h.append hk hv, by simp; omega⟩
    · rename_i h1 h2
      have hlt := lt_ltI xs xs.length (by omega)
      exact ⟨(h.erase hlt (h.light (by omega))).append hk hv, by rw [List.length_append, List.length_eraseIdx, if_pos hlt]; simp; omega⟩
theorem Heavy.drop {key : Int} {xs : List PairI} (h : Heavy key xs) {k : Int} (hk : ¬ k = key) (hq : fkI xs k < xs.length) : Heavy key (xs.eraseIdx (fkI xs k)) := by
  have e := fk_atI xs k hq
  simp only [eqkI, decide_eq_true_eq] at e
  exact h.erase hq (fun q => hk (by rw [← e, q]))
theorem Heavy.first (key : Int) : Heavy key [(key, HV)] := ⟨[], [], rfl, fun y hy => by simp at hy⟩
end Go.Proofs.Ytpeefnbcgilihaa
