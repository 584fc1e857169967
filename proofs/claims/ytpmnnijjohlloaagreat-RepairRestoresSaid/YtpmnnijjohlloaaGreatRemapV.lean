/- The document's map: what took a place, in a list. Plain laws. -/
import Derived.Test.YtpmnnijjohlloaaGreatRemapS
import Derived.Test.YtpmnnijjohlloaaGreatRemapT
namespace Go.Proofs.YtpmnnijjohlloaaGreat
open Go Go.RowKit
set_option linter.unusedVariables false
abbrev Ent := Int × Int
def entL (x : Ent) : List Value := [.int .i64 x.1, .int .i64 x.2]
theorem entLen (x : Ent) : (entL x).length = 2 := rfl
theorem entOne (x : Ent) : ∀ v ∈ entL x, v.oneCell' = true := fun v hv => by
  simp only [entL, List.mem_cons, List.not_mem_nil, or_false] at hv
  rcases hv with rfl | rfl <;> rfl
/-- The place of the first that took from there. -/
def fIx (l : List Ent) (p : Int) : Nat := l.findIdx fun e => decide (e.1 = p)
/-- What took a place. -/
def fnd (l : List Ent) (p : Int) : Int := if fIx l p < l.length then (l.getD (fIx l p) (0, 0)).2 else -1
/-- Where a page lives in the end. -/
def chase (l : List Ent) (p : Int) : Int := l.foldl (fun q e => if q = e.1 then e.2 else q) p
theorem fIx_hit {l : List Ent} {p : Int} {k : Nat} (h : k < l.length) (hall : ∀ j, j < k → ¬ (l.getD j (0, 0)).1 = p) (he : (l.getD k (0, 0)).1 = p) : fIx l p = k := by
  unfold fIx
  rw [List.findIdx_eq h]
  constructor
  · have e : l.getD k (0, 0) = l[k] := by simp [List.getD, h]
    rw [e] at he; simp [he]
  · intro j hj
    have e : l.getD j (0, 0) = l[j] := by simp [List.getD, show j < l.length by omega]
    have q := hall j hj
    rw [e] at q; simp [q]
theorem fIx_at {l : List Ent} {p : Int} (h : fIx l p < l.length) : (l.getD (fIx l p) (0, 0)).1 = p := by
  have := List.findIdx_getElem (w := h)
  simp only [List.getD, List.getElem?_eq_getElem h, Option.getD_some]
  exact of_decide_eq_true this
theorem fIx_all {l : List Ent} {p : Int} : ∀ j, j < fIx l p → ¬ (l.getD j (0, 0)).1 = p := fun j hj => by
  have hl : j < l.length := Nat.lt_of_lt_of_le hj List.findIdx_le_length
  have q := List.not_of_lt_findIdx hj
  simp only [List.getD, List.getElem?_eq_getElem hl, Option.getD_some]
  simpa using q
theorem fIx_le (l : List Ent) (p : Int) : fIx l p ≤ l.length := List.findIdx_le_length
theorem fnd_miss {l : List Ent} {p : Int} (hall : ∀ j, j < l.length → ¬ (l.getD j (0, 0)).1 = p) : fnd l p = -1 := by
  unfold fnd; rw [if_neg]
  intro h; exact hall _ h (fIx_at h)
theorem fIx_no {l : List Ent} {p : Int} (h : ¬ fIx l p < l.length) : ∀ e ∈ l, e.1 ≠ p := fun e he e2 => by
  apply h; unfold fIx
  exact List.findIdx_lt_length_of_exists ⟨e, he, by simp [e2]⟩
theorem fnd_nn {l : List Ent} (hn : ∀ e ∈ l, 0 ≤ e.2) {p : Int} : 0 ≤ fnd l p ↔ fIx l p < l.length := by
  unfold fnd
  constructor
  · intro h; rcases Nat.lt_or_ge (fIx l p) l.length with z | z
    · exact z
    · rw [if_neg (by omega)] at h; omega
  · intro h; rw [if_pos h]
    have e : l.getD (fIx l p) (0, 0) = l[fIx l p] := by simp [List.getD, h]
    rw [e]; exact hn _ (List.getElem_mem h)
theorem fnd_ge {l : List Ent} (hn : ∀ e ∈ l, 0 ≤ e.2) (p : Int) : -1 ≤ fnd l p := by
  unfold fnd; split
  · rename_i h
    have e : l.getD (fIx l p) (0, 0) = l[fIx l p] := by simp [List.getD, h]
    rw [e]; have := hn _ (List.getElem_mem h); omega
  · omega
theorem fnd_ub {l : List Ent} {B : Int} (hB : 0 ≤ B) (hn : ∀ e ∈ l, e.2 ≤ B) (p : Int) : fnd l p ≤ B := by
  unfold fnd; split
  · rename_i h
    have e : l.getD (fIx l p) (0, 0) = l[fIx l p] := by simp [List.getD, h]
    rw [e]; exact hn _ (List.getElem_mem h)
  · omega
theorem fIx_snoc (l : List Ent) (h t p : Int) : fIx (l ++ [(h, t)]) p = if fIx l p < l.length then fIx l p else if h = p then l.length else l.length + 1 := by
  unfold fIx
  rw [List.findIdx_append]
  split
  · rfl
  · by_cases e : h = p <;> simp [e, List.findIdx_cons, Nat.add_comm]
theorem fnd_snoc (l : List Ent) (h t p : Int) : fnd (l ++ [(h, t)]) p = if fIx l p < l.length then fnd l p else if h = p then t else -1 := by
  unfold fnd
  rw [fIx_snoc]
  by_cases c : fIx l p < l.length
  · simp only [if_pos c, List.length_append, List.length_cons, List.length_nil]
    rw [if_pos (by omega)]
    simp [List.getD, List.getElem?_append_left c]
  · by_cases e : h = p
    · simp only [if_neg c, if_pos e, List.length_append, List.length_cons, List.length_nil]
      rw [if_pos (by omega)]
      simp [List.getD]
    · simp only [if_neg c, if_neg e, List.length_append, List.length_cons, List.length_nil]
      rw [if_neg (by omega)]
theorem chase_snoc (l : List Ent) (h t p : Int) : chase (l ++ [(h, t)]) p = if chase l p = h then t else chase l p := by
  unfold chase; rw [List.foldl_append]; rfl
theorem chase_skip : ∀ {l : List Ent} {p : Int}, (∀ e ∈ l, e.1 ≠ p) → chase l p = p
  | [], p, _ => rfl
  | e :: l, p, h => by
    unfold chase; rw [List.foldl_cons, if_neg (fun q => h e List.mem_cons_self q.symm)]
    exact chase_skip fun e' he => h e' (List.mem_cons_of_mem _ he)
theorem chase_append (a b : List Ent) (p : Int) : chase (a ++ b) p = chase b (chase a p) := by unfold chase; rw [List.foldl_append]
/-- What took a place is taken later at most. -/
def OkP (l : List Ent) : Prop := ∀ k, k < l.length → (∀ j, j < k → (l.getD j (0, 0)).1 ≠ (l.getD k (0, 0)).1) ∧ ∀ j, j ≤ k → (l.getD j (0, 0)).1 ≠ (l.getD k (0, 0)).2
theorem OkP.nil : OkP [] := fun k h => by simp at h
theorem getD_app {α : Type} (l : List α) (x d : α) (k : Nat) (h : k ≤ l.length) : (l ++ [x]).getD k d = if k = l.length then x else l.getD k d := by
  split
  · rename_i e; subst e; simp [List.getD]
  · simp only [List.getD, List.getElem?_append_left (show k < l.length by omega)]
theorem getD_mem {α : Type} {l : List α} {k : Nat} (h : k < l.length) (d : α) : l.getD k d ∈ l := by
  have e : l.getD k d = l[k] := by simp [List.getD, h]
  rw [e]; exact List.getElem_mem h
theorem OkP.snoc {l : List Ent} (hl : OkP l) {h t : Int} (h1 : ∀ e ∈ l, e.1 ≠ h) (h2 : ∀ e ∈ l, e.1 ≠ t) (h3 : h ≠ t) : OkP (l ++ [(h, t)]) := fun k hk => by
  rw [List.length_append, List.length_cons, List.length_nil] at hk
  rw [getD_app _ _ _ _ (by omega)]
  by_cases e : k = l.length
  · rw [if_pos e]
    refine ⟨fun j hj => ?_, fun j hj => ?_⟩
    · rw [getD_app _ _ _ _ (by omega), if_neg (by omega)]; exact h1 _ (getD_mem (by omega) _)
    · rw [getD_app _ _ _ _ (by omega)]
      split
      · exact h3
      · exact h2 _ (getD_mem (by omega) _)
  · rw [if_neg e]
    obtain ⟨a, b⟩ := hl k (by omega)
    refine ⟨fun j hj => ?_, fun j hj => ?_⟩
    · rw [getD_app _ _ _ _ (by omega), if_neg (by omega)]; exact a j hj
    · rw [getD_app _ _ _ _ (by omega), if_neg (by omega)]; exact b j hj
theorem chase_step {l : List Ent} (hl : OkP l) {p : Int} (h : fIx l p < l.length) : chase l (fnd l p) = chase l p ∧ fIx l p < fIx l (fnd l p) := by
  have hk := hl _ h
  have he := fIx_at h
  have hf : fnd l p = (l.getD (fIx l p) (0, 0)).2 := by unfold fnd; rw [if_pos h]
  have e0 : l.getD (fIx l p) (0, 0) = l[fIx l p] := by simp [List.getD, h]
  have dec : l = l.take (fIx l p) ++ l[fIx l p] :: l.drop (fIx l p + 1) := by rw [← List.drop_eq_getElem_cons h, List.take_append_drop]
  have hm : ∀ e ∈ l.take (fIx l p), ∃ j, j < fIx l p ∧ e = l.getD j (0, 0) := fun e he => by
    obtain ⟨j, hj, rfl⟩ := List.getElem_of_mem he
    have hj2 : j < fIx l p := by rw [List.length_take] at hj; omega
    refine ⟨j, hj2, ?_⟩
    simp [List.getD, show j < l.length by omega]
  have c1 : ∀ q, (∀ j, j < fIx l p → (l.getD j (0, 0)).1 ≠ q) → chase l q = chase (l[fIx l p] :: l.drop (fIx l p + 1)) q := fun q hq => by
    have : chase (l.take (fIx l p)) q = q := chase_skip fun e he => by
      obtain ⟨j, hj, rfl⟩ := hm e he
      exact hq j hj
    rw [show chase l q = chase (l.take (fIx l p) ++ l[fIx l p] :: l.drop (fIx l p + 1)) q from congrArg (fun x => chase x q) dec, chase_append, this]
  constructor
  · rw [c1 p (fun j hj => fIx_all j hj), c1 (fnd l p) (fun j hj => by rw [hf]; exact hk.2 j (by omega))]
    have a1 : chase (l[fIx l p] :: l.drop (fIx l p + 1)) p = chase (l.drop (fIx l p + 1)) (fnd l p) := by
      show List.foldl _ (if p = (l[fIx l p]).1 then (l[fIx l p]).2 else p) _ = _
      rw [e0] at he hf
      rw [if_pos he.symm, hf]; rfl
    have a2 : chase (l[fIx l p] :: l.drop (fIx l p + 1)) (fnd l p) = chase (l.drop (fIx l p + 1)) (fnd l p) := by
      show List.foldl _ (if fnd l p = (l[fIx l p]).1 then (l[fIx l p]).2 else fnd l p) _ = _
      have := hk.2 _ (Nat.le_refl _)
      rw [← hf, e0] at this
      rw [if_neg (fun z => this z.symm)]; rfl
    rw [a1, a2]
  · rcases Nat.lt_or_ge (fIx l p) (fIx l (fnd l p)) with z | z
    · exact z
    · have := fIx_at (l := l) (p := fnd l p) (by omega)
      exact absurd (this.trans hf) (hk.2 _ z)
theorem chase_end {l : List Ent} {p : Int} (h : ¬ fIx l p < l.length) : chase l p = p := chase_skip (fIx_no h)
/-- A map held against the document's. -/
structure DocM (pg sn ns : Nat) (L : List Int) (D : List Bool) (S : List Int) (Pg Rk : List Ent) : Prop where
  lv : ∀ k, k < sn → L.getD k 0 = chase Pg k
  dd : ∀ k, k < pg → D.getD k false = decide (0 ≤ fnd Pg k)
  sp : ∀ q, q < ns → S.getD q 0 = fnd Rk q
  ok : OkP Pg
  inn : ∀ e ∈ Pg, (0 ≤ e.1 ∧ e.1 < (pg : Int)) ∧ 0 ≤ e.2 ∧ e.2 < (pg : Int)
  rk : ∀ e ∈ Rk, (0 ≤ e.1 ∧ e.1 < (ns : Int)) ∧ 0 ≤ e.2 ∧ e.2 ≤ 64
theorem DocM.new (pg sn ns : Nat) : DocM pg sn ns (iota sn) (List.replicate pg false) (List.replicate ns (-1)) [] [] :=
  ⟨fun k hk => by rw [iota_get _ _ _ hk]; rfl, fun k hk => by rw [rep_get]; rfl, fun q hq => by simp [List.getD, hq, fnd, fIx], OkP.nil, fun e he => by simp at he, fun e he => by simp at he⟩
section
variable {r s z : Int} {sn pg ns : Nat} {L : List Int} {D : List Bool} {S : List Int} {pu ru : Nat} {Pg Rk : List Ent}
theorem DocM.nn (hd : DocM pg sn ns L D S Pg Rk) : ∀ e ∈ Pg, 0 ≤ e.2 := fun e he => (hd.inn e he).2.1
theorem DocM.rn (hd : DocM pg sn ns L D S Pg Rk) : ∀ e ∈ Rk, 0 ≤ e.2 := fun e he => (hd.rk e he).2.1
theorem DocM.none (hd : DocM pg sn ns L D S Pg Rk) {k : Nat} (hk : k < pg) (h : D.getD k false = false) : ∀ e ∈ Pg, e.1 ≠ (k : Int) := by
  rw [hd.dd k hk, decide_eq_false_iff_not, fnd_nn hd.nn] at h
  exact fIx_no h
theorem DocM.retire (hd : DocM pg sn ns L D S Pg Rk) (hV : MapV r s z sn pg ns L D S pu ru) (hp : sn + pu ≤ pg) {h t : Int} (e : reE sn pg pu D h t = 0) : DocM pg sn ns (reL sn pg pu D h t L) (reD sn pg pu D h t) S (Pg ++ [(h, t)]) Rk := by
  unfold reL reD
  rw [if_pos e, if_pos e]
  unfold reE at e
  split at e
  · cases e
  rename_i hb
  split at e
  · cases e
  rename_i hc
  have b1 : 0 ≤ h ∧ h < (pg : Int) := by omega
  have b2 : (sn : Int) ≤ t ∧ t < (sn : Int) + pu := by omega
  have d1 : D.getD h.toNat false = false := by cases q : D.getD h.toNat false with | false => rfl | true => exact absurd (.inl q) hc
  have d2 : D.getD t.toNat false = false := by cases q : D.getD t.toNat false with | false => rfl | true => exact absurd (.inr (.inl q)) hc
  have d3 : h ≠ t := fun q => hc (.inr (.inr q))
  have n1 := hd.none (k := h.toNat) (by omega) d1
  have n2 := hd.none (k := t.toNat) (by omega) d2
  rw [Int.toNat_of_nonneg (by omega)] at n1 n2
  have f1 : ¬ fIx Pg h < Pg.length := fun z => n1 _ (getD_mem z (0, 0)) (fIx_at z)
  refine ⟨fun k hk => ?_, fun k hk => ?_, hd.sp, hd.ok.snoc n1 n2 d3, fun x hx => ?_, hd.rk⟩
  · rw [getD_retL _ _ _ _ (by rw [hV.m.hL]; exact hk), hd.lv k hk, chase_snoc]
  · rw [getD_setG _ _ _ _ _ (by rw [hV.m.hD]; omega), fnd_snoc]
    by_cases q : h.toNat = k
    · have q2 : h = (k : Int) := by omega
      rw [if_pos q, ← q2, if_neg f1, if_pos rfl]
      exact (decide_eq_true (by omega)).symm
    · rw [if_neg q, if_neg (show ¬ h = (k : Int) by omega), hd.dd k hk]
      by_cases c : fIx Pg (k : Int) < Pg.length
      · rw [if_pos c]
      · rw [if_neg c, decide_eq_false (fun z => c ((fnd_nn hd.nn).1 z))]; rfl
  · rcases List.mem_append.1 hx with hx | hx
    · exact hd.inn x hx
    · simp only [List.mem_singleton] at hx; subst hx; exact ⟨b1, by omega, by show t < (pg : Int); omega⟩
theorem DocM.replace (hd : DocM pg sn ns L D S Pg Rk) (hV : MapV r s z sn pg ns L D S pu ru) (hr : 1 ≤ r) (h64 : r + s ≤ 64) {q v : Int} (e : rpE r ns ru S q v = 0) : DocM pg sn ns L D (rpS r ns ru S q v) Pg (Rk ++ [(q, v)]) := by
  unfold rpS
  rw [if_pos e]
  unfold rpE at e
  split at e
  · cases e
  rename_i hb
  split at e
  · cases e
  rename_i hc
  have b1 : 0 ≤ q ∧ q < (ns : Int) := by omega
  have b2 : r ≤ v ∧ v < r + ru := by omega
  have d1 : S.getD q.toNat 0 = -1 := by omega
  have n1 := hd.sp q.toNat (by omega)
  rw [d1, Int.toNat_of_nonneg (by omega)] at n1
  have f1 : ¬ fIx Rk q < Rk.length := fun z => by have := (fnd_nn hd.rn).2 z; omega
  refine ⟨hd.lv, hd.dd, fun k hk => ?_, hd.ok, hd.inn, fun x hx => ?_⟩
  · rw [getD_setG _ _ _ _ _ (by rw [hV.m.hS]; omega), fnd_snoc]
    by_cases c2 : q.toNat = k
    · have q2 : q = (k : Int) := by omega
      rw [if_pos c2, ← q2, if_neg f1, if_pos rfl]
    · rw [if_neg c2, if_neg (show ¬ q = (k : Int) by omega), hd.sp k hk]
      by_cases c : fIx Rk (k : Int) < Rk.length
      · rw [if_pos c]
      · rw [if_neg c]; unfold fnd; rw [if_neg c]
  · rcases List.mem_append.1 hx with hx | hx
    · exact hd.rk x hx
    · simp only [List.mem_singleton] at hx; subst hx; have := hV.m.hr; exact ⟨b1, by show 0 ≤ v; omega, by show v ≤ 64; omega⟩
end
end Go.Proofs.YtpmnnijjohlloaaGreat
