/- What is taken is told once; what is asked for again changes nothing: plain. -/
import Derived.Test.YtpmnnijjohlloaaRprE
namespace Go.Proofs.Ytpmnnijjohlloaa
open Go Go.RowKit
set_option linter.unusedVariables false
theorem lenSnoc {α : Type} (l : List α) (x : α) : l.length + 1 = (l ++ [x]).length := by rw [List.length_append]; rfl
theorem mapSnoc {α β : Type} (f : α → β) (l : List α) (x : α) : l.map f ++ [f x] = (l ++ [x]).map f := by rw [List.map_append]; rfl
/-- The first numbers from one on. -/
def upL (a : Int) (n : Nat) : List Int := (List.range n).map fun (i : Nat) => a + (i : Int)
theorem upL_succ (a : Int) (n : Nat) : upL a (n + 1) = upL a n ++ [a + (n : Int)] := by unfold upL; rw [List.range_succ, List.map_append]; rfl
theorem upL_len (a : Int) (n : Nat) : (upL a n).length = n := by simp [upL]
theorem upL_nodup (a : Int) (n : Nat) : (upL a n).Nodup := by
  unfold List.Nodup upL
  rw [List.pairwise_map]
  exact List.nodup_range.imp (fun h e => h (by omega))
/-- What the events of one kind tell. -/
def evK (q : Int) (E : List Int3) : List Int := (E.filter fun e => decide (e.1 = q)).map fun e => e.2.2
theorem evK_append (q : Int) (E F : List Int3) : evK q (E ++ F) = evK q E ++ evK q F := by simp [evK]
theorem evK_one (q : Int) (e : Int3) : evK q [e] = if e.1 = q then [e.2.2] else [] := by
  unfold evK
  by_cases h : e.1 = q
  · rw [if_pos h]; simp [h]
  · rw [if_neg h]; simp [h]
theorem evK_next (q : Int) {E : List Int3} {k : Nat} (h : k < E.length) : evK q (E.take (k + 1)) = evK q (E.take k) ++ if (E.getD k (0, 0, 0)).1 = q then [(E.getD k (0, 0, 0)).2.2] else [] := by
  rw [← List.take_append_getElem h, evK_append, evK_one]
  have e : E.getD k (0, 0, 0) = E[k] := by simp [List.getD, h]
  rw [e]
theorem evK_fresh {q : Int} {E : List Int3} {P : List Int} (hP : (P ++ evK q E).Nodup) {k : Nat} (h : k < E.length) (e : (E.getD k (0, 0, 0)).1 = q) : (E.getD k (0, 0, 0)).2.2 ∉ P ++ evK q (E.take k) := by
  have e1 : evK q E = evK q (E.take (k + 1)) ++ evK q (E.drop (k + 1)) := by rw [← evK_append, List.take_append_drop]
  rw [e1, evK_next q h, if_pos e, ← List.append_assoc, ← List.append_assoc] at hP
  have h2 := (List.nodup_append.1 hP).1
  intro hm
  exact (List.nodup_append.1 h2).2.2 _ hm _ (List.mem_singleton.2 rfl) rfl
section
variable {r s b o c y z : Int} {sn pg ns : Nat}
/-- What was taken, told by the events. -/
def Told (r : Int) (sn : Nat) (v v' : Rp) (E : List Int3) : Prop := upL (sn : Int) v.pu ++ evK 3 E = upL (sn : Int) v'.pu ∧ upL r v.ru ++ evK 4 E = upL r v'.ru
theorem Told.nil {v v' : Rp} (h1 : v'.pu = v.pu) (h2 : v'.ru = v.ru) : Told r sn v v' [] := by
  unfold Told; rw [h1, h2]; exact ⟨List.append_nil _, List.append_nil _⟩
theorem Told.trans {u v v' : Rp} {E F : List Int3} (h1 : Told r sn u v E) (h2 : Told r sn v v' F) : Told r sn u v' (E ++ F) := by
  obtain ⟨a1, a2⟩ := h1
  obtain ⟨b1, b2⟩ := h2
  unfold Told
  rw [evK_append, evK_append, ← List.append_assoc, ← List.append_assoc, a1, a2]
  exact ⟨b1, b2⟩
theorem Told.start (v : Rp) (a : Ent) : Told r sn v (v.start r s z sn a) [v.startV r s z sn a] := by
  unfold Told Rp.start Rp.startV
  rw [evK_one, evK_one]
  split
  · split
    · exact ⟨List.append_nil _, List.append_nil _⟩
    · exact ⟨(upL_succ _ _).symm, List.append_nil _⟩
  · split
    · exact ⟨List.append_nil _, List.append_nil _⟩
    · exact ⟨List.append_nil _, (upL_succ _ _).symm⟩
theorem Told.drain : ∀ (q : List Ent) (v : Rp), Told r sn v (Rp.drain r s z sn ns v q).1 (Rp.drain r s z sn ns v q).2
  | [], v => by rw [Rp.drain]; exact Told.nil rfl rfl
  | a :: q, v => by
    rw [Rp.drain]
    split
    · split
      · exact Told.drain q v
      · exact Told.trans (Told.start v a) (Told.drain q (v.start r s z sn a))
    · exact Told.nil rfl rfl
theorem Told.ask (v : Rp) (a : Ent) : Told r sn v (v.ask r s z sn ns a) (v.askV r s z sn ns a) := by
  unfold Rp.ask Rp.askV
  split
  · exact Told.nil rfl rfl
  · split
    · exact Told.start v a
    · split
      · have e : ∀ e : Int3, e.1 = 5 → Told r sn v { v with Q := onQ v.Q a } [e] := fun e h => by
          unfold Told; rw [evK_one, evK_one, if_neg (by omega), if_neg (by omega)]; exact ⟨List.append_nil _, List.append_nil _⟩
        exact e _ rfl
      · exact Told.nil rfl rfl
theorem Told.step (v : Rp) : Told r sn v (v.step r s z sn pg ns b o c).1 (v.step r s z sn pg ns b o c).2 := by
  unfold Rp.step
  split
  · exact Told.nil rfl rfl
  · split
    · have h1 : Told r sn v (v.next.done r sn pg ns) [(6, v.j.2.1, v.j.2.2.1)] := by
        unfold Told; rw [evK_one, evK_one, if_neg (by show ¬ (6 : Int) = 3; decide), if_neg (by show ¬ (6 : Int) = 4; decide)]
        have e : (v.next.done r sn pg ns).pu = v.pu ∧ (v.next.done r sn pg ns).ru = v.ru := by unfold Rp.done; split <;> exact ⟨rfl, rfl⟩
        rw [e.1, e.2]
        exact ⟨List.append_nil _, List.append_nil _⟩
      exact Told.trans h1 (Told.drain v.next.Q _)
    · exact Told.nil rfl rfl
theorem onQ_twice (Q : List Ent) (a : Ent) : onQ (onQ Q a) a = onQ Q a := by
  unfold onQ
  by_cases h : a ∈ Q
  · rw [if_pos h, if_pos h]
  · rw [if_neg h]
    by_cases h2 : Q.length < 256
    · rw [if_pos h2, if_pos (by simp)]
    · rw [if_neg h2, if_neg h, if_neg h2]
/-- What is started is void from then on. -/
theorem Rp.start_void {v : Rp} {a : Ent} (hk : a.1 = 1 ∨ a.1 = 2) : v.start r s z sn a = v ∨ ((v.start r s z sn a).void sn ns a = true ∧ ¬ (v.start r s z sn a).j.1 = 0) := by
  unfold Rp.start Rp.void
  rcases hk with h1 | h1
  · rw [if_pos h1]
    split
    · exact .inl rfl
    · refine .inr ⟨?_, by show ¬ (1 : Int) = 0; decide⟩
      unfold voidB; rw [if_pos h1]; simp
  · rw [if_neg (by omega)]
    split
    · exact .inl rfl
    · refine .inr ⟨?_, by show ¬ (2 : Int) = 0; decide⟩
      unfold voidB; rw [if_neg (by omega), if_pos h1]; simp
theorem Rp.ask_twice (v : Rp) (a : Ent) : (v.ask r s z sn ns a).ask r s z sn ns a = v.ask r s z sn ns a ∧ ((v.ask r s z sn ns a).j.1 = 0 ∨ (v.ask r s z sn ns a).askV r s z sn ns a = [] ∨ (v.ask r s z sn ns a).askV r s z sn ns a = [(5, a.2, a.1 - 1)]) := by
  by_cases hv : v.void sn ns a = true
  · have e : v.ask r s z sn ns a = v := by unfold Rp.ask; rw [if_pos hv]
    rw [e, e]
    exact ⟨rfl, .inr (.inl (by unfold Rp.askV; rw [if_pos hv]))⟩
  · have hk := void_kind (Bool.eq_false_iff.2 hv)
    by_cases hj : v.j.1 = 0
    · have e : v.ask r s z sn ns a = v.start r s z sn a := by unfold Rp.ask; rw [if_neg hv, if_pos hj]
      rw [e]
      rcases Rp.start_void (r := r) (s := s) (z := z) (sn := sn) (ns := ns) (v := v) hk with h | ⟨h1, h2⟩
      · rw [h, e, h]; exact ⟨rfl, .inl hj⟩
      · refine ⟨?_, .inr (.inl ?_)⟩
        · generalize v.start r s z sn a = u at *; unfold Rp.ask; rw [if_pos h1]
        · generalize v.start r s z sn a = u at *; unfold Rp.askV; rw [if_pos h1]
    · have e : v.ask r s z sn ns a = { v with Q := onQ v.Q a } := by unfold Rp.ask; rw [if_neg hv, if_neg hj]
      have hv2 : ¬ Rp.void sn ns { v with Q := onQ v.Q a } a = true := hv
      have hj2 : ¬ ({ v with Q := onQ v.Q a } : Rp).j.1 = 0 := hj
      rw [e]
      refine ⟨?_, .inr ?_⟩
      · unfold Rp.ask; rw [if_neg hv2, if_neg hj2, onQ_twice]
      · unfold Rp.askV; rw [if_neg hv2, if_neg hj2]
        split
        · exact .inr rfl
        · exact .inl rfl
end
end Go.Proofs.Ytpmnnijjohlloaa
