/- A repair's state, and a repair of a state: plain. -/
import Derived.Test.YtpmnnijjohlloaaGreatRprS
import Derived.Test.YtpmnnijjohlloaaGreatRprT
import Derived.Test.YtpmnnijjohlloaaGreatRemapE
import Derived.Test.YtpmnnijjohlloaaGreatRemapRs
import Derived.Test.YtpmnnijjohlloaaGreatRprE
namespace Go.Proofs.YtpmnnijjohlloaaGreat
open Go Go.RowKit
set_option linter.unusedVariables false
section
variable {r s b o c y z : Int} {sn pg ns : Nat}
theorem Rp.drain_Q : ∀ (q : List Ent) (v : Rp), (Rp.drain r s z sn ns v q).1.Q <:+ q
  | [], v => by rw [Rp.drain]; exact List.suffix_refl _
  | a :: q, v => by
    rw [Rp.drain]
    split
    · split
      · exact (Rp.drain_Q q v).trans (List.suffix_cons a q)
      · exact (Rp.drain_Q q _).trans (List.suffix_cons a q)
    · exact List.suffix_refl _
theorem Qnd.ask {v : Rp} {a : Ent} (h : v.Q.Nodup) : (v.ask r s z sn ns a).Q.Nodup := by
  unfold Rp.ask
  split
  · exact h
  · split
    · rw [Rp.start_Q]; exact h
    · show (onQ v.Q a).Nodup
      unfold onQ
      split
      · exact h
      · split
        · rename_i h1 h2
          rw [List.nodup_append]
          exact ⟨h, by simp, fun x hx y hy e => h1 (by rw [List.mem_singleton] at hy; rw [← hy, ← e]; exact hx)⟩
        · exact h
theorem Qnd.step {v : Rp} (h : v.Q.Nodup) : (v.step r s z sn pg ns b o c).1.Q.Nodup := by
  unfold Rp.step
  split
  · exact h
  · split
    · exact (Rp.drain_Q v.next.Q _).sublist.nodup h
    · exact h
end
/-- What a job moves to was taken, and took no place yet. -/
def tkB (r : Int) (sn : Nat) (L S : List Int) (pu ru : Nat) (j : Job4) : Bool :=
  if j.1 = 1 then (decide ((sn : Int) ≤ j.2.2.1) && decide (j.2.2.1 < (sn : Int) + pu)) && !(decide (j.2.2.1 ∈ L))
  else if j.1 = 2 then decide (j.2.2.1 < r + ru) && !(decide (j.2.2.1 ∈ spL S)) else true
/-- A job fits a map. -/
def fitJ (r s b o c : Int) (sn pg ns : Nat) (L : List Int) (D : List Bool) (S : List Int) (pu ru : Nat) (j : Job4) : Bool :=
  decide (jrP r s b o c pg ns D S j) && (!(!(decide (j.1 = 0)) && decide (j.2.2.2 = Rp.cnt b o c j)) && tkB r sn L S pu ru j)
theorem getD_of_mem {l : List Int} {x : Int} (h : x ∈ l) : ∃ k, k < l.length ∧ l.getD k 0 = x := by
  obtain ⟨k, hk, e⟩ := List.getElem_of_mem h
  exact ⟨k, hk, by simp [List.getD, hk, e]⟩
section
variable {r s b o c y z : Int} {sn pg ns : Nat} (hL : Lay r s b o c y z pg sn ns)
include hL
theorem RpOk.taken {v : Rp} (h : RpOk r s b o c z sn pg ns v) : tkB r sn v.L v.S v.pu v.ru v.j = true := by
  have hr1 := hL.r1
  unfold tkB
  rcases h.jb with e | ⟨h1, h2, h3, h4, h5, h6, h7, h8, h9⟩ | ⟨h1, h2, h3, h4, h5, h8, h9⟩
  · rw [e]; rfl
  · rw [if_pos h1, decide_eq_true h4.1, decide_eq_true h4.2, decide_eq_false fun hm => ?_]
    · rfl
    · obtain ⟨k, hk, e⟩ := getD_of_mem hm
      rw [h.v.m.hL] at hk
      exact h7 k hk e
  · rw [if_neg (by omega), if_pos h1, decide_eq_true h4.2, decide_eq_false fun hm => ?_]
    · rfl
    · obtain ⟨k, hk, e⟩ := getD_of_mem hm
      have hk2 : k < v.S.length := by unfold spL at hk; simpa using hk
      rw [spL_get hk2] at e
      rw [h.v.m.hS] at hk2
      have := h5 k hk2
      have := h.v.sv k hk2
      omega
theorem RpOk.fit {v : Rp} (h : RpOk r s b o c z sn pg ns v) : fitJ r s b o c sn pg ns v.L v.D v.S v.pu v.ru v.j = true := by
  unfold fitJ
  rw [decide_eq_true (JobOk.right hL h), h.taken hL]
  by_cases h0 : v.j.1 = 0
  · rw [decide_eq_true h0]; rfl
  · obtain ⟨⟨_, q⟩, _⟩ := JobOk.next_ok h h0
    rw [decide_eq_false (show ¬ v.j.2.2.2 = Rp.cnt b o c v.j by omega)]
    rw [Bool.and_false]; rfl
end
theorem onE_zero {Q : List Ent} {a : Ent} (h : onE Q a = 0) : a ∉ Q ∧ Q.length < 256 ∧ onQ Q a = Q ++ [a] := by
  unfold onE at h
  unfold onQ
  by_cases h1 : a ∈ Q
  · rw [if_pos h1] at h; cases h
  · rw [if_neg h1] at h ⊢
    by_cases h2 : Q.length < 256
    · rw [if_pos h2]; exact ⟨h1, h2, rfl⟩
    · rw [if_neg h2] at h; cases h
theorem onE_ne {Q : List Ent} {a : Ent} (h : ¬ onE Q a = 0) : a ∈ Q ∨ 256 ≤ Q.length := by
  unfold onE at h
  by_cases h1 : a ∈ Q
  · exact .inl h1
  · rw [if_neg h1] at h
    by_cases h2 : Q.length < 256
    · rw [if_pos h2] at h; exact absurd rfl h
    · exact .inr (by omega)
theorem takeE_next {l : List Ent} {k : Nat} (h : k < l.length) : l.take (k + 1) = l.take k ++ [l.getD k (0, 0)] := by
  rw [← List.take_append_getElem h]; simp [List.getD, h]
theorem nodup_snoc {l : List Ent} {a : Ent} (h : l.Nodup) (ha : a ∉ l) : (l ++ [a]).Nodup := by
  rw [List.nodup_append]
  exact ⟨h, by simp, fun x hx y hy e => ha (by rw [List.mem_singleton] at hy; rw [← hy, ← e]; exact hx)⟩
theorem nodup_next {l : List Ent} (h : l.Nodup) {k : Nat} (hk : k < l.length) : l.getD k (0, 0) ∉ l.take k := by
  have h2 : (l.take (k + 1)).Nodup := (List.take_sublist _ _).nodup h
  rw [takeE_next hk, List.nodup_append] at h2
  exact fun hm => h2.2.2 _ hm _ (List.mem_singleton.2 rfl) rfl
theorem idxQ_snd (Q : List Ent) : (idxQ Q).map Prod.snd = Q := by
  unfold idxQ
  rw [List.map_map]
  apply List.ext_getElem
  · simp
  · intro i h1 h2
    simp [List.getD, h2]
theorem mapE_snoc {α : Type} (l : List α) (f : α → Ent) (x : α) : (l.map f).flatMap entL ++ [.int .i64 (f x).1, .int .i64 (f x).2] = ((l ++ [x]).map f).flatMap entL := by
  rw [List.map_append, List.flatMap_append]; rfl
end Go.Proofs.YtpmnnijjohlloaaGreat
