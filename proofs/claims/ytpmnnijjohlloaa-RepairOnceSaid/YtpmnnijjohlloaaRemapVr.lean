/- What a map's state holds, and what is restored from it. Plain laws. -/
import Derived.Test.YtpmnnijjohlloaaRemapK
import Derived.Test.YtpmnnijjohlloaaRemapW
namespace Go.Proofs.Ytpmnnijjohlloaa
open Go Go.RowKit
set_option linter.unusedVariables false
/-- What lives elsewhere is dead, and lives where nothing is dead. -/
structure LivM (sn pg pu : Nat) (L : List Int) (D : List Bool) : Prop where
  top : ∀ k, k < sn → L.getD k 0 < (sn : Int) + pu
  nd : ∀ k, k < sn → D.getD (L.getD k 0).toNat false = false
  iff : ∀ k, k < sn → (D.getD k false = true ↔ ¬ L.getD k 0 = (k : Int))
section
variable {r s b o c y z : Int} {pg sn ns : Nat} {L : List Int} {D : List Bool} {S : List Int} {pu ru : Nat}
theorem LivM.new (sn pg : Nat) : LivM sn pg 0 (iota sn) (List.replicate pg false) :=
  ⟨fun k hk => by rw [iota_get _ _ _ hk]; omega, fun k hk => by rw [rep_get], fun k hk => by rw [rep_get, iota_get _ _ _ hk]; simp⟩
theorem LivM.step (hL : Lay r s b o c y z pg sn ns) (hV : MapV r s z sn pg ns L D S pu ru) (h : LivM sn pg pu L D) (q : Op3) : LivM sn pg (mvPu z pu q) (mvL sn pg pu D L q) (mvD sn pg pu D q) := by
  unfold mvPu mvL mvD
  by_cases h1 : q.1 = 1
  · rw [if_pos h1, if_neg (by omega), if_neg (by omega)]
    exact ⟨fun k hk => by have := h.top k hk; unfold tkN; split <;> omega, h.nd, h.iff⟩
  · rw [if_neg h1]
    by_cases h3 : q.1 = 3
    · rw [if_pos h3, if_pos h3]
      unfold reL reD
      by_cases e : reE sn pg pu D q.2.1 q.2.2 = 0
      · rw [if_pos e, if_pos e]
        unfold reE at e
        split at e
        · cases e
        rename_i hb
        split at e
        · cases e
        rename_i hc
        have b1 : 0 ≤ q.2.1 ∧ q.2.1 < (pg : Int) := by omega
        have b2 : (sn : Int) ≤ q.2.2 ∧ q.2.2 < (sn : Int) + pu := by omega
        have d1 : D.getD q.2.1.toNat false = false := by cases z : D.getD q.2.1.toNat false with | false => rfl | true => exact absurd (.inl z) hc
        have d2 : D.getD q.2.2.toNat false = false := by cases z : D.getD q.2.2.toNat false with | false => rfl | true => exact absurd (.inr (.inl z)) hc
        have d3 : q.2.1 ≠ q.2.2 := fun z => hc (.inr (.inr z))
        have hp := hV.m.hp
        have hsn := hL.hsn
        have gL : ∀ k, k < sn → (retL q.2.1 q.2.2 L).getD k 0 = if L.getD k 0 = q.2.1 then q.2.2 else L.getD k 0 := fun k hk => getD_retL _ _ _ _ (by rw [hV.m.hL]; exact hk)
        have gD : ∀ k, (D.set q.2.1.toNat true).getD k false = if q.2.1.toNat = k then true else D.getD k false := fun k => getD_setG _ _ _ _ _ (by rw [hV.m.hD]; omega)
        refine ⟨fun k hk => ?_, fun k hk => ?_, fun k hk => ?_⟩
        · rw [gL k hk]; have := h.top k hk; split <;> omega
        · rw [gL k hk, gD]
          have hv := hV.lv k hk
          split
          · rw [if_neg (by omega)]; exact d2
          · rename_i hne; rw [if_neg (by omega)]; exact h.nd k hk
        · rw [gL k hk, gD]
          have hi := h.iff k hk
          by_cases e1 : q.2.1.toNat = k
          · rw [if_pos e1]
            have dk : D.getD k false = false := by rw [← e1]; exact d1
            have lk : L.getD k 0 = (k : Int) := by
              by_cases z : L.getD k 0 = (k : Int)
              · exact z
              · rw [hi.2 z] at dk; cases dk
            rw [if_pos (by omega)]
            simp; omega
          · rw [if_neg e1]
            split
            · rename_i e2
              constructor
              · intro _; omega
              · intro _; exact hi.2 (by omega)
            · exact hi
      · rw [if_neg e, if_neg e]; exact h
    · rw [if_neg h3, if_neg h3]; exact h
end
end Go.Proofs.Ytpmnnijjohlloaa
