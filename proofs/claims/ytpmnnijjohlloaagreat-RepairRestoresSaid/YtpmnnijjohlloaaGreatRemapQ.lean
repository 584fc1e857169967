/- What a map is while pages are retired: plain. -/
import Derived.Test.YtpmnnijjohlloaaGreatRemapE
namespace Go.Proofs.YtpmnnijjohlloaaGreat
open Go Go.RowKit
set_option linter.unusedVariables false
set_option linter.unusedSimpArgs false
set_option linter.unusedSectionVars false
theorem getD_retL (home to : Int) (L : List Int) (k : Nat) (h : k < L.length) : (retL home to L).getD k 0 = if L.getD k 0 = home then to else L.getD k 0 := by
  simp [retL, List.getD, h]
theorem getD_set (D : List Bool) (h k : Nat) : (D.set h true).getD k false = if h = k ∧ k < D.length then true else D.getD k false := by
  simp only [List.getD, List.getElem?_set]
  split
  · rename_i e
    subst e
    split <;> simp_all
  · rename_i e
    rw [if_neg (fun x => e x.1)]
def usedB (sn pu : Nat) (D : List Bool) (a : Int) : Bool := (decide (0 ≤ a) && decide (a < (sn : Int) + pu)) && !(D.getD a.toNat false)
theorem usedB_parts {sn pu : Nat} {D : List Bool} {a : Int} (h : usedB sn pu D a = true) : ∃ n : Nat, a = (n : Int) ∧ n < sn + pu ∧ D.getD n false = false := by
  simp only [usedB, Bool.and_eq_true, decide_eq_true_eq, Bool.not_eq_true'] at h
  obtain ⟨⟨h0, h1⟩, h2⟩ := h
  obtain ⟨n, rfl⟩ := Int.eq_ofNat_of_zero_le h0
  exact ⟨n, rfl, by omega, h2⟩
section
variable {r s b o c y z : Int} {pg sn ns : Nat} (hL : Lay r s b o c y z pg sn ns) {C N : Nat} (hC : c = (C : Int)) (hN : (sn : Int) * c = (N : Int))
include hL hC hN
end
end Go.Proofs.YtpmnnijjohlloaaGreat
