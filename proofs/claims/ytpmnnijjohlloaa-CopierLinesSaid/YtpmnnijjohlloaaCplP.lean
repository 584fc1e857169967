/- All indices of a geometry, in order; the lines of a rank among them: plain. -/
import Derived.Test.YtpmnnijjohlloaaRprN
namespace Go.Proofs.Ytpmnnijjohlloaa
open Go Go.RowKit
set_option linter.unusedVariables false
set_option linter.unusedSectionVars false
/-- The N-th index. -/
def aI (o c pr : Int) (N : Nat) : Int := nthI o c ((N : Int) / pr) ((N : Int) % pr)
def allL (o c pr : Int) (N : Nat) : List Int := (List.range N).map (aI o c pr)
theorem allL_succ (o c pr : Int) (N : Nat) : allL o c pr (N + 1) = allL o c pr N ++ [aI o c pr N] := by unfold allL; rw [List.range_succ, List.map_append]; rfl
theorem allL_len (o c pr : Int) (N : Nat) : (allL o c pr N).length = N := by simp [allL]
theorem allL_get (o c pr : Int) {N k : Nat} (h : k < N) : (allL o c pr N).getD k 0 = aI o c pr k := by simp [allL, List.getD, h]
section
variable {r s b o c : Int} (hg : geomOk r s b o c = true)
include hg
theorem pr_bd : 1 ≤ b * o * c ∧ b * o * c ≤ 4096 ∧ 1 ≤ o * c ∧ b * o * c = b * (o * c) ∧ (r + s) * (b * o * c) ≤ 4096 ∧ (r + s) * b * o * c = (r + s) * (b * o * c) := by
  obtain ⟨⟨d1, d2⟩, ⟨d3, d4⟩, ⟨d5, d6⟩, ⟨d7, d8⟩, ⟨d9, d10⟩, h⟩ := geom_bd hg
  have e : (r + s) * b * o * c = (r + s) * (b * o * c) := by rw [Int.mul_assoc, Int.mul_assoc, Int.mul_assoc b o c]
  have p1 : 1 ≤ b * o := Int.le_trans (by omega) (Int.mul_le_mul d5 d7 (by omega) (by omega))
  have p2 : 1 ≤ b * o * c := Int.le_trans (by omega) (Int.mul_le_mul p1 d9 (by omega) (by omega))
  have p3 : 1 ≤ o * c := Int.le_trans (by omega) (Int.mul_le_mul d7 d9 (by omega) (by omega))
  have p4 : b * o * c ≤ (r + s) * (b * o * c) := by
    have := Int.mul_le_mul_of_nonneg_right (show 1 ≤ r + s by omega) (show 0 ≤ b * o * c by omega)
    rw [Int.one_mul] at this; exact this
  exact ⟨p2, by omega, p3, Int.mul_assoc _ _ _, by omega, e⟩
/-- What stands at a place, told by its rank, bank, row and column. -/
theorem aI_at {k B R C : Int} (hk : 0 ≤ k) (hB : 0 ≤ B ∧ B < b) (hR : 0 ≤ R ∧ R < o) (hC : 0 ≤ C ∧ C < c) {N : Nat} (hN : (N : Int) = k * (b * o * c) + ((B * o + R) * c + C)) : aI o c (b * o * c) N = 1048576 * k + 65536 * B + 64 * R + C := by
  have m1 : 0 ≤ B * o := Int.mul_nonneg hB.1 (by omega)
  have m2 : 0 ≤ (B * o + R) * c := Int.mul_nonneg (by omega) (by omega)
  have m3 : B * o + o ≤ b * o := by
    have := Int.mul_le_mul_of_nonneg_right (show B + 1 ≤ b by omega) (show 0 ≤ o by omega)
    rw [Int.add_mul, Int.one_mul] at this; exact this
  have m4 : (B * o + R) * c + c ≤ b * o * c := by
    have := Int.mul_le_mul_of_nonneg_right (show B * o + R + 1 ≤ b * o by omega) (show 0 ≤ c by omega)
    rw [Int.add_mul, Int.one_mul] at this; exact this
  obtain ⟨q1, q2⟩ := divmod (q := k) (m := b * o * c) (j := (B * o + R) * c + C) (by omega) (by omega)
  unfold aI
  rw [hN, q1, q2]
  unfold nthI
  obtain ⟨a1, a2⟩ := divmod (q := B * o + R) hC.1 hC.2
  obtain ⟨a3, a4⟩ := divmod (q := B) hR.1 hR.2
  rw [a1, a2, a3, a4]
  omega
/-- The rank of the N-th index. -/
theorem aI_rank {N : Nat} : aI o c (b * o * c) N / 1048576 = (N : Int) / (b * o * c) ∧ 0 ≤ aI o c (b * o * c) N := by
  obtain ⟨p1, _⟩ := pr_bd hg
  have h1 := Int.emod_nonneg (N : Int) (show b * o * c ≠ 0 by omega)
  have h2 := Int.emod_lt_of_pos (N : Int) (show 0 < b * o * c by omega)
  obtain ⟨⟨d1, d2⟩, ⟨d3, d4⟩, ⟨d5, d6⟩, ⟨d7, d8⟩, ⟨d9, d10⟩, h⟩ := geom_bd hg
  obtain ⟨⟨n1, n2⟩, ⟨n3, n4⟩, ⟨n5, n6⟩, n7⟩ := nth_bd hg h1 h2
  have h3 := Int.ediv_nonneg (show 0 ≤ (N : Int) by omega) (show 0 ≤ b * o * c by omega)
  unfold aI nthI
  omega
theorem aI_nth {w i : Int} (i0 : 0 ≤ i) (i1 : i < b * o * c) {N : Nat} (hN : (N : Int) = w * (b * o * c) + i) : aI o c (b * o * c) N = nthI o c w i := by
  obtain ⟨q1, q2⟩ := divmod (q := w) i0 i1
  unfold aI; rw [hN, q1, q2]
end
end Go.Proofs.Ytpmnnijjohlloaa
