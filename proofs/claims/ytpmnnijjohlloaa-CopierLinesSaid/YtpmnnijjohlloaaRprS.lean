/- Where a job's lines are, plainly. -/
import Derived.Test.YtpmnnijjohlloaaRprQ
import Derived.Test.YtpmnnijjohlloaaRemapX
import Derived.Test.YtpmnnijjohlloaaPxZ
namespace Go.Proofs.Ytpmnnijjohlloaa
open Go Go.RowKit
set_option linter.unusedVariables false
theorem hsCast {M : List Nat} {w0 w : World} {L L2 : List Res} (H : Hs M w0 w L) (e : L2 = L) : Hs M w0 w L2 := e ▸ H
section
variable {M : List Nat} {w0 w : World} {L : List Res}
end
theorem and2_t {p q : Prop} [Decidable p] [Decidable q] (h : (decide p && decide q) = true) : p ∧ q := by simpa using h
theorem and2_f {p q : Prop} [Decidable p] [Decidable q] (h : (decide p && decide q) = false) : ¬ (p ∧ q) := by
  rintro ⟨a, b⟩; rw [decide_eq_true a, decide_eq_true b] at h; cases h
abbrev Job4 := Int × Int × Int × Int
/-- The i-th index of a rank. -/
def nthI (o c rank i : Int) : Int := (rank * 16384 + i / c / o * 1024 + i / c % o) * 64 + i % c
/-- An index's place in its rank. -/
def ordI (o c ix : Int) : Int := (ix / 65536 % 16 * o + ix / 64 % 1024) * c + ix % 64
def cpgB (pg : Nat) (D : List Bool) (j : Job4) : Bool := decide ((0 ≤ j.2.1 ∧ j.2.1 < (pg : Int)) ∧ (0 ≤ j.2.2.1 ∧ j.2.2.1 < (pg : Int)) ∧ ¬ j.2.1 = j.2.2.1 ∧ D.getD j.2.1.toNat false = false ∧ D.getD j.2.2.1.toNat false = false)
def crkB (r s : Int) (ns : Nat) (S : List Int) (j : Job4) : Bool := decide ((0 ≤ j.2.1 ∧ j.2.1 < (ns : Int)) ∧ S.getD j.2.1.toNat 0 = -1 ∧ (r ≤ j.2.2.1 ∧ j.2.2.1 < r + s))
/-- A job may be. -/
def jrP (r s b o c : Int) (pg ns : Nat) (D : List Bool) (S : List Int) (j : Job4) : Prop :=
  (j.1 = 0 ∧ j.2.1 = 0 ∧ j.2.2.1 = 0 ∧ j.2.2.2 = 0) ∨
  (j.1 = 1 ∧ (0 ≤ j.2.2.2 ∧ j.2.2.2 ≤ c) ∧ (0 ≤ j.2.1 ∧ j.2.1 < (pg : Int)) ∧ (0 ≤ j.2.2.1 ∧ j.2.2.1 < (pg : Int)) ∧ ¬ j.2.1 = j.2.2.1 ∧ D.getD j.2.1.toNat false = false ∧ D.getD j.2.2.1.toNat false = false) ∨
  (j.1 = 2 ∧ (0 ≤ j.2.2.2 ∧ j.2.2.2 ≤ b * o * c) ∧ (0 ≤ j.2.1 ∧ j.2.1 < (ns : Int)) ∧ S.getD j.2.1.toNat 0 = -1 ∧ (r ≤ j.2.2.1 ∧ j.2.2.1 < r + s))
instance (r s b o c : Int) (pg ns : Nat) (D : List Bool) (S : List Int) (j : Job4) : Decidable (jrP r s b o c pg ns D S j) := by unfold jrP; exact inferInstance
def atI (y r b o c : Int) (S : List Int) (kind w i : Int) : Int := if kind = 2 then nthI o c w i else idxP y r b o S w * 64 + i
/-- Where a line is routed. -/
def rtI (y r b o c : Int) (S : List Int) (j : Job4) (home rk ix col : Int) : Int :=
  if j.1 = 1 ∧ home = j.2.1 then (if col < j.2.2.2 then atI y r b o c S 1 j.2.2.1 col else ix)
  else if j.1 = 2 ∧ rk = j.2.1 then (if ordI o c ix < j.2.2.2 then atI y r b o c S 2 j.2.2.1 (ordI o c ix) else ix)
  else ix
section
variable {r s b o c y z : Int} {sn pg ns : Nat} {x : Rp}
theorem nth_bd (hg : geomOk r s b o c = true) {i : Int} (h0 : 0 ≤ i) (h1 : i < b * o * c) : (0 ≤ i / c / o ∧ i / c / o < b) ∧ (0 ≤ i / c % o ∧ i / c % o < o) ∧ (0 ≤ i % c ∧ i % c < c) ∧ 0 ≤ i / c := by
  obtain ⟨⟨d1, d2⟩, ⟨d3, d4⟩, ⟨d5, d6⟩, ⟨d7, d8⟩, ⟨d9, d10⟩, _⟩ := geom_bd hg
  have hc : 0 < c := by omega
  have ho : 0 < o := by omega
  have q0 : 0 ≤ i / c := Int.ediv_nonneg h0 (by omega)
  have q1 : i / c < b * o := Int.ediv_lt_of_lt_mul hc h1
  exact ⟨⟨Int.ediv_nonneg q0 (by omega), Int.ediv_lt_of_lt_mul ho q1⟩, ⟨Int.emod_nonneg _ (by omega), Int.emod_lt_of_pos _ ho⟩, ⟨Int.emod_nonneg _ (by omega), Int.emod_lt_of_pos _ hc⟩, q0⟩
theorem ord_bd (hL : Lay r s b o c y z pg sn ns) {L : List Int} {D : List Bool} {S : List Int} {pu ru : Nat} (hV : MapV r s z sn pg ns L D S pu ru) {h col : Int} (h0 : 0 ≤ h) (h1 : h < (pg : Int)) (c0 : 0 ≤ col) (c1 : col < c) (hs : S.getD (pgAt y r b o h / 16384).toNat 0 = -1) :
    (0 ≤ idxP y r b o S h * 64 + col ∧ idxP y r b o S h * 64 + col ≤ 1000000000) ∧ (idxP y r b o S h * 64 + col) / 1048576 < r + s ∧ (idxP y r b o S h * 64 + col) / 65536 % 16 < b ∧ (idxP y r b o S h * 64 + col) / 64 % 1024 < o ∧ (idxP y r b o S h * 64 + col) % 64 < c ∧ 0 ≤ ordI o c (idxP y r b o S h * 64 + col) := by
  have hg := geom_of hL
  obtain ⟨⟨d1, d2⟩, ⟨d3, d4⟩, ⟨d5, d6⟩, ⟨d7, d8⟩, ⟨d9, d10⟩, _⟩ := geom_bd hg
  obtain ⟨⟨p1, p2⟩, ⟨p3, p4⟩, ⟨p5, p6⟩⟩ := pg_bd y h hg
  have e : idxP y r b o S h = pgAt y r b o h := by unfold idxP; rw [if_pos hs]
  rw [e]
  have e2 : pgAt y r b o h = pgRank y r b o h * 16384 + pgBank y r b o h * 1024 + pgRow y r b o h := rfl
  generalize pgAt y r b o h = P at e2 ⊢
  have q1 : 0 ≤ (P * 64 + col) / 65536 % 16 := by omega
  have q2 : 0 ≤ (P * 64 + col) / 64 % 1024 := by omega
  have q3 : 0 ≤ (P * 64 + col) % 64 := by omega
  refine ⟨by omega, by omega, by omega, by omega, by omega, ?_⟩
  unfold ordI
  have := Int.mul_nonneg q1 (show 0 ≤ o by omega)
  have := Int.mul_nonneg (show 0 ≤ (P * 64 + col) / 65536 % 16 * o + (P * 64 + col) / 64 % 1024 by omega) (show 0 ≤ c by omega)
  omega
theorem cnt_bd (hg : geomOk r s b o c = true) (j : Job4) : 0 ≤ Rp.cnt b o c j ∧ Rp.cnt b o c j ≤ 1048576 := by
  obtain ⟨⟨d1, d2⟩, ⟨d3, d4⟩, ⟨d5, d6⟩, ⟨d7, d8⟩, ⟨d9, d10⟩, _⟩ := geom_bd hg
  obtain ⟨u1, u2⟩ := mul_bd (x := b) (y := o) (p := 16) (q := 1024) (by omega) (by omega) (by omega) (by omega)
  obtain ⟨u3, u4⟩ := mul_bd (x := b * o) (y := c) (p := 16384) (q := 64) (by omega) (by omega) (by omega) (by omega)
  unfold Rp.cnt
  split
  · omega
  · split <;> omega
end
end Go.Proofs.Ytpmnnijjohlloaa
