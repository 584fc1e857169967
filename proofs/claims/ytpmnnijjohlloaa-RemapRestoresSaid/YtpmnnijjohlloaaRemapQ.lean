/- What a map is while pages are retired: plain. -/
import Derived.Test.YtpmnnijjohlloaaRemapP
namespace Go.Proofs.Ytpmnnijjohlloaa
open Go Go.RowKit
set_option linter.unusedVariables false
set_option linter.unusedSimpArgs false
set_option linter.unusedSectionVars false
structure Stay (z : Int) (sn pg : Nat) (L : List Int) (D : List Bool) (pu : Nat) : Prop where
  hL : L.length = sn
  hD : D.length = pg
  hp : (pu : Int) ≤ z
  lv : ∀ k, k < sn → 0 ≤ L.getD k 0 ∧ L.getD k 0 < (sn : Int) + pu
  dv : ∀ k, sn + pu ≤ k → D.getD k false = false
theorem Stay.init {z : Int} (sn pg : Nat) (hz : 0 ≤ z) : Stay z sn pg (iota sn) (List.replicate pg false) 0 :=
  ⟨iota_len sn, List.length_replicate, by omega, fun k hk => by rw [iota_get sn k 0 hk]; omega, fun k _ => rep_get pg k false⟩
theorem getD_retL (home to : Int) (L : List Int) (k : Nat) (h : k < L.length) : (retL home to L).getD k 0 = if L.getD k 0 = home then to else L.getD k 0 := by
  simp [retL, List.getD, h]
theorem getD_set (D : List Bool) (h k : Nat) : (D.set h true).getD k false = if h = k ∧ k < D.length then true else D.getD k false := by
  simp only [List.getD, List.getElem?_set]
  split
  · rename_i e
    subst e
    split <;> simp_all
  · rename_i e
    rw [if_neg (fun x => e x.1)]
theorem Stay.next {z : Int} {sn pg pu h : Nat} {L : List Int} {D : List Bool} (St : Stay z sn pg L D pu) (hh : h < sn + pu) (hz : (pu : Int) < z) : Stay z sn pg (retL ((h : Nat) : Int) ((sn : Int) + pu) L) (D.set h true) (pu + 1) := by
  refine ⟨by simp [retL, St.hL], by simp [St.hD], by omega, fun k hk => ?_, fun k hk => ?_⟩
  · rw [getD_retL _ _ _ _ (by rw [St.hL]; exact hk)]
    have := St.lv k hk
    split <;> omega
  · rw [getD_set, if_neg (by omega)]
    exact St.dv k (by omega)
theorem Stay.mok {z s : Int} {sn pg pu : Nat} {L : List Int} {D : List Bool} (St : Stay z sn pg L D pu) (hs : 0 ≤ s) (ns : Nat) : MapOk z s sn pg ns L D (List.replicate ns (-1)) pu 0 :=
  ⟨St.hL, St.hD, List.length_replicate, St.hp, by omega⟩
def usedB (sn pu : Nat) (D : List Bool) (a : Int) : Bool := (decide (0 ≤ a) && decide (a < (sn : Int) + pu)) && !(D.getD a.toNat false)
theorem usedB_parts {sn pu : Nat} {D : List Bool} {a : Int} (h : usedB sn pu D a = true) : ∃ n : Nat, a = (n : Int) ∧ n < sn + pu ∧ D.getD n false = false := by
  simp only [usedB, Bool.and_eq_true, decide_eq_true_eq, Bool.not_eq_true'] at h
  obtain ⟨⟨h0, h1⟩, h2⟩ := h
  obtain ⟨n, rfl⟩ := Int.eq_ofNat_of_zero_le h0
  exact ⟨n, rfl, by omega, h2⟩
theorem usedB_self {sn pu : Nat} {D : List Bool} {a : Int} (n : Nat) (ha : a = (n : Int)) (hn : n < D.length) : usedB sn pu (D.set n true) a = false := by
  subst ha
  simp [usedB, hn]
theorem usedB_new {z : Int} {sn pg pu n : Nat} {L : List Int} {D : List Bool} (St : Stay z sn pg L D pu) (hn : n < sn + pu) : usedB sn (pu + 1) (D.set n true) ((sn : Int) + pu) = true := by
  have e : ((sn : Int) + pu).toNat = sn + pu := by omega
  have := St.dv (sn + pu) (Nat.le_refl _)
  simp only [usedB, e, getD_set]
  rw [if_neg (by omega), this]
  simp; omega
section
variable {r s b o c y z : Int} {pg sn ns : Nat} (hL : Lay r s b o c y z pg sn ns) {C N : Nat} (hC : c = (C : Int)) (hN : (sn : Int) * c = (N : Int))
include hL hC hN
theorem line_of {n : Nat} (hn : n < N) : n / C < sn ∧ ((n % C : Nat) : Int) < 64 := by
  have c1 := hL.c1
  have c2 := hL.c2
  have hC0 : 0 < C := by omega
  rw [hC] at hN
  have : n < sn * C := by have : sn * C = N := by exact_mod_cast hN
                          omega
  have := Nat.mod_lt n hC0
  exact ⟨Nat.div_lt_of_lt_mul (by rw [Nat.mul_comm]; assumption), by omega⟩
theorem idxP_none {h : Int} (h0 : 0 ≤ h) (h1 : h < (pg : Int)) : idxP y r b o (List.replicate ns (-1)) h = pgAt y r b o h := by
  obtain ⟨p1, p2, p3⟩ := pgAt_bd y h (geom_of hL)
  have := hL.hns
  unfold idxP
  rw [if_pos]
  simp only [List.getD, List.getElem?_replicate]
  rw [if_pos (by omega)]
  rfl
/-- Where a page is retired, just the lines that lived there lie elsewhere. -/
theorem stay_page {L : List Int} {D : List Bool} {pu h : Nat} (St : Stay z sn pg L D pu) (hh : h < sn + pu) (hz : (pu : Int) < z) {n : Nat} (hn : n < N) :
    ¬ ((idxs y r b o (List.replicate ns (-1)) (retL ((h : Nat) : Int) ((sn : Int) + pu) L) C N).getD n 0 = (idxs y r b o (List.replicate ns (-1)) L C N).getD n 0) ↔ (retL ((h : Nat) : Int) ((sn : Int) + pu) L).getD (n / C) 0 = (sn : Int) + pu := by
  obtain ⟨hk, hj⟩ := line_of hL hC hN hn
  obtain ⟨h0, h1⟩ := St.lv _ hk
  have hsn := hL.hsn
  have hpg := hL.hpg
  have z2 := hL.z2
  rw [idxs_get _ _ _ _ _ _ _ _ _ hn, idxs_get _ _ _ _ _ _ _ _ _ hn, getD_retL _ _ _ _ (by rw [St.hL]; exact hk)]
  split
  · rename_i e
    rw [e, idxP_none hL hC hN (by omega) (by omega), idxP_none hL hC hN (by omega) (by omega)]
    refine ⟨fun _ => rfl, fun _ hq => ?_⟩
    have := pgAt_inj (s := s) (c := c) y (m := (sn : Int) + pu) (n := (h : Int)) (geom_of hL) (by omega) (by omega) (by omega) (by omega) (by omega)
    omega
  · rename_i e
    constructor
    · intro hq; exact absurd rfl hq
    · intro hq; omega
theorem stay_bd {L : List Int} {S : List Int} {n : Nat} (hn : n < N) (hSv : ∀ q, q < ns → S.getD q 0 = -1 ∨ (0 ≤ S.getD q 0 ∧ S.getD q 0 < r + s)) (hLv : ∀ k, k < sn → 0 ≤ L.getD k 0 ∧ L.getD k 0 < (pg : Int)) :
    0 ≤ (idxs y r b o S L C N).getD n 0 ∧ (idxs y r b o S L C N).getD n 0 < 16777216 := by
  obtain ⟨hk, hj⟩ := line_of hL hC hN hn
  obtain ⟨h0, h1⟩ := hLv _ hk
  obtain ⟨p1, p2, p3⟩ := pgAt_bd y (L.getD (n / C) 0) (geom_of hL)
  have := hL.hns
  have := hL.s8
  have := hL.r8
  have hq := hSv (pgAt y r b o (L.getD (n / C) 0) / 16384).toNat (by omega)
  rw [idxs_get _ _ _ _ _ _ _ _ _ hn]
  unfold idxP
  split <;> omega
theorem stay_rank {L : List Int} {n q : Nat} {v : Int} (hn : n < N) (hq : q < ns) (hv : ¬ v = -1) (hLv : ∀ k, k < sn → 0 ≤ L.getD k 0 ∧ L.getD k 0 < (pg : Int)) :
    (idxs y r b o ((List.replicate ns (-1)).set q v) L C N).getD n 0 = if (idxs y r b o (List.replicate ns (-1)) L C N).getD n 0 / 1048576 = (q : Int) then (idxs y r b o (List.replicate ns (-1)) L C N).getD n 0 + (v - q) * 1048576 else (idxs y r b o (List.replicate ns (-1)) L C N).getD n 0 := by
  obtain ⟨hk, hj⟩ := line_of hL hC hN hn
  obtain ⟨h0, h1⟩ := hLv _ hk
  obtain ⟨p1, p2, p3⟩ := pgAt_bd y (L.getD (n / C) 0) (geom_of hL)
  have := hL.hns
  rw [idxs_get _ _ _ _ _ _ _ _ _ hn, idxs_get _ _ _ _ _ _ _ _ _ hn, idxP_none hL hC hN h0 h1]
  obtain ⟨Q, hQ⟩ := Int.eq_ofNat_of_zero_le (show 0 ≤ pgAt y r b o (L.getD (n / C) 0) / 16384 by omega)
  unfold idxP
  rw [hQ, Int.toNat_natCast]
  have e : ((List.replicate ns (-1 : Int)).set q v).getD Q 0 = if q = Q then v else -1 := by
    simp only [List.getD, List.getElem?_set, List.length_replicate, List.getElem?_replicate]
    split
    · rename_i e; subst e; first | rfl | (rw [if_pos hq]; rfl)
    · rw [if_pos (by omega)]; rfl
  rw [e]
  by_cases hqQ : q = Q
  · subst hqQ
    rw [if_pos rfl, if_neg hv, if_pos (by omega)]
    omega
  · rw [if_neg hqQ, if_pos rfl, if_neg (by omega)]
end
theorem rep_none {ns q : Nat} (h : q < ns) : (List.replicate ns (-1 : Int)).getD q 0 = -1 := by
  simp only [List.getD, List.getElem?_replicate]; rw [if_pos h]; rfl
theorem bne_absurd {P Q : Prop} [Decidable P] [Decidable Q] (h : ¬ P ↔ Q) (hb : ((!decide P) != decide Q) = true) : False := by
  by_cases hp : P <;> by_cases hq : Q <;> simp_all
end Go.Proofs.Ytpmnnijjohlloaa
