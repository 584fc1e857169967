/- What a map is while pages and ranks are replaced, each by one of its own: plain. -/
import Derived.Test.YtgpalgbdacoagaaRemapH
namespace Go.Proofs.Ytgpalgbdacoagaa
open Go Go.RowKit
set_option linter.unusedVariables false
set_option linter.unusedSimpArgs false
set_option linter.unusedSectionVars false
structure Unl (r z s : Int) (sn pg ns : Nat) (L : List Int) (D : List Bool) (S : List Int) (pu ru : Nat) : Prop where
  st : Stay z sn pg L D pu
  hS : S.length = ns
  hr : (ru : Int) ≤ s
  live : ∀ k, k < sn → D.getD (L.getD k 0).toNat false = false
  inj : ∀ i j, i < sn → j < sn → L.getD i 0 = L.getD j 0 → i = j
  sv : ∀ q, q < ns → S.getD q 0 = -1 ∨ (r ≤ S.getD q 0 ∧ S.getD q 0 < r + ru)
  sinj : ∀ p q, p < ns → q < ns → ¬ S.getD p 0 = -1 → S.getD p 0 = S.getD q 0 → p = q
theorem Unl.init {r z s : Int} (sn pg ns : Nat) (hz : 0 ≤ z) (hs : 0 ≤ s) : Unl r z s sn pg ns (iota sn) (List.replicate pg false) (List.replicate ns (-1)) 0 0 :=
  ⟨Stay.init sn pg hz, List.length_replicate, by omega, fun k _ => rep_get pg _ false, fun i j hi hj h => by rw [iota_get sn i 0 hi, iota_get sn j 0 hj] at h; omega,
   fun q hq => .inl (rep_none hq), fun p q hp _ hn _ => absurd (rep_none hp) hn⟩
theorem Unl.page {r z s : Int} {sn pg ns pu ru h : Nat} {L : List Int} {D : List Bool} {S : List Int} (U : Unl r z s sn pg ns L D S pu ru) (hh : h < sn + pu) (hz : (pu : Int) < z) : Unl r z s sn pg ns (retL ((h : Nat) : Int) ((sn : Int) + pu) L) (D.set h true) S (pu + 1) ru := by
  have g : ∀ k, k < sn → (retL ((h : Nat) : Int) ((sn : Int) + pu) L).getD k 0 = if L.getD k 0 = ((h : Nat) : Int) then (sn : Int) + pu else L.getD k 0 := fun k hk => getD_retL _ _ _ _ (by rw [U.st.hL]; exact hk)
  refine ⟨U.st.next hh hz, U.hS, U.hr, fun k hk => ?_, fun i j hi hj e => ?_, U.sv, U.sinj⟩
  · rw [g k hk, getD_set]
    have hv := U.st.lv k hk
    split
    · rw [if_neg (by omega)]
      exact U.st.dv _ (by omega)
    · rename_i hne
      rw [if_neg (by omega)]
      exact U.live k hk
  · rw [g i hi, g j hj] at e
    have vi := U.st.lv i hi
    have vj := U.st.lv j hj
    split at e <;> split at e
    · rename_i e1 e2; exact U.inj i j hi hj (by rw [e1, e2])
    · omega
    · omega
    · exact U.inj i j hi hj e
theorem getD_setI (S : List Int) (q k : Nat) (v : Int) (hq : q < S.length) : (S.set q v).getD k 0 = if q = k then v else S.getD k 0 := by
  simp only [List.getD, List.getElem?_set]
  split
  · rename_i e; subst e; simp [hq]
  · rfl
theorem Unl.rank {r z s : Int} {sn pg ns pu ru q : Nat} {L : List Int} {D : List Bool} {S : List Int} (U : Unl r z s sn pg ns L D S pu ru) (hr : 1 ≤ r) (hq : q < ns) (hs : S.getD q 0 = -1) (hz : (ru : Int) < s) : Unl r z s sn pg ns L D (S.set q (r + ru)) pu (ru + 1) := by
  have g := fun k => getD_setI S q k (r + ru) (by rw [U.hS]; exact hq)
  refine ⟨U.st, by rw [List.length_set]; exact U.hS, by omega, U.live, U.inj, fun k hk => ?_, fun i j hi hj hn e => ?_⟩
  · rw [g k]
    have := U.sv k hk
    split <;> omega
  · rw [g i] at hn
    rw [g i, g j] at e
    have vi := U.sv i hi
    have vj := U.sv j hj
    split at e <;> split at e
    · omega
    · rename_i h1 h2; omega
    · rename_i h1 h2; rw [if_neg h1] at hn; omega
    · rename_i h1 h2; rw [if_neg h1] at hn; exact U.sinj i j hi hj hn e
section
variable {r s b o c y z : Int} {pg sn ns : Nat} (hL : Lay r s b o c y z pg sn ns)
include hL
/-- Where a page lies: its rank, and its place in the rank. -/
theorem idxP_parts {L : List Int} {D : List Bool} {S : List Int} {pu ru : Nat} (U : Unl r z s sn pg ns L D S pu ru) {h : Int} (h0 : 0 ≤ h) (h1 : h < (pg : Int)) :
    ∃ q : Nat, q < ns ∧ pgAt y r b o h / 16384 = (q : Int) ∧ 0 ≤ idxP y r b o S h ∧ idxP y r b o S h % 16384 = pgAt y r b o h % 16384 ∧
      ((S.getD q 0 = -1 ∧ idxP y r b o S h / 16384 = (q : Int)) ∨ (¬ S.getD q 0 = -1 ∧ idxP y r b o S h / 16384 = S.getD q 0 ∧ r ≤ S.getD q 0 ∧ S.getD q 0 < r + s)) := by
  obtain ⟨p1, p2, p3⟩ := pgAt_bd y h (geom_of hL)
  have hns := hL.hns
  obtain ⟨Q, hQ⟩ := Int.eq_ofNat_of_zero_le (show 0 ≤ pgAt y r b o h / 16384 by omega)
  have hQs : Q < ns := by omega
  have hv := U.sv Q hQs
  have hr := U.hr
  refine ⟨Q, hQs, hQ, ?_⟩
  unfold idxP
  rw [hQ, Int.toNat_natCast]
  split
  · rename_i e; exact ⟨p1, rfl, .inl ⟨e, hQ⟩⟩
  · rename_i e
    refine ⟨by omega, by omega, .inr ⟨e, by omega, by omega, by omega⟩⟩
theorem idxP_inj {L : List Int} {D : List Bool} {S : List Int} {pu ru : Nat} (U : Unl r z s sn pg ns L D S pu ru) {g h : Int} (g0 : 0 ≤ g) (g1 : g < (pg : Int)) (h0 : 0 ≤ h) (h1 : h < (pg : Int)) (e : idxP y r b o S g = idxP y r b o S h) : g = h := by
  obtain ⟨p, hp, p1, p2, p3, p4⟩ := idxP_parts hL U g0 g1
  obtain ⟨q, hq, q1, q2, q3, q4⟩ := idxP_parts hL U h0 h1
  have hns := hL.hns
  have hpg := hL.hpg
  have hpq : p = q := by
    rw [e] at p4
    rcases p4 with ⟨a1, a2⟩ | ⟨a1, a2, a3, a4⟩ <;> rcases q4 with ⟨b1, b2⟩ | ⟨b1, b2, b3, b4⟩
    · omega
    · omega
    · omega
    · exact U.sinj p q hp hq a1 (by omega)
  subst hpq
  rw [e] at p3
  exact pgAt_inj (s := s) (c := c) y (geom_of hL) g0 (by omega) h0 (by omega) (by omega)
end
end Go.Proofs.Ytgpalgbdacoagaa
