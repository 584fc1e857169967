/- Where lines are routed while a job goes on, and behind it: plain. -/
import Derived.Test.YtpmnnijjohlloaaRprS
import Derived.Test.YtpmnnijjohlloaaRprT
import Derived.Test.YtpmnnijjohlloaaRemapP
namespace Go.Proofs.Ytpmnnijjohlloaa
open Go Go.RowKit
set_option linter.unusedVariables false
set_option linter.unusedSectionVars false
/-- No two ranks have one spare. -/
def Sinj (ns : Nat) (S : List Int) : Prop := ∀ p q, p < ns → q < ns → ¬ S.getD p 0 = -1 → S.getD p 0 = S.getD q 0 → p = q
theorem Sinj.new (ns : Nat) : Sinj ns (List.replicate ns (-1)) := fun p q hp _ h => absurd (by simp [List.getD, hp]) h
theorem divmod {q m j : Int} (h0 : 0 ≤ j) (h1 : j < m) : (q * m + j) / m = q ∧ (q * m + j) % m = j := by
  have e : q * m + j = j + q * m := Int.add_comm _ _
  rw [e, Int.add_mul_ediv_right _ _ (by omega), Int.add_mul_emod_self_right, Int.ediv_eq_zero_of_lt h0 h1, Int.emod_eq_of_lt h0 h1]
  exact ⟨by omega, rfl⟩
section
variable {r s b o c y z : Int} {sn pg ns : Nat} (hL : Lay r s b o c y z pg sn ns)
include hL
theorem idx_parts {L : List Int} {D : List Bool} {S : List Int} {pu ru : Nat} (hV : MapV r s z sn pg ns L D S pu ru) {h : Int} (h0 : 0 ≤ h) (h1 : h < (pg : Int)) :
    ∃ q : Nat, q < ns ∧ pgAt y r b o h / 16384 = (q : Int) ∧ 0 ≤ idxP y r b o S h ∧ idxP y r b o S h % 16384 = pgAt y r b o h % 16384 ∧
      ((S.getD q 0 = -1 ∧ idxP y r b o S h = pgAt y r b o h) ∨ (¬ S.getD q 0 = -1 ∧ idxP y r b o S h / 16384 = S.getD q 0 ∧ r ≤ S.getD q 0 ∧ S.getD q 0 < r + ru)) := by
  obtain ⟨p1, p2, p3⟩ := pgAt_bd y h (geom_of hL)
  have hns := hL.hns
  obtain ⟨Q, hQ⟩ := Int.eq_ofNat_of_zero_le (show 0 ≤ pgAt y r b o h / 16384 by omega)
  have hQs : Q < ns := by omega
  have hv := hV.sv Q hQs
  have hr := hV.m.hr
  have hr1 := hL.r1
  refine ⟨Q, hQs, hQ, ?_⟩
  unfold idxP
  rw [hQ, Int.toNat_natCast]
  split
  · rename_i e; exact ⟨p1, rfl, .inl ⟨e, rfl⟩⟩
  · rename_i e
    refine ⟨by omega, by omega, .inr ⟨e, by omega, by omega, by omega⟩⟩
theorem idx_inj2 {L1 L2 : List Int} {D1 D2 : List Bool} {S1 S2 : List Int} {pu1 ru1 pu2 ru2 : Nat} (h1 : MapV r s z sn pg ns L1 D1 S1 pu1 ru1) (h2 : MapV r s z sn pg ns L2 D2 S2 pu2 ru2) (hi : Sinj ns S2) (ext : ∀ q, q < ns → ¬ S1.getD q 0 = -1 → S2.getD q 0 = S1.getD q 0)
    {g h : Int} (g0 : 0 ≤ g) (g1 : g < (pg : Int)) (h0 : 0 ≤ h) (hh1 : h < (pg : Int)) (e : idxP y r b o S1 g = idxP y r b o S2 h) : g = h := by
  obtain ⟨p, hp, p1, p2, p3, p4⟩ := idx_parts hL h1 g0 g1
  obtain ⟨q, hq, q1, q2, q3, q4⟩ := idx_parts hL h2 h0 hh1
  have hns := hL.hns
  have hpg := hL.hpg
  have hpq : p = q := by
    rw [e] at p4
    rcases p4 with ⟨a1, a2⟩ | ⟨a1, a2, a3, a4⟩ <;> rcases q4 with ⟨b1, b2⟩ | ⟨b1, b2, b3, b4⟩
    · omega
    · omega
    · omega
    · have e2 := ext p hp a1
      exact hi p q hp hq (by omega) (by omega)
  subst hpq
  rw [e] at p3
  exact pgAt_inj (s := s) (c := c) y (geom_of hL) g0 (by omega) h0 (by omega) (by omega)
theorem nth_parts {k i : Int} (h0 : 0 ≤ i) (h1 : i < b * o * c) : nthI o c k i / 64 / 16384 = k ∧ ordI o c (nthI o c k i) = i := by
  have hg := geom_of hL
  obtain ⟨⟨d1, d2⟩, ⟨d3, d4⟩, ⟨d5, d6⟩, ⟨d7, d8⟩, ⟨d9, d10⟩, _⟩ := geom_bd hg
  obtain ⟨⟨n1, n2⟩, ⟨n3, n4⟩, ⟨n5, n6⟩, n7⟩ := nth_bd hg h0 h1
  have e1 := Int.mul_ediv_add_emod i c
  have e2 := Int.mul_ediv_add_emod (i / c) o
  unfold nthI ordI
  generalize hB : i / c / o = B at *
  generalize hR : i / c % o = R at *
  generalize hC : i % c = C at *
  refine ⟨by omega, ?_⟩
  rw [show ((k * 16384 + B * 1024 + R) * 64 + C) / 65536 % 16 = B by omega, show ((k * 16384 + B * 1024 + R) * 64 + C) / 64 % 1024 = R by omega, show ((k * 16384 + B * 1024 + R) * 64 + C) % 64 = C by omega]
  rw [Int.mul_comm B o, e2, Int.mul_comm _ c, e1]
theorem nth_ord {k B R C : Int} (hR : 0 ≤ R ∧ R < o) (hC : 0 ≤ C ∧ C < c) : nthI o c k ((B * o + R) * c + C) = (k * 16384 + B * 1024 + R) * 64 + C := by
  unfold nthI
  obtain ⟨a1, a2⟩ := divmod (q := B * o + R) hC.1 hC.2
  obtain ⟨a3, a4⟩ := divmod (q := B) hR.1 hR.2
  rw [a1, a2, a3, a4]
/-- A line of a page that lies in its own rank: its place in the rank, and back. -/
theorem ord_own {h col : Int} (c0 : 0 ≤ col) (c1 : col < c) :
    0 ≤ ordI o c (pgAt y r b o h * 64 + col) ∧ ordI o c (pgAt y r b o h * 64 + col) < b * o * c ∧ ∀ k, nthI o c k (ordI o c (pgAt y r b o h * 64 + col)) = (k * 16384 + pgAt y r b o h % 16384) * 64 + col := by
  have hg := geom_of hL
  obtain ⟨⟨d1, d2⟩, ⟨d3, d4⟩, ⟨d5, d6⟩, ⟨d7, d8⟩, ⟨d9, d10⟩, _⟩ := geom_bd hg
  obtain ⟨⟨p1, p2⟩, ⟨p3, p4⟩, ⟨p5, p6⟩⟩ := pg_bd y h hg
  have e2 : pgAt y r b o h = pgRank y r b o h * 16384 + pgBank y r b o h * 1024 + pgRow y r b o h := rfl
  generalize pgAt y r b o h = P at e2 ⊢
  generalize pgBank y r b o h = B at *
  generalize pgRow y r b o h = R at *
  generalize pgRank y r b o h = K at *
  unfold ordI
  rw [show (P * 64 + col) / 65536 % 16 = B by omega, show (P * 64 + col) / 64 % 1024 = R by omega, show (P * 64 + col) % 64 = col by omega]
  have m1 : 0 ≤ B * o := Int.mul_nonneg p3 (by omega)
  have m2 : 0 ≤ (B * o + R) * c := Int.mul_nonneg (by omega) (by omega)
  have m3 : B * o + o ≤ b * o := by
    have := Int.mul_le_mul_of_nonneg_right (show B + 1 ≤ b by omega) (show 0 ≤ o by omega)
    rw [Int.add_mul, Int.one_mul] at this; exact this
  have m4 : (B * o + R) * c + c ≤ b * o * c := by
    have := Int.mul_le_mul_of_nonneg_right (show B * o + R + 1 ≤ b * o by omega) (show 0 ≤ c by omega)
    rw [Int.add_mul, Int.one_mul] at this; exact this
  refine ⟨by omega, by omega, fun k => ?_⟩
  rw [nth_ord hL ⟨p5, p6⟩ ⟨c0, c1⟩]
  omega
end
/-- Where a line is routed. -/
def rtX (y r b o c : Int) (v : Rp) (n : Int) : Int := rtI y r b o c v.S v.j (v.L.getD (n / c).toNat 0) (pgAt y r b o (v.L.getD (n / c).toNat 0) / 16384) (idxP y r b o v.S (v.L.getD (n / c).toNat 0) * 64 + n % c) (n % c)
section
variable {r s b o c y z : Int} {sn pg ns : Nat}
theorem Rp.start_D (v : Rp) (a : Ent) : (v.start r s z sn a).D = v.D ∧ (v.start r s z sn a).S = v.S ∧ (v.start r s z sn a).L = v.L ∧ (v.j.2.2.2 = 0 → (v.start r s z sn a).j.2.2.2 = 0) := by
  unfold Rp.start
  split
  · split
    · exact ⟨rfl, rfl, rfl, fun h => h⟩
    · exact ⟨rfl, rfl, rfl, fun _ => rfl⟩
  · split
    · exact ⟨rfl, rfl, rfl, fun h => h⟩
    · exact ⟨rfl, rfl, rfl, fun _ => rfl⟩
theorem Rp.drain_D : ∀ (q : List Ent) (v : Rp), (Rp.drain r s z sn ns v q).1.D = v.D ∧ (Rp.drain r s z sn ns v q).1.S = v.S ∧ (Rp.drain r s z sn ns v q).1.L = v.L ∧ (v.j.2.2.2 = 0 → (Rp.drain r s z sn ns v q).1.j.2.2.2 = 0)
  | [], v => by rw [Rp.drain]; exact ⟨rfl, rfl, rfl, fun h => h⟩
  | a :: q, v => by
    rw [Rp.drain]
    split
    · split
      · exact Rp.drain_D q v
      · obtain ⟨h1, h2, h3, h4⟩ := Rp.drain_D q (v.start r s z sn a)
        obtain ⟨g1, g2, g3, g4⟩ := Rp.start_D (r := r) (s := s) (z := z) (sn := sn) v a
        exact ⟨h1.trans g1, h2.trans g2, h3.trans g3, fun h => h4 (g4 h)⟩
    · exact ⟨rfl, rfl, rfl, fun h => h⟩
theorem Rp.ask_D (v : Rp) (a : Ent) : (v.ask r s z sn ns a).D = v.D ∧ (v.ask r s z sn ns a).S = v.S ∧ (v.ask r s z sn ns a).L = v.L := by
  unfold Rp.ask
  split
  · exact ⟨rfl, rfl, rfl⟩
  · split
    · obtain ⟨g1, g2, g3, _⟩ := Rp.start_D (r := r) (s := s) (z := z) (sn := sn) v a
      exact ⟨g1, g2, g3⟩
    · exact ⟨rfl, rfl, rfl⟩
/-- What a step leaves of a map: the same, or what a job's end makes of it. -/
theorem Rp.step_map (v : Rp) : (((v.step r s z sn pg ns b o c).1.D = v.D ∧ (v.step r s z sn pg ns b o c).1.S = v.S) ∧ (v.j.1 = 0 ∨ ¬ v.j.2.2.2 + 1 = Rp.cnt b o c v.j)) ∨ (((v.step r s z sn pg ns b o c).1.D = (v.done r sn pg ns).D ∧ (v.step r s z sn pg ns b o c).1.S = (v.done r sn pg ns).S ∧ (v.step r s z sn pg ns b o c).1.L = (v.done r sn pg ns).L ∧ (v.step r s z sn pg ns b o c).1.j.2.2.2 = 0) ∧ ¬ v.j.1 = 0 ∧ v.j.2.2.2 + 1 = Rp.cnt b o c v.j) := by
  unfold Rp.step
  split
  · exact .inl ⟨⟨rfl, rfl⟩, .inl ‹_›⟩
  · split
    · have e : (v.next).done r sn pg ns = v.done r sn pg ns := rfl
      obtain ⟨h1, h2, h3, h4⟩ := Rp.drain_D (r := r) (s := s) (z := z) (sn := sn) (ns := ns) v.next.Q (v.next.done r sn pg ns)
      refine .inr ⟨⟨h1, h2, h3, h4 ?_⟩, ‹_›, ‹_›⟩
      unfold Rp.done; split <;> rfl
    · exact .inl ⟨⟨rfl, rfl⟩, .inr ‹_›⟩
variable (hL : Lay r s b o c y z pg sn ns)
include hL
theorem Rp.done_page {v : Rp} (h : RpOk r s b o c z sn pg ns v) (h1 : v.j.1 = 1) : (v.done r sn pg ns).D = v.D.set v.j.2.1.toNat true ∧ (v.done r sn pg ns).S = v.S ∧ (v.done r sn pg ns).L = retL v.j.2.1 v.j.2.2.1 v.L := by
  have e := h.reE0 hL h1
  unfold Rp.done
  rw [if_pos h1]
  refine ⟨?_, rfl, ?_⟩
  · show reD sn pg v.pu v.D v.j.2.1 v.j.2.2.1 = _; unfold reD; rw [if_pos e]
  · show reL sn pg v.pu v.D v.j.2.1 v.j.2.2.1 v.L = _; unfold reL; rw [if_pos e]
theorem Rp.done_rank {v : Rp} (h : RpOk r s b o c z sn pg ns v) (h1 : v.j.1 = 2) : (v.done r sn pg ns).D = v.D ∧ (v.done r sn pg ns).S = v.S.set v.j.2.1.toNat v.j.2.2.1 ∧ (v.done r sn pg ns).L = v.L := by
  have e := h.rpE0 hL h1
  unfold Rp.done
  rw [if_neg (by omega)]
  refine ⟨rfl, ?_, rfl⟩
  show rpS r ns v.ru v.S v.j.2.1 v.j.2.2.1 = _; unfold rpS; rw [if_pos e]
theorem RpOk.kind {v : Rp} (h : RpOk r s b o c z sn pg ns v) : v.j = (0, 0, 0, 0) ∨ (v.j.1 = 1 ∧ (0 ≤ v.j.2.1 ∧ v.j.2.1 < (pg : Int)) ∧ (0 ≤ v.j.2.2.1 ∧ v.j.2.2.1 < (pg : Int)) ∧ v.j.2.1 ≠ v.j.2.2.1 ∧ v.D.getD v.j.2.1.toNat false = false ∧ v.D.getD v.j.2.2.1.toNat false = false) ∨ (v.j.1 = 2 ∧ (0 ≤ v.j.2.1 ∧ v.j.2.1 < (ns : Int)) ∧ v.S.getD v.j.2.1.toNat 0 = -1 ∧ (r ≤ v.j.2.2.1 ∧ v.j.2.2.1 < r + v.ru) ∧ ∀ q, q < ns → v.S.getD q 0 ≠ v.j.2.2.1) := by
  have hsn := hL.hsn
  have hpu := h.v.m.hp
  rcases h.jb with e | ⟨h1, h2, h3, h4, h5, h6, h7, h8, h9⟩ | ⟨h1, h2, h3, h4, h5, h8, h9⟩
  · exact .inl e
  · exact .inr (.inl ⟨h1, ⟨h2.1, by omega⟩, ⟨by omega, by omega⟩, h6, h3, h5⟩)
  · exact .inr (.inr ⟨h1, h2, h3, h4, h5⟩)
theorem Sinj.ask {v : Rp} {a : Ent} (h : Sinj ns v.S) : Sinj ns (v.ask r s z sn ns a).S := by rw [(Rp.ask_D v a).2.1]; exact h
theorem Sinj.step {v : Rp} (h : RpOk r s b o c z sn pg ns v) (hi : Sinj ns v.S) : Sinj ns (v.step r s z sn pg ns b o c).1.S := by
  rcases Rp.step_map (r := r) (s := s) (z := z) (sn := sn) (pg := pg) (ns := ns) (b := b) (o := o) (c := c) v with ⟨⟨_, e⟩, _⟩ | ⟨⟨_, e, _, _⟩, h0, _⟩
  · rw [e]; exact hi
  · rw [e]
    rcases h.kind hL with k | k | ⟨k1, k2, k3, k4, k5⟩
    · rw [k] at h0; exact absurd rfl h0
    · rw [(Rp.done_page hL h k.1).2.1]; exact hi
    · rw [(Rp.done_rank hL h k1).2.1]
      intro p q hp hq hn e2
      have hS := h.v.m.hS
      rw [getD_setG _ _ _ _ _ (by omega)] at hn
      rw [getD_setG _ _ _ _ _ (by omega), getD_setG _ _ _ _ _ (by omega)] at e2
      have w1 := k5 p hp
      have w2 := k5 q hq
      split at e2 <;> split at e2
      · omega
      · omega
      · omega
      · rename_i n1 n2; rw [if_neg n1] at hn; exact hi p q hp hq hn e2
end
/-- What was replaced stays so. -/
structure Gone (ns : Nat) (S0 : List Int) (j0 : Job4) (v : Rp) : Prop where
  pg : j0.1 = 1 → v.D.getD j0.2.1.toNat false = true
  rk : j0.1 = 2 → ¬ v.S.getD j0.2.1.toNat 0 = -1
  ext : ∀ q, q < ns → ¬ S0.getD q 0 = -1 → v.S.getD q 0 = S0.getD q 0
section
variable {r s b o c y z : Int} {sn pg ns : Nat} (hL : Lay r s b o c y z pg sn ns) {S0 : List Int} {j0 : Job4}
include hL
theorem Gone.ask {v : Rp} {a : Ent} (h : Gone ns S0 j0 v) : Gone ns S0 j0 (v.ask r s z sn ns a) := by
  obtain ⟨e1, e2, _⟩ := Rp.ask_D (r := r) (s := s) (z := z) (sn := sn) (ns := ns) v a
  exact ⟨by rw [e1]; exact h.pg, by rw [e2]; exact h.rk, by rw [e2]; exact h.ext⟩
theorem Gone.step {v : Rp} (hv : RpOk r s b o c z sn pg ns v) (h : Gone ns S0 j0 v) (hj : j0.1 = 2 → 0 ≤ j0.2.1 ∧ j0.2.1 < (ns : Int)) : Gone ns S0 j0 (v.step r s z sn pg ns b o c).1 := by
  rcases Rp.step_map (r := r) (s := s) (z := z) (sn := sn) (pg := pg) (ns := ns) (b := b) (o := o) (c := c) v with ⟨⟨e1, e2⟩, _⟩ | ⟨⟨e1, e2, _, _⟩, h0, _⟩
  · exact ⟨by rw [e1]; exact h.pg, by rw [e2]; exact h.rk, by rw [e2]; exact h.ext⟩
  · have hS := hv.v.m.hS
    have hD := hv.v.m.hD
    rcases hv.kind hL with k | k | ⟨k1, k2, k3, k4, k5⟩
    · rw [k] at h0; exact absurd rfl h0
    · obtain ⟨d1, d2, _⟩ := Rp.done_page hL hv k.1
      refine ⟨fun q => ?_, by rw [e2, d2]; exact h.rk, by rw [e2, d2]; exact h.ext⟩
      rw [e1, d1, getD_setG _ _ _ _ _ (by omega)]
      split
      · rfl
      · exact h.pg q
    · obtain ⟨d1, d2, _⟩ := Rp.done_rank hL hv k1
      have hr1 := hL.r1
      have g : ∀ q, (v.S.set v.j.2.1.toNat v.j.2.2.1).getD q 0 = if v.j.2.1.toNat = q then v.j.2.2.1 else v.S.getD q 0 := fun q => getD_setG _ _ _ _ _ (by omega)
      refine ⟨by rw [e1, d1]; exact h.pg, fun q => ?_, fun q hq hn => ?_⟩
      · rw [e2, d2, g]
        split
        · omega
        · exact h.rk q
      · rw [e2, d2, g]
        split
        · rename_i n; subst n; have := h.ext _ hq hn; omega
        · exact h.ext q hq hn
theorem Gone.first {v : Rp} (hv : RpOk r s b o c z sn pg ns v) (h0 : ¬ v.j.1 = 0) (he : v.j.2.2.2 + 1 = Rp.cnt b o c v.j) : Gone ns v.S v.j (v.step r s z sn pg ns b o c).1 := by
  rcases Rp.step_map (r := r) (s := s) (z := z) (sn := sn) (pg := pg) (ns := ns) (b := b) (o := o) (c := c) v with ⟨_, n | n⟩ | ⟨⟨e1, e2, _, _⟩, _, _⟩
  · exact absurd n h0
  · exact absurd he n
  · have hS := hv.v.m.hS
    have hD := hv.v.m.hD
    rcases hv.kind hL with k | k | ⟨k1, k2, k3, k4, k5⟩
    · rw [k] at h0; exact absurd rfl h0
    · obtain ⟨d1, d2, _⟩ := Rp.done_page hL hv k.1
      refine ⟨fun q => ?_, fun q => by omega, fun q _ _ => by rw [e2, d2]⟩
      rw [e1, d1, getD_setG _ _ _ _ _ (by omega), if_pos rfl]
    · obtain ⟨d1, d2, _⟩ := Rp.done_rank hL hv k1
      have hr1 := hL.r1
      have g : ∀ q, (v.S.set v.j.2.1.toNat v.j.2.2.1).getD q 0 = if v.j.2.1.toNat = q then v.j.2.2.1 else v.S.getD q 0 := fun q => getD_setG _ _ _ _ _ (by omega)
      refine ⟨fun q => by omega, fun q => ?_, fun q hq hn => ?_⟩
      · rw [e2, d2, g, if_pos rfl]; omega
      · rw [e2, d2, g]
        split
        · rename_i n; subst n; exact absurd k3 hn
        · rfl
/-- A job that comes behind is another one. -/
theorem Gone.other {v : Rp} (hv : RpOk r s b o c z sn pg ns v) (h : Gone ns S0 j0 v) (h0 : j0.1 = 1 ∨ j0.1 = 2) : ¬ (v.j.1 = j0.1 ∧ v.j.2.1 = j0.2.1) := by
  rintro ⟨a1, a2⟩
  rcases hv.kind hL with k | ⟨k1, _, _, _, k5, _⟩ | ⟨k1, k2, k3, k4, k5⟩
  · rw [k] at a1; change (0 : Int) = j0.1 at a1; omega
  · have := h.pg (by omega); rw [← a2, k5] at this; cases this
  · have := h.rk (by omega); rw [← a2] at this; exact this k3
/-- No line that is seen is routed to what was replaced. -/
theorem Gone.route {v : Rp} (hv : RpOk r s b o c z sn pg ns v) (hi : Sinj ns v.S) (h : Gone ns S0 j0 v) {L0 : List Int} {D0 : List Bool} {pu0 ru0 : Nat} (hV0 : MapV r s z sn pg ns L0 D0 S0 pu0 ru0) (h0 : (j0.1 = 1 ∧ 0 ≤ j0.2.1 ∧ j0.2.1 < (pg : Int)) ∨ (j0.1 = 2 ∧ 0 ≤ j0.2.1 ∧ j0.2.1 < (ns : Int))) {n : Int} (n0 : 0 ≤ n) (n1 : n < (sn : Int) * c) {i : Int} (i0 : 0 ≤ i) (i1 : i < Rp.cnt b o c j0) : rtX y r b o c v n ≠ atI y r b o c S0 j0.1 j0.2.1 i := by
  have hg := geom_of hL
  obtain ⟨⟨d1, d2⟩, ⟨d3, d4⟩, ⟨d5, d6⟩, ⟨d7, d8⟩, ⟨d9, d10⟩, _⟩ := geom_bd hg
  have hns := hL.hns
  have hq : 0 ≤ n / c ∧ n / c < (sn : Int) := ⟨Int.ediv_nonneg n0 (by omega), Int.ediv_lt_of_lt_mul (by omega) n1⟩
  have hlv := hv.v.lv (n / c).toNat (by omega)
  have hnd := hv.liv.nd (n / c).toNat (by omega)
  have hcl : 0 ≤ n % c ∧ n % c < c := ⟨Int.emod_nonneg _ (by omega), Int.emod_lt_of_pos _ (by omega)⟩
  have live : ∀ g col : Int, 0 ≤ g → g < (pg : Int) → v.D.getD g.toNat false = false → 0 ≤ col → col < c → idxP y r b o v.S g * 64 + col ≠ atI y r b o c S0 j0.1 j0.2.1 i := by
    intro g col g0 g1 gd c0 c1 e
    rcases h0 with ⟨a1, a2, a3⟩ | ⟨a1, a2, a3⟩
    · unfold atI at e; rw [if_neg (by omega)] at e
      unfold Rp.cnt at i1; rw [if_pos a1] at i1
      have e2 := idx_inj2 hL hV0 hv.v hi h.ext a2 a3 g0 g1 (by omega)
      have := h.pg a1; rw [e2, gd] at this; cases this
    · unfold atI at e; rw [if_pos a1] at e
      unfold Rp.cnt at i1; rw [if_neg (by omega), if_pos a1] at i1
      obtain ⟨m1, _⟩ := nth_parts hL (k := j0.2.1) i0 i1
      obtain ⟨q, hq, q1, q2, q3, q4⟩ := idx_parts hL hv.v g0 g1
      have hk := h.rk a1
      rcases q4 with ⟨b1, b2⟩ | ⟨b1, b2, b3, b4⟩
      · have : q = j0.2.1.toNat := by omega
        rw [← this] at hk; exact hk b1
      · omega
  have far : ∀ to k : Int, r ≤ to → (∀ q, q < ns → v.S.getD q 0 ≠ to) → 0 ≤ k → k < b * o * c → nthI o c to k ≠ atI y r b o c S0 j0.1 j0.2.1 i := by
    intro to k t0 t1 k0 k1 e
    obtain ⟨m0, _⟩ := nth_parts hL (k := to) k0 k1
    rcases h0 with ⟨a1, a2, a3⟩ | ⟨a1, a2, a3⟩
    · unfold atI at e; rw [if_neg (by omega)] at e
      unfold Rp.cnt at i1; rw [if_pos a1] at i1
      obtain ⟨q, hq, q1, q2, q3, q4⟩ := idx_parts hL hV0 a2 a3
      rcases q4 with ⟨b1, b2⟩ | ⟨b1, b2, b3, b4⟩
      · omega
      · have := h.ext q hq b1; have := t1 q hq; omega
    · unfold atI at e; rw [if_pos a1] at e
      unfold Rp.cnt at i1; rw [if_neg (by omega), if_pos a1] at i1
      obtain ⟨m1, _⟩ := nth_parts hL (k := j0.2.1) i0 i1
      omega
  unfold rtX rtI
  have own := live _ _ hlv.1 hlv.2 hnd hcl.1 hcl.2
  split
  · rename_i e1
    split
    · rcases hv.kind hL with k | ⟨k1, k2, k3, k4, k5, k6⟩ | k
      · rw [k] at e1; cases e1.1
      · have q := live _ _ k3.1 k3.2 k6 hcl.1 hcl.2
        show atI y r b o c v.S 1 v.j.2.2.1 (n % c) ≠ _
        unfold atI; rw [if_neg (by decide)]; exact q
      · omega
    · exact own
  · split
    · rename_i e1
      split
      · rcases hv.kind hL with k | k | ⟨k1, k2, k3, k4, k5⟩
        · rw [k] at e1; cases e1.1
        · omega
        · rename_i e2
          obtain ⟨q, hq, q1, q2, q3, q4⟩ := idx_parts hL hv.v hlv.1 hlv.2
          have hqf : q = v.j.2.1.toNat := by omega
          rcases q4 with ⟨b1, b2⟩ | ⟨b1, b2, b3, b4⟩
          · rw [b2] at e2 ⊢
            obtain ⟨o1, o2, _⟩ := ord_own hL (y := y) (h := v.L.getD (n / c).toNat 0) hcl.1 hcl.2
            have q := far _ _ k4.1 k5 o1 o2
            show atI y r b o c v.S 2 v.j.2.2.1 _ ≠ _
            unfold atI; rw [if_pos rfl]; exact q
          · rw [hqf] at b1; exact absurd k3 b1
      · exact own
    · exact own
/-- The indices of what is replaced. -/
def srcL (y r b o c : Int) (S0 : List Int) (j0 : Job4) (N : Nat) : List Int := (List.range N).map fun (k : Nat) => atI y r b o c S0 j0.1 j0.2.1 (k : Int)
omit hL in
theorem srcL_succ (S0 : List Int) (j0 : Job4) (N : Nat) : srcL y r b o c S0 j0 (N + 1) = srcL y r b o c S0 j0 N ++ [atI y r b o c S0 j0.1 j0.2.1 (N : Int)] := by unfold srcL; rw [List.range_succ, List.map_append]; rfl
omit hL in
theorem srcL_len (S0 : List Int) (j0 : Job4) (N : Nat) : (srcL y r b o c S0 j0 N).length = N := by simp [srcL]
omit hL in
theorem srcL_mem {S0 : List Int} {j0 : Job4} {N : Nat} {x : Int} (h : x ∈ srcL y r b o c S0 j0 N) : ∃ k : Nat, k < N ∧ x = atI y r b o c S0 j0.1 j0.2.1 (k : Int) := by
  simp only [srcL, List.mem_map, List.mem_range] at h
  obtain ⟨k, hk, e⟩ := h
  exact ⟨k, hk, e.symm⟩
end
end Go.Proofs.Ytpmnnijjohlloaa
