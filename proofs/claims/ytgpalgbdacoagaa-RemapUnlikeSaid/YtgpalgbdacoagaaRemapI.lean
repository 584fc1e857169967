/- Contracts for RemapUnlike, at any number. -/
import Derived.Test.YtgpalgbdacoagaaRemapR
namespace Go.Proofs.Ytgpalgbdacoagaa
open Go Go.RowKit
set_option linter.unusedVariables false
set_option linter.unusedSimpArgs false

theorem Unl.mok {r z s : Int} {sn pg ns : Nat} {L : List Int} {D : List Bool} {S : List Int} {pu ru : Nat} (U : Unl r z s sn pg ns L D S pu ru) : MapOk z s sn pg ns L D S pu ru := ⟨U.st.hL, U.st.hD, U.hS, U.st.hp, U.hr⟩
def deadB (pg : Nat) (D : List Bool) (a : Int) : Bool := (decide (0 ≤ a) && decide (a < (pg : Int))) && D.getD a.toNat false
def spB (ns : Nat) (S : List Int) (a : Int) : Bool := (decide (0 ≤ a) && decide (a < (ns : Int))) && !(decide (S.getD a.toNat 0 = -1))
theorem spB_yes {ns : Nat} {S : List Int} {a : Int} (h : spB ns S a = true) : ∃ q : Nat, a = (q : Int) ∧ q < ns ∧ ¬ S.getD q 0 = -1 := by
  simp only [spB, Bool.and_eq_true, decide_eq_true_eq, Bool.not_eq_true', decide_eq_false_iff_not] at h
  obtain ⟨⟨h0, h1⟩, h2⟩ := h
  obtain ⟨n, rfl⟩ := Int.eq_ofNat_of_zero_le h0
  exact ⟨n, rfl, by omega, h2⟩
theorem spB_no {ns q : Nat} {S : List Int} (h : spB ns S (q : Int) = false) (hq : q < ns) : S.getD q 0 = -1 := by
  unfold spB at h
  rw [decide_eq_true (show 0 ≤ (q : Int) by omega), decide_eq_true (show (q : Int) < (ns : Int) by omega), Int.toNat_natCast] at h
  simpa using h
theorem deadB_no {pg q : Nat} {D : List Bool} (h : deadB pg D (q : Int) = false) (hq : q < pg) : D.getD q false = false := by
  unfold deadB at h
  rw [decide_eq_true (show 0 ≤ (q : Int) by omega), decide_eq_true (show (q : Int) < (pg : Int) by omega), Int.toNat_natCast] at h
  simpa using h
theorem Dead_at {r s b o c y z : Int} {pg sn ns : Nat} (hL : Lay r s b o c y z pg sn ns) {p gl cl gd cd gs cs : Nat} {L : List Int} {D : List Bool} {S : List Int} {pu ru : Nat} (U : Unl r z s sn pg ns L D S pu ru) (a : Int) (w0 : World) (hR : Ro w0 [.blk p #[.int .i64 r, .int .i64 s, .int .i64 b, .int .i64 o, .int .i64 c, .int .i64 y, .int .i64 z, .slice (some ⟨gl, 0, none⟩) sn cl, .slice (some ⟨gd, 0, none⟩) pg cd, .slice (some ⟨gs, 0, none⟩) ns cs, .int .i64 ((pu : Nat) : Int), .int .i64 ((ru : Nat) : Int)] 181, .row (.slice (some ⟨gl, 0, none⟩) sn cl) 3 1 sn (List.map (Value.int .i64) L), .row (.slice (some ⟨gd, 0, none⟩) pg cd) 4 1 pg (List.map Value.bool D), .row (.slice (some ⟨gs, 0, none⟩) ns cs) 3 1 ns (List.map (Value.int .i64) S)]) : Calls Try.prog 54 #[.pointer (some ⟨p, 0, none⟩), .int .i64 a] w0 fun e w' => e = .returned (.bool (deadB pg D a)) ∧ Below w0.heap.size w0 w' := by
  by_cases h : 0 ≤ a ∧ a < (pg : Int)
  · obtain ⟨n, rfl⟩ := Int.eq_ofNat_of_zero_le h.1
    have := Dead_in hL U.mok n (by omega) w0 hR
    have e : deadB pg D (n : Int) = D.getD n false := by unfold deadB; rw [decide_eq_true h.1, decide_eq_true h.2, Int.toNat_natCast]; rfl
    rwa [e]
  · have := Dead_out hL U.mok a (by omega) w0 hR
    have e : deadB pg D a = false := by
      unfold deadB
      by_cases h0 : 0 ≤ a
      · rw [decide_eq_false (p := a < (pg : Int)) (by omega)]; simp
      · rw [decide_eq_false h0]; simp
    rwa [e]
theorem Spare_atNo {r s b o c y z : Int} {pg sn ns : Nat} (hL : Lay r s b o c y z pg sn ns) {p gl cl gd cd gs cs : Nat} {L : List Int} {D : List Bool} {S : List Int} {pu ru : Nat} (U : Unl r z s sn pg ns L D S pu ru) (a : Int) (h : spB ns S a = false) (w0 : World) (hR : Ro w0 [.blk p #[.int .i64 r, .int .i64 s, .int .i64 b, .int .i64 o, .int .i64 c, .int .i64 y, .int .i64 z, .slice (some ⟨gl, 0, none⟩) sn cl, .slice (some ⟨gd, 0, none⟩) pg cd, .slice (some ⟨gs, 0, none⟩) ns cs, .int .i64 ((pu : Nat) : Int), .int .i64 ((ru : Nat) : Int)] 181, .row (.slice (some ⟨gl, 0, none⟩) sn cl) 3 1 sn (List.map (Value.int .i64) L), .row (.slice (some ⟨gd, 0, none⟩) pg cd) 4 1 pg (List.map Value.bool D), .row (.slice (some ⟨gs, 0, none⟩) ns cs) 3 1 ns (List.map (Value.int .i64) S)]) : Calls Try.prog 56 #[.pointer (some ⟨p, 0, none⟩), .int .i64 a] w0 fun e w' => e = .returned (.tuple #[.int .i64 0, .bool false]) ∧ Below w0.heap.size w0 w' := by
  by_cases hi : 0 ≤ a ∧ a < (ns : Int)
  · obtain ⟨n, rfl⟩ := Int.eq_ofNat_of_zero_le hi.1
    exact Spare_no hL U.mok n (by omega) (spB_no h (by omega)) w0 hR
  · exact Spare_out hL U.mok a (by omega) w0 hR
theorem Spare_atYes {r s b o c y z : Int} {pg sn ns : Nat} (hL : Lay r s b o c y z pg sn ns) {p gl cl gd cd gs cs : Nat} {L : List Int} {D : List Bool} {S : List Int} {pu ru : Nat} (U : Unl r z s sn pg ns L D S pu ru) (a : Int) (h : spB ns S a = true) (w0 : World) (hR : Ro w0 [.blk p #[.int .i64 r, .int .i64 s, .int .i64 b, .int .i64 o, .int .i64 c, .int .i64 y, .int .i64 z, .slice (some ⟨gl, 0, none⟩) sn cl, .slice (some ⟨gd, 0, none⟩) pg cd, .slice (some ⟨gs, 0, none⟩) ns cs, .int .i64 ((pu : Nat) : Int), .int .i64 ((ru : Nat) : Int)] 181, .row (.slice (some ⟨gl, 0, none⟩) sn cl) 3 1 sn (List.map (Value.int .i64) L), .row (.slice (some ⟨gd, 0, none⟩) pg cd) 4 1 pg (List.map Value.bool D), .row (.slice (some ⟨gs, 0, none⟩) ns cs) 3 1 ns (List.map (Value.int .i64) S)]) : Calls Try.prog 56 #[.pointer (some ⟨p, 0, none⟩), .int .i64 a] w0 fun e w' => e = .returned (.tuple #[.int .i64 (S.getD a.toNat 0), .bool true]) ∧ Below w0.heap.size w0 w' := by
  obtain ⟨q, rfl, hq, hs⟩ := spB_yes h
  exact Spare_yes hL U.mok q hq hs w0 hR
theorem Retire_atU {r s b o c y z : Int} {pg sn ns : Nat} (hL : Lay r s b o c y z pg sn ns) {p gl cl gd cd gs cs : Nat} {L : List Int} {D : List Bool} {S : List Int} {pu ru : Nat} (U : Unl r z s sn pg ns L D S pu ru) (a : Int) (h : Nat) (ea : a = (h : Int)) (hh : h < sn + pu) (hz : (pu : Int) < z) (dh : D.getD h false = false) (w0 : World) (H0 : Hs (fps [.blk p #[.int .i64 r, .int .i64 s, .int .i64 b, .int .i64 o, .int .i64 c, .int .i64 y, .int .i64 z, .slice (some ⟨gl, 0, none⟩) sn cl, .slice (some ⟨gd, 0, none⟩) pg cd, .slice (some ⟨gs, 0, none⟩) ns cs, .int .i64 (((pu + 1) : Nat) : Int), .int .i64 ((ru : Nat) : Int)] 181, .row (.slice (some ⟨gl, 0, none⟩) sn cl) 3 1 sn (List.map (Value.int .i64) L), .row (.slice (some ⟨gd, 0, none⟩) pg cd) 4 1 pg (List.map Value.bool D), .row (.slice (some ⟨gs, 0, none⟩) ns cs) 3 1 ns (List.map (Value.int .i64) S)]) w0 w0 [.blk p #[.int .i64 r, .int .i64 s, .int .i64 b, .int .i64 o, .int .i64 c, .int .i64 y, .int .i64 z, .slice (some ⟨gl, 0, none⟩) sn cl, .slice (some ⟨gd, 0, none⟩) pg cd, .slice (some ⟨gs, 0, none⟩) ns cs, .int .i64 (((pu + 1) : Nat) : Int), .int .i64 ((ru : Nat) : Int)] 181, .row (.slice (some ⟨gl, 0, none⟩) sn cl) 3 1 sn (List.map (Value.int .i64) L), .row (.slice (some ⟨gd, 0, none⟩) pg cd) 4 1 pg (List.map Value.bool D), .row (.slice (some ⟨gs, 0, none⟩) ns cs) 3 1 ns (List.map (Value.int .i64) S)]) :
    Calls Try.prog 50 #[.pointer (some ⟨p, 0, none⟩), .int .i64 a, .int .i64 ((sn : Int) + pu)] w0 fun e w' => e = .returned (.int .i64 0) ∧ Hs (fps [.blk p #[.int .i64 r, .int .i64 s, .int .i64 b, .int .i64 o, .int .i64 c, .int .i64 y, .int .i64 z, .slice (some ⟨gl, 0, none⟩) sn cl, .slice (some ⟨gd, 0, none⟩) pg cd, .slice (some ⟨gs, 0, none⟩) ns cs, .int .i64 (((pu + 1) : Nat) : Int), .int .i64 ((ru : Nat) : Int)] 181, .row (.slice (some ⟨gl, 0, none⟩) sn cl) 3 1 sn (List.map (Value.int .i64) L), .row (.slice (some ⟨gd, 0, none⟩) pg cd) 4 1 pg (List.map Value.bool D), .row (.slice (some ⟨gs, 0, none⟩) ns cs) 3 1 ns (List.map (Value.int .i64) S)]) w0 w' [.blk p #[.int .i64 r, .int .i64 s, .int .i64 b, .int .i64 o, .int .i64 c, .int .i64 y, .int .i64 z, .slice (some ⟨gl, 0, none⟩) sn cl, .slice (some ⟨gd, 0, none⟩) pg cd, .slice (some ⟨gs, 0, none⟩) ns cs, .int .i64 (((pu + 1) : Nat) : Int), .int .i64 ((ru : Nat) : Int)] 181, .row (.slice (some ⟨gl, 0, none⟩) sn cl) 3 1 sn (List.map (Value.int .i64) (retL ((h : Nat) : Int) ((sn : Int) + pu) L)), .row (.slice (some ⟨gd, 0, none⟩) pg cd) 4 1 pg (List.map Value.bool (D.set h true)), .row (.slice (some ⟨gs, 0, none⟩) ns cs) 3 1 ns (List.map (Value.int .i64) S)] := by
  subst ea
  have hM : MapOk z s sn pg ns L D S (pu + 1) ru := ⟨U.st.hL, U.st.hD, U.hS, by omega, U.hr⟩
  have hsn := hL.hsn
  exact Retire_ok hL hM h (sn + pu) (by omega) (by omega) (by omega) (by omega) dh (U.st.dv _ (Nat.le_refl _)) (by omega) w0 H0
/-- What At tells of a line's index. -/
theorem At_line {r s b o c y z : Int} {pg sn ns : Nat} (hL : Lay r s b o c y z pg sn ns) {L : List Int} {D : List Bool} {S : List Int} {pu ru : Nat} (U : Unl r z s sn pg ns L D S pu ru) {h j i : Int} (h0 : 0 ≤ h) (h1 : h < (pg : Int)) (j0 : 0 ≤ j) (j1 : j < c) (hi : i = idxP y r b o S h * 64 + j) (w : World) :
    Calls Try.prog 58 #[.agg #[.int .i64 r, .int .i64 s, .int .i64 b, .int .i64 o, .int .i64 c], .int .i64 i] w fun e w' => e = .returned (.tuple #[.agg #[.int .i64 (i / 1048576), .int .i64 (i / 65536 % 16), .int .i64 (i / 64 % 1024), .int .i64 (i % 64)], .int .i64 0]) ∧ Below w.heap.size w w' := by
  obtain ⟨q, hq, p1, p2, p3, p4⟩ := idxP_parts hL U h0 h1
  obtain ⟨u1, u2, u3⟩ := pg_bd y h (geom_of hL)
  have hb2 := hL.b2
  have ho2 := hL.o2
  have c2 := hL.c2
  have s0 := hL.s0
  have hns := hL.hns
  have r8 := hL.r8
  have s8 := hL.s8
  have e : pgAt y r b o h = pgRank y r b o h * 16384 + pgBank y r b o h * 1024 + pgRow y r b o h := rfl
  have hq2 : idxP y r b o S h / 16384 < r + s := by rcases p4 with ⟨_, a⟩ | ⟨_, a, _, d⟩ <;> omega
  refine At_in (geom_of hL) i (by omega) (by omega) ?_ ?_ ?_ ?_ w <;> omega

end Go.Proofs.Ytgpalgbdacoagaa
