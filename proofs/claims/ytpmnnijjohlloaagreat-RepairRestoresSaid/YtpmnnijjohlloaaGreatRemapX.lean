/- A map held against the document's. -/
import Derived.Test.YtpmnnijjohlloaaGreatRemapW
import Derived.Test.YtpmnnijjohlloaaGreatPxZ
namespace Go.Proofs.YtpmnnijjohlloaaGreat
open Go Go.RowKit
set_option linter.unusedVariables false
set_option linter.unusedSimpArgs false
theorem idxP_in {r s b o c y z : Int} {pg sn ns : Nat} (hL : Lay r s b o c y z pg sn ns) {L : List Int} {D : List Bool} {S : List Int} {pu ru : Nat} (hV : MapV r s z sn pg ns L D S pu ru) {h : Int} (h0 : 0 ≤ h) (h1 : h < (pg : Int)) : 0 ≤ idxP y r b o S h ∧ idxP y r b o S h ≤ 2000000 := by
  obtain ⟨p1, p2, p3⟩ := pgAt_bd y h (geom_of hL)
  have hns := hL.hns
  have r8 := hL.r8
  have hr := hV.m.hr
  have s8 := hL.s8
  have hs := hV.sv (pgAt y r b o h / 16384).toNat (by omega)
  unfold idxP
  split <;> omega
theorem Lies_k {r s b o c y z : Int} {pg sn ns : Nat} (hL : Lay r s b o c y z pg sn ns) {p gl cl gd cd gs cs : Nat} {L : List Int} {D : List Bool} {S : List Int} {pu ru : Nat} (hV : MapV r s z sn pg ns L D S pu ru) (k : Nat) (hk : k < pg) (w0 : World) (hR : Ro w0 [.blk p #[.int .i64 r, .int .i64 s, .int .i64 b, .int .i64 o, .int .i64 c, .int .i64 y, .int .i64 z, .slice (some ⟨gl, 0, none⟩) sn cl, .slice (some ⟨gd, 0, none⟩) pg cd, .slice (some ⟨gs, 0, none⟩) ns cs, .int .i64 ((pu : Nat) : Int), .int .i64 ((ru : Nat) : Int)] 109, .row (.slice (some ⟨gl, 0, none⟩) sn cl) 3 1 sn (List.map (Value.int .i64) L), .row (.slice (some ⟨gd, 0, none⟩) pg cd) 4 1 pg (List.map Value.bool D), .row (.slice (some ⟨gs, 0, none⟩) ns cs) 3 1 ns (List.map (Value.int .i64) S)]) :
    Calls Tryz.prog 31 #[.pointer (some ⟨p, 0, none⟩), .int .i64 ((k : Nat) : Int)] w0 fun e w' => e = .returned (.tuple #[.int .i64 (idxP y r b o S ((k : Nat) : Int)), .int .i64 0]) ∧ Below w0.heap.size w0 w' := by
  have h := Lies_any hL hV ((k : Nat) : Int) w0 hR
  unfold liV rngE at h
  rw [if_pos (by omega), if_pos (by omega)] at h
  exact h
theorem Dead_k {r s b o c y z : Int} {pg sn ns : Nat} (hL : Lay r s b o c y z pg sn ns) {p gl cl gd cd gs cs : Nat} {L : List Int} {D : List Bool} {S : List Int} {pu ru : Nat} (hV : MapV r s z sn pg ns L D S pu ru) (k : Nat) (hk : k < pg) (w0 : World) (hR : Ro w0 [.blk p #[.int .i64 r, .int .i64 s, .int .i64 b, .int .i64 o, .int .i64 c, .int .i64 y, .int .i64 z, .slice (some ⟨gl, 0, none⟩) sn cl, .slice (some ⟨gd, 0, none⟩) pg cd, .slice (some ⟨gs, 0, none⟩) ns cs, .int .i64 ((pu : Nat) : Int), .int .i64 ((ru : Nat) : Int)] 109, .row (.slice (some ⟨gl, 0, none⟩) sn cl) 3 1 sn (List.map (Value.int .i64) L), .row (.slice (some ⟨gd, 0, none⟩) pg cd) 4 1 pg (List.map Value.bool D), .row (.slice (some ⟨gs, 0, none⟩) ns cs) 3 1 ns (List.map (Value.int .i64) S)]) :
    Calls Tryz.prog 33 #[.pointer (some ⟨p, 0, none⟩), .int .i64 ((k : Nat) : Int)] w0 fun e w' => e = .returned (.bool (D.getD k false)) ∧ Below w0.heap.size w0 w' := by
  have h := Dead_any hL hV ((k : Nat) : Int) w0 hR
  unfold ddV at h
  rw [decide_eq_true (show 0 ≤ ((k : Nat) : Int) ∧ ((k : Nat) : Int) < (pg : Int) by omega), Bool.true_and, Int.toNat_natCast] at h
  exact h
end Go.Proofs.YtpmnnijjohlloaaGreat
