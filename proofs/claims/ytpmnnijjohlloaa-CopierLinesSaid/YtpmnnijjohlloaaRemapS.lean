/- Contracts of a map at any arguments. -/
import Derived.Test.YtpmnnijjohlloaaRemapE
import Derived.Test.YtpmnnijjohlloaaPxZ
namespace Go.Proofs.Ytpmnnijjohlloaa
open Go Go.RowKit
set_option linter.unusedVariables false
set_option linter.unusedSimpArgs false
/-- What a map has, and where it may be. -/
structure MapV (r s z : Int) (sn pg ns : Nat) (L : List Int) (D : List Bool) (S : List Int) (pu ru : Nat) : Prop where
  m : MapOk z s sn pg ns L D S pu ru
  lv : ∀ k, k < sn → 0 ≤ L.getD k 0 ∧ L.getD k 0 < (pg : Int)
  sv : ∀ q, q < ns → S.getD q 0 = -1 ∨ (r ≤ S.getD q 0 ∧ S.getD q 0 < r + ru)
def rngE (n : Nat) (a : Int) : Int := if 0 ≤ a ∧ a < (n : Int) then 0 else 12
def ddV (pg : Nat) (D : List Bool) (a : Int) : Bool := decide (0 ≤ a ∧ a < (pg : Int)) && D.getD a.toNat false
def spK (ns : Nat) (S : List Int) (a : Int) : Bool := decide (0 ≤ a ∧ a < (ns : Int)) && !(decide (S.getD a.toNat 0 = -1))
def spV (ns : Nat) (S : List Int) (a : Int) : Int := if spK ns S a = true then S.getD a.toNat 0 else 0
def liV (y r b o : Int) (pg : Nat) (S : List Int) (a : Int) : Int := if 0 ≤ a ∧ a < (pg : Int) then idxP y r b o S a else 0
def ixE (c : Int) (sn : Nat) (a : Int) : Int := if 0 ≤ a ∧ a < (sn : Int) * c then 0 else 12
def ixH (c : Int) (sn : Nat) (L : List Int) (a : Int) : Int := if 0 ≤ a ∧ a < (sn : Int) * c then L.getD (a / c).toNat 0 else 0
def ixR (y r b o c : Int) (sn : Nat) (L : List Int) (a : Int) : Int := if 0 ≤ a ∧ a < (sn : Int) * c then pgAt y r b o (L.getD (a / c).toNat 0) / 16384 else 0
def ixI (y r b o c : Int) (sn : Nat) (L : List Int) (S : List Int) (a : Int) : Int := if 0 ≤ a ∧ a < (sn : Int) * c then idxP y r b o S (L.getD (a / c).toNat 0) * 64 + a % c else 0
def fpV (z : Int) (sn pu : Nat) : Int := if ((pu : Nat) : Int) = z then 0 else (sn : Int) + pu
def fsV (r s : Int) (ru : Nat) : Int := if ((ru : Nat) : Int) = s then 0 else r + ru
def tkE (z : Int) (pu : Nat) : Int := if ((pu : Nat) : Int) = z then 52 else 0
def tkN (z : Int) (pu : Nat) : Nat := if ((pu : Nat) : Int) = z then pu else pu + 1
def reE (sn pg pu : Nat) (D : List Bool) (h t : Int) : Int := if ¬ (0 ≤ h ∧ h < (pg : Int)) ∨ ¬ ((sn : Int) ≤ t ∧ t < (sn : Int) + pu) then 12 else if D.getD h.toNat false = true ∨ D.getD t.toNat false = true ∨ h = t then 15 else 0
def reL (sn pg pu : Nat) (D : List Bool) (h t : Int) (L : List Int) : List Int := if reE sn pg pu D h t = 0 then retL h t L else L
def reD (sn pg pu : Nat) (D : List Bool) (h t : Int) : List Bool := if reE sn pg pu D h t = 0 then D.set h.toNat true else D
def rpE (r : Int) (ns ru : Nat) (S : List Int) (q v : Int) : Int := if ¬ (0 ≤ q ∧ q < (ns : Int)) ∨ ¬ (r ≤ v ∧ v < r + ru) then 12 else if ¬ S.getD q.toNat 0 = -1 then 15 else 0
def rpS (r : Int) (ns ru : Nat) (S : List Int) (q v : Int) : List Int := if rpE r ns ru S q v = 0 then S.set q.toNat v else S
section
variable {r s z : Int} {sn pg ns : Nat} {L : List Int} {D : List Bool} {S : List Int} {pu ru : Nat}
theorem getD_retL (home to : Int) (L : List Int) (k : Nat) (h : k < L.length) : (retL home to L).getD k 0 = if L.getD k 0 = home then to else L.getD k 0 := by
  unfold retL
  simp [List.getD, h]
theorem getD_setG {α : Type} (S : List α) (q k : Nat) (v d : α) (hq : q < S.length) : (S.set q v).getD k d = if q = k then v else S.getD k d := by
  simp only [List.getD, List.getElem?_set]
  split
  · rename_i e; subst e; simp [hq]
  · rfl
theorem retL_len (home to : Int) (L : List Int) : (retL home to L).length = L.length := by unfold retL; simp
theorem MapV.take (hV : MapV r s z sn pg ns L D S pu ru) : MapV r s z sn pg ns L D S (tkN z pu) ru := by
  unfold tkN; have hp := hV.m.hp; split
  · exact hV
  · exact ⟨⟨hV.m.hL, hV.m.hD, hV.m.hS, by omega, hV.m.hr⟩, hV.lv, hV.sv⟩
theorem MapV.takeS (hV : MapV r s z sn pg ns L D S pu ru) : MapV r s z sn pg ns L D S pu (tkN s ru) := by
  unfold tkN; have hr := hV.m.hr; split
  · exact hV
  · refine ⟨⟨hV.m.hL, hV.m.hD, hV.m.hS, hV.m.hp, by omega⟩, hV.lv, fun q hq => ?_⟩
    rcases hV.sv q hq with h | h
    · exact .inl h
    · exact .inr (by omega)
theorem MapV.retire {b o c y : Int} (hL : Lay r s b o c y z pg sn ns) (hV : MapV r s z sn pg ns L D S pu ru) (h t : Int) : MapV r s z sn pg ns (reL sn pg pu D h t L) (reD sn pg pu D h t) S pu ru := by
  unfold reL reD
  by_cases e : reE sn pg pu D h t = 0
  · rw [if_pos e, if_pos e]
    have hb : (0 ≤ h ∧ h < (pg : Int)) ∧ ((sn : Int) ≤ t ∧ t < (sn : Int) + pu) := by
      unfold reE at e; split at e
      · cases e
      · omega
    have hsn := hL.hsn
    have hp := hV.m.hp
    refine ⟨⟨by rw [retL_len]; exact hV.m.hL, by rw [List.length_set]; exact hV.m.hD, hV.m.hS, hV.m.hp, hV.m.hr⟩, fun k hk => ?_, hV.sv⟩
    rw [getD_retL _ _ _ _ (by rw [hV.m.hL]; exact hk)]
    split
    · omega
    · exact hV.lv k hk
  · rw [if_neg e, if_neg e]; exact hV
theorem MapV.replace (hV : MapV r s z sn pg ns L D S pu ru) (q v : Int) : MapV r s z sn pg ns L D (rpS r ns ru S q v) pu ru := by
  unfold rpS
  by_cases e : rpE r ns ru S q v = 0
  · rw [if_pos e]
    have hb : (0 ≤ q ∧ q < (ns : Int)) ∧ (r ≤ v ∧ v < r + ru) := by
      unfold rpE at e; split at e
      · cases e
      · omega
    refine ⟨⟨hV.m.hL, hV.m.hD, by rw [List.length_set]; exact hV.m.hS, hV.m.hp, hV.m.hr⟩, hV.lv, fun k hk => ?_⟩
    rw [getD_setG _ _ _ _ _ (by rw [hV.m.hS]; omega)]
    split
    · exact .inr hb.2
    · exact hV.sv k hk
  · rw [if_neg e]; exact hV
end
theorem Dead_any {r s b o c y z : Int} {pg sn ns : Nat} (hL : Lay r s b o c y z pg sn ns) {p gl cl gd cd gs cs : Nat} {L : List Int} {D : List Bool} {S : List Int} {pu ru : Nat} (hV : MapV r s z sn pg ns L D S pu ru) (a : Int) (w0 : World) (hR : Ro w0 [.blk p #[.int .i64 r, .int .i64 s, .int .i64 b, .int .i64 o, .int .i64 c, .int .i64 y, .int .i64 z, .slice (some ⟨gl, 0, none⟩) sn cl, .slice (some ⟨gd, 0, none⟩) pg cd, .slice (some ⟨gs, 0, none⟩) ns cs, .int .i64 ((pu : Nat) : Int), .int .i64 ((ru : Nat) : Int)] 118, .row (.slice (some ⟨gl, 0, none⟩) sn cl) 3 1 sn (List.map (Value.int .i64) L), .row (.slice (some ⟨gd, 0, none⟩) pg cd) 4 1 pg (List.map Value.bool D), .row (.slice (some ⟨gs, 0, none⟩) ns cs) 3 1 ns (List.map (Value.int .i64) S)]) :
    Calls Try.prog 59 #[.pointer (some ⟨p, 0, none⟩), .int .i64 a] w0 fun e w' => e = .returned (.bool (ddV pg D a)) ∧ Below w0.heap.size w0 w' := by
  have hM := hV.m
  unfold ddV
  by_cases h : 0 ≤ a ∧ a < ((pg : Nat) : Int)
  · obtain ⟨k, rfl⟩ := Int.eq_ofNat_of_zero_le h.1
    rw [decide_eq_true h, Bool.true_and]
    exact Dead_in hL hM k (by omega) w0 hR
  · rw [decide_eq_false h, Bool.false_and]
    exact Dead_out hL hM a (by omega) w0 hR
theorem Spare_any {r s b o c y z : Int} {pg sn ns : Nat} (hL : Lay r s b o c y z pg sn ns) {p gl cl gd cd gs cs : Nat} {L : List Int} {D : List Bool} {S : List Int} {pu ru : Nat} (hV : MapV r s z sn pg ns L D S pu ru) (a : Int) (w0 : World) (hR : Ro w0 [.blk p #[.int .i64 r, .int .i64 s, .int .i64 b, .int .i64 o, .int .i64 c, .int .i64 y, .int .i64 z, .slice (some ⟨gl, 0, none⟩) sn cl, .slice (some ⟨gd, 0, none⟩) pg cd, .slice (some ⟨gs, 0, none⟩) ns cs, .int .i64 ((pu : Nat) : Int), .int .i64 ((ru : Nat) : Int)] 118, .row (.slice (some ⟨gl, 0, none⟩) sn cl) 3 1 sn (List.map (Value.int .i64) L), .row (.slice (some ⟨gd, 0, none⟩) pg cd) 4 1 pg (List.map Value.bool D), .row (.slice (some ⟨gs, 0, none⟩) ns cs) 3 1 ns (List.map (Value.int .i64) S)]) :
    Calls Try.prog 61 #[.pointer (some ⟨p, 0, none⟩), .int .i64 a] w0 fun e w' => e = .returned (.tuple #[.int .i64 (spV ns S a), .bool (spK ns S a)]) ∧ Below w0.heap.size w0 w' := by
  have hM := hV.m
  unfold spV spK
  by_cases h : 0 ≤ a ∧ a < ((ns : Nat) : Int)
  · obtain ⟨k, rfl⟩ := Int.eq_ofNat_of_zero_le h.1
    rw [decide_eq_true h, Bool.true_and]
    by_cases hs : S.getD k 0 = -1
    · have e : decide (S.getD (((k : Nat) : Int)).toNat 0 = -1) = true := decide_eq_true hs
      rw [e]; exact Spare_no hL hM k (by omega) hs w0 hR
    · have e : decide (S.getD (((k : Nat) : Int)).toNat 0 = -1) = false := decide_eq_false hs
      rw [e]; exact Spare_yes hL hM k (by omega) hs w0 hR
  · rw [decide_eq_false h, Bool.false_and]
    exact Spare_out hL hM a (by omega) w0 hR
theorem FreePage_any {r s b o c y z : Int} {pg sn ns : Nat} (hL : Lay r s b o c y z pg sn ns) {p gl cl gd cd gs cs : Nat} {L : List Int} {D : List Bool} {S : List Int} {pu ru : Nat} (hV : MapV r s z sn pg ns L D S pu ru)  (w0 : World) (hR : Ro w0 [.blk p #[.int .i64 r, .int .i64 s, .int .i64 b, .int .i64 o, .int .i64 c, .int .i64 y, .int .i64 z, .slice (some ⟨gl, 0, none⟩) sn cl, .slice (some ⟨gd, 0, none⟩) pg cd, .slice (some ⟨gs, 0, none⟩) ns cs, .int .i64 ((pu : Nat) : Int), .int .i64 ((ru : Nat) : Int)] 118, .row (.slice (some ⟨gl, 0, none⟩) sn cl) 3 1 sn (List.map (Value.int .i64) L), .row (.slice (some ⟨gd, 0, none⟩) pg cd) 4 1 pg (List.map Value.bool D), .row (.slice (some ⟨gs, 0, none⟩) ns cs) 3 1 ns (List.map (Value.int .i64) S)]) :
    Calls Try.prog 58 #[.pointer (some ⟨p, 0, none⟩)] w0 fun e w' => e = .returned (.tuple #[.int .i64 (fpV z sn pu), .bool (!(decide (((pu : Nat) : Int) = z)))]) ∧ Below w0.heap.size w0 w' := by
  have hM := hV.m
  unfold fpV
  by_cases h : ((pu : Nat) : Int) = z
  · rw [if_pos h, decide_eq_true h]; exact FreePage_no hL hM h w0 hR
  · rw [if_neg h, decide_eq_false h]; exact FreePage_yes hL hM h w0 hR
set_option maxRecDepth 100000 in
set_option maxHeartbeats 4000000 in
theorem Page_out {r s b o c y z : Int} {pg sn ns : Nat} (hL : Lay r s b o c y z pg sn ns) (n : Int) (hn : ¬ (0 ≤ n ∧ n < ((pg : Nat) : Int))) (w0 : World) :
    Calls Try.prog 113 #[.agg #[.int .i64 r, .int .i64 s, .int .i64 b, .int .i64 o, .int .i64 c], .int .i64 y, .int .i64 n] w0 fun e w' => e = .returned (.tuple #[.int .i64 0, .int .i64 12]) ∧ Below w0.heap.size w0 w' := by
  refine z_enter Try.func113 rfl ?_
  have H := Hs.nil w0
  have hok := hL.ok
  obtain ⟨-, r1, r8, s0, s8, b1, b2, o1, o2, c1, c2, y0, y4, z0, z2, hpg, hsn, hns, sn1, pg2, ln0, ln2⟩ := id hL
  refine x_seq <| x_region <| z_box H #[.int .i64 r, .int .i64 s, .int .i64 b, .int .i64 o, .int .i64 c] 23 (fun v1 g1 H => ?_)
  refine x_b H [.m, .m] <| x_nil <| x_then <| x_seq <| x_seq <| x_region <| x_b H [.n 0 0 5 23, .m] ?_
  refine z_callB (v := .bool (interOk r s b o c y)) H (iRight_any _ _ _ _ _ _ (by omega) (by omega) (by omega) (by omega) _) fun v2 H => x_b H [.v (.bool (!(interOk r s b o c y))), .v (.bool (!(interOk r s b o c y)))] ?_
  cases h1 : interOk r s b o c y
  · skip
    refine x_b H [.k, .k, .m, .m, .k, .k, .k, .k, .m] <| x_nil <| x_then <| x_t (by kernel_rfl) <| x_seq <| x_region <| x_b H [.m, .m] ?_
    refine x_nil <| x_then <| x_retc <| x_then_ret <| x_ret (.tuple #[.int .i64 0, .int .i64 12]) (by kernel_rfl) (by kernel_rfl) ?_
    exact ⟨rfl, H.below⟩
  refine x_b H [.m, .v (.bool (decide (n < 0))), .v (.bool (decide (n < 0))), .v (.bool (decide (n < 0)))] ?_
  cases h2 : decide (n < 0)
  · skip
    have h2p := of_decide_eq_false h2
    refine x_b H [.m, .n 0 0 5 23] <| z_callB H (pages_of hL _) fun v3 H => x_b H [.v (.bool (decide ((pg : Int) ≤ n))), .v (.bool (decide ((pg : Int) ≤ n)))] <| x_nil <| x_then ?_
    cases h3 : decide ((pg : Int) ≤ n)
    · skip
      have h3p := of_decide_eq_false h3
      exfalso; omega
    have h3p := of_decide_eq_true h3
    refine x_t (by kernel_rfl) <| x_seq <| x_region <| x_b H [.m, .m] <| x_nil <| x_then <| x_retc ?_
    refine x_then_ret <| x_ret (.tuple #[.int .i64 0, .int .i64 12]) (by kernel_rfl) (by kernel_rfl) ?_
    exact ⟨rfl, H.below⟩
  have h2p := of_decide_eq_true h2
  refine x_b H [.k, .k, .k, .k, .m] <| x_nil <| x_then <| x_t (by kernel_rfl) <| x_seq <| x_region <| x_b H [.m, .m] ?_
  refine x_nil <| x_then <| x_retc <| x_then_ret <| x_ret (.tuple #[.int .i64 0, .int .i64 12]) (by kernel_rfl) (by kernel_rfl) ?_
  exact ⟨rfl, H.below⟩
set_option maxRecDepth 100000 in
set_option maxHeartbeats 4000000 in
theorem lies_out {r s b o c y z : Int} {pg sn ns : Nat} (hL : Lay r s b o c y z pg sn ns) {p gl cl gd cd gs cs : Nat} {L : List Int} {D : List Bool} {S : List Int} {pu ru : Nat} (hV : MapV r s z sn pg ns L D S pu ru) (n : Int) (hn : ¬ (0 ≤ n ∧ n < ((pg : Nat) : Int))) (w0 : World) (hR : Ro w0 [.blk p #[.int .i64 r, .int .i64 s, .int .i64 b, .int .i64 o, .int .i64 c, .int .i64 y, .int .i64 z, .slice (some ⟨gl, 0, none⟩) sn cl, .slice (some ⟨gd, 0, none⟩) pg cd, .slice (some ⟨gs, 0, none⟩) ns cs, .int .i64 ((pu : Nat) : Int), .int .i64 ((ru : Nat) : Int)] 118, .row (.slice (some ⟨gl, 0, none⟩) sn cl) 3 1 sn (List.map (Value.int .i64) L), .row (.slice (some ⟨gd, 0, none⟩) pg cd) 4 1 pg (List.map Value.bool D), .row (.slice (some ⟨gs, 0, none⟩) ns cs) 3 1 ns (List.map (Value.int .i64) S)]) :
    Calls Try.prog 80 #[.pointer (some ⟨p, 0, none⟩), .int .i64 n] w0 fun e w' => e = .returned (.tuple #[.int .i64 0, .int .i64 0, .int .i64 12]) ∧ Below w0.heap.size w0 w' := by
  refine z_enter Try.func80 rfl ?_
  have H := Hs.nil w0
  have R0 := hR
  have hok := hL.ok
  obtain ⟨-, r1, r8, s0, s8, b1, b2, o1, o2, c1, c2, y0, y4, z0, z2, hpg, hsn, hns, sn1, pg2, ln0, ln2⟩ := id hL
  refine x_seq <| x_region <| x_b H [.m, .m, .m] <| x_nil <| x_then <| x_seq <| z_region_whole H ?_
  refine q_b [.m, .m, .m, .m] <| q_loadcn (t := 23) p 0 [.int .i64 r, .int .i64 s, .int .i64 b, .int .i64 o, .int .i64 c] (fun _ H => (H.ro R0).cells 0 rfl 0 (by kernel_rfl)) (by kernel_rfl) (by kernel_rfl) (by kernel_rfl) <| q_b [.m, .m, .m, .m] <| q_loadc p 5 (.int .i64 y) (fun _ H => (H.ro R0).cell 0 rfl 5 rfl) (by kernel_rfl) (fun _ => by kernel_rfl) <| q_b [.m] <| q_callB (.tuple #[.int .i64 0, .int .i64 12]) (by kernel_rfl) (fun _ => by kernel_rfl) (fun _ => (Page_out hL n hn _)) <| q_b [.m, .m, .m, .m, .m] ?_
  refine q_nil ?_
  clear H
  intro v1 H
  refine x_then <| x_seq <| x_seq <| x_region <| x_b H [.m, .m] <| x_nil <| x_then ?_
  refine x_t (by kernel_rfl) <| x_seq <| x_region <| x_b H [.m, .m, .m, .m] <| x_nil <| x_then <| x_retc ?_
  refine x_then_ret <| x_ret (.tuple #[.int .i64 0, .int .i64 0, .int .i64 12]) (by kernel_rfl) (by kernel_rfl) ?_
  exact ⟨rfl, H.below⟩
set_option maxRecDepth 100000 in
set_option maxHeartbeats 4000000 in
theorem Lies_out {r s b o c y z : Int} {pg sn ns : Nat} (hL : Lay r s b o c y z pg sn ns) {p gl cl gd cd gs cs : Nat} {L : List Int} {D : List Bool} {S : List Int} {pu ru : Nat} (hV : MapV r s z sn pg ns L D S pu ru) (n : Int) (hn : ¬ (0 ≤ n ∧ n < ((pg : Nat) : Int))) (w0 : World) (hR : Ro w0 [.blk p #[.int .i64 r, .int .i64 s, .int .i64 b, .int .i64 o, .int .i64 c, .int .i64 y, .int .i64 z, .slice (some ⟨gl, 0, none⟩) sn cl, .slice (some ⟨gd, 0, none⟩) pg cd, .slice (some ⟨gs, 0, none⟩) ns cs, .int .i64 ((pu : Nat) : Int), .int .i64 ((ru : Nat) : Int)] 118, .row (.slice (some ⟨gl, 0, none⟩) sn cl) 3 1 sn (List.map (Value.int .i64) L), .row (.slice (some ⟨gd, 0, none⟩) pg cd) 4 1 pg (List.map Value.bool D), .row (.slice (some ⟨gs, 0, none⟩) ns cs) 3 1 ns (List.map (Value.int .i64) S)]) :
    Calls Try.prog 29 #[.pointer (some ⟨p, 0, none⟩), .int .i64 n] w0 fun e w' => e = .returned (.tuple #[.int .i64 0, .int .i64 12]) ∧ Below w0.heap.size w0 w' := by
  refine z_enter Try.func29 rfl ?_
  have H := Hs.nil w0
  have R0 := hR
  refine x_seq <| x_region <| x_b H [.m, .m] <| x_nil <| x_then <| x_seq <| x_region ?_
  refine x_b H [.m, .m] <| z_callB H (lies_out hL hV n hn _ (H.ro R0)) fun v1 H => x_b H [.m, .m, .m, .m, .m, .m, .m] <| x_nil <| x_then <| x_seq <| x_region ?_
  refine x_b H [.m, .m, .m, .m] <| x_nil <| x_then <| x_retc <| x_ret (.tuple #[.int .i64 0, .int .i64 12]) (by kernel_rfl) (by kernel_rfl) ?_
  exact ⟨rfl, H.below⟩
theorem Lies_any {r s b o c y z : Int} {pg sn ns : Nat} (hL : Lay r s b o c y z pg sn ns) {p gl cl gd cd gs cs : Nat} {L : List Int} {D : List Bool} {S : List Int} {pu ru : Nat} (hV : MapV r s z sn pg ns L D S pu ru) (a : Int) (w0 : World) (hR : Ro w0 [.blk p #[.int .i64 r, .int .i64 s, .int .i64 b, .int .i64 o, .int .i64 c, .int .i64 y, .int .i64 z, .slice (some ⟨gl, 0, none⟩) sn cl, .slice (some ⟨gd, 0, none⟩) pg cd, .slice (some ⟨gs, 0, none⟩) ns cs, .int .i64 ((pu : Nat) : Int), .int .i64 ((ru : Nat) : Int)] 118, .row (.slice (some ⟨gl, 0, none⟩) sn cl) 3 1 sn (List.map (Value.int .i64) L), .row (.slice (some ⟨gd, 0, none⟩) pg cd) 4 1 pg (List.map Value.bool D), .row (.slice (some ⟨gs, 0, none⟩) ns cs) 3 1 ns (List.map (Value.int .i64) S)]) :
    Calls Try.prog 29 #[.pointer (some ⟨p, 0, none⟩), .int .i64 a] w0 fun e w' => e = .returned (.tuple #[.int .i64 (liV y r b o pg S a), .int .i64 (rngE pg a)]) ∧ Below w0.heap.size w0 w' := by
  have hM := hV.m
  unfold liV rngE
  by_cases h : 0 ≤ a ∧ a < ((pg : Nat) : Int)
  · obtain ⟨k, rfl⟩ := Int.eq_ofNat_of_zero_le h.1
    rw [if_pos h, if_pos h]
    have hg := geom_of hL
    have hns := hL.hns
    obtain ⟨b1, b2, b3⟩ := pgAt_bd y ((k : Nat) : Int) hg
    obtain ⟨q, hq⟩ := Int.eq_ofNat_of_zero_le (show 0 ≤ pgAt y r b o ((k : Nat) : Int) / 16384 by omega)
    have hqs : q < ns := by omega
    unfold idxP
    rw [hq, Int.toNat_natCast]
    by_cases hs : S.getD q 0 = -1
    · rw [if_pos hs]; exact Lies_no hL hM k q (by omega) hq hqs hs w0 hR
    · rw [if_neg hs]
      have hv := (hV.sv q hqs).resolve_left hs
      have hru := hM.hr
      have r1 := hL.r1
      exact Lies_yes hL hM k q (by omega) hq hqs hs (by omega) w0 hR
  · rw [if_neg h, if_neg h]
    exact Lies_out hL hV a h w0 hR
theorem Index_any {r s b o c y z : Int} {pg sn ns : Nat} (hL : Lay r s b o c y z pg sn ns) {p gl cl gd cd gs cs : Nat} {L : List Int} {D : List Bool} {S : List Int} {pu ru : Nat} (hV : MapV r s z sn pg ns L D S pu ru) (a : Int) (w0 : World) (hR : Ro w0 [.blk p #[.int .i64 r, .int .i64 s, .int .i64 b, .int .i64 o, .int .i64 c, .int .i64 y, .int .i64 z, .slice (some ⟨gl, 0, none⟩) sn cl, .slice (some ⟨gd, 0, none⟩) pg cd, .slice (some ⟨gs, 0, none⟩) ns cs, .int .i64 ((pu : Nat) : Int), .int .i64 ((ru : Nat) : Int)] 118, .row (.slice (some ⟨gl, 0, none⟩) sn cl) 3 1 sn (List.map (Value.int .i64) L), .row (.slice (some ⟨gd, 0, none⟩) pg cd) 4 1 pg (List.map Value.bool D), .row (.slice (some ⟨gs, 0, none⟩) ns cs) 3 1 ns (List.map (Value.int .i64) S)]) :
    Calls Try.prog 30 #[.pointer (some ⟨p, 0, none⟩), .int .i64 a] w0 fun e w' => e = .returned (.tuple #[.int .i64 (ixI y r b o c sn L S a), .int .i64 (ixH c sn L a), .int .i64 (ixR y r b o c sn L a), .int .i64 (ixE c sn a)]) ∧ Below w0.heap.size w0 w' := by
  have hM := hV.m
  unfold ixI ixH ixR ixE
  by_cases h : 0 ≤ a ∧ a < (sn : Int) * c
  · obtain ⟨n, rfl⟩ := Int.eq_ofNat_of_zero_le h.1
    obtain ⟨C, hC⟩ := Int.eq_ofNat_of_zero_le (show 0 ≤ c by have := hL.c1; omega)
    rw [if_pos h, if_pos h, if_pos h, if_pos h]
    have hru := hM.hr
    have r1 := hL.r1
    have q := Index_at hL hM hC hV.lv (fun q hq => (hV.sv q hq).imp id (fun z => by omega)) n h.2 w0 hR
    have e1 : (((n : Nat) : Int) / c).toNat = n / C := by rw [hC]; exact_mod_cast rfl
    have e2 : ((n : Nat) : Int) % c = ((n % C : Nat) : Int) := by rw [hC]; exact_mod_cast rfl
    rw [e1, e2]; exact q
  · rw [if_neg h, if_neg h, if_neg h, if_neg h]
    exact Index_out hL hM a (by omega) w0 hR
set_option maxRecDepth 100000 in
set_option maxHeartbeats 4000000 in
theorem Retire_dh {r s b o c y z : Int} {pg sn ns : Nat} (hL : Lay r s b o c y z pg sn ns) {p gl cl gd cd gs cs : Nat} {L : List Int} {D : List Bool} {S : List Int} {pu ru : Nat} (hM : MapOk z s sn pg ns L D S pu ru) (h t : Nat) (hh : h < pg) (ht1 : sn ≤ t) (ht2 : t < sn + pu) (htp : t < pg) (dh : D.getD h false = true) (w0 : World) (H0 : Hs (fps [.blk p #[.int .i64 r, .int .i64 s, .int .i64 b, .int .i64 o, .int .i64 c, .int .i64 y, .int .i64 z, .slice (some ⟨gl, 0, none⟩) sn cl, .slice (some ⟨gd, 0, none⟩) pg cd, .slice (some ⟨gs, 0, none⟩) ns cs, .int .i64 ((pu : Nat) : Int), .int .i64 ((ru : Nat) : Int)] 118, .row (.slice (some ⟨gl, 0, none⟩) sn cl) 3 1 sn (List.map (Value.int .i64) L), .row (.slice (some ⟨gd, 0, none⟩) pg cd) 4 1 pg (List.map Value.bool D), .row (.slice (some ⟨gs, 0, none⟩) ns cs) 3 1 ns (List.map (Value.int .i64) S)]) w0 w0 [.blk p #[.int .i64 r, .int .i64 s, .int .i64 b, .int .i64 o, .int .i64 c, .int .i64 y, .int .i64 z, .slice (some ⟨gl, 0, none⟩) sn cl, .slice (some ⟨gd, 0, none⟩) pg cd, .slice (some ⟨gs, 0, none⟩) ns cs, .int .i64 ((pu : Nat) : Int), .int .i64 ((ru : Nat) : Int)] 118, .row (.slice (some ⟨gl, 0, none⟩) sn cl) 3 1 sn (List.map (Value.int .i64) L), .row (.slice (some ⟨gd, 0, none⟩) pg cd) 4 1 pg (List.map Value.bool D), .row (.slice (some ⟨gs, 0, none⟩) ns cs) 3 1 ns (List.map (Value.int .i64) S)]) :
    Calls Try.prog 68 #[.pointer (some ⟨p, 0, none⟩), .int .i64 ((h : Nat) : Int), .int .i64 ((t : Nat) : Int)] w0 fun e w' => e = .returned (.int .i64 15) ∧ Hs (fps [.blk p #[.int .i64 r, .int .i64 s, .int .i64 b, .int .i64 o, .int .i64 c, .int .i64 y, .int .i64 z, .slice (some ⟨gl, 0, none⟩) sn cl, .slice (some ⟨gd, 0, none⟩) pg cd, .slice (some ⟨gs, 0, none⟩) ns cs, .int .i64 ((pu : Nat) : Int), .int .i64 ((ru : Nat) : Int)] 118, .row (.slice (some ⟨gl, 0, none⟩) sn cl) 3 1 sn (List.map (Value.int .i64) L), .row (.slice (some ⟨gd, 0, none⟩) pg cd) 4 1 pg (List.map Value.bool D), .row (.slice (some ⟨gs, 0, none⟩) ns cs) 3 1 ns (List.map (Value.int .i64) S)]) w0 w' [.blk p #[.int .i64 r, .int .i64 s, .int .i64 b, .int .i64 o, .int .i64 c, .int .i64 y, .int .i64 z, .slice (some ⟨gl, 0, none⟩) sn cl, .slice (some ⟨gd, 0, none⟩) pg cd, .slice (some ⟨gs, 0, none⟩) ns cs, .int .i64 ((pu : Nat) : Int), .int .i64 ((ru : Nat) : Int)] 118, .row (.slice (some ⟨gl, 0, none⟩) sn cl) 3 1 sn (List.map (Value.int .i64) L), .row (.slice (some ⟨gd, 0, none⟩) pg cd) 4 1 pg (List.map Value.bool D), .row (.slice (some ⟨gs, 0, none⟩) ns cs) 3 1 ns (List.map (Value.int .i64) S)] := by
  refine z_enter Try.func68 rfl ?_
  have H := H0
  obtain ⟨eL, eD, eS, hp, hr⟩ := id hM
  have hok := hL.ok
  obtain ⟨-, r1, r8, s0, s8, b1, b2, o1, o2, c1, c2, y0, y4, z0, z2, hpg, hsn, hns, sn1, pg2, ln0, ln2⟩ := id hL
  have q1 : (decide (0 ≤ (h : Int)) && decide ((h : Int) < (pg : Int))) = true := by simp; omega
  have q2 : (decide (0 ≤ ((t : Int) - (sn : Int))) && decide (((t : Int) - (sn : Int)) < (pu : Int))) = true := by simp; omega
  refine x_seq <| x_region <| x_b H [.m] <| x_nil <| x_then <| x_seq <| x_block ?_
  refine x_seq <| z_region_whole H <| q_b [.m, .m, .m, .m, .l 0 8, .m] <| q_callB (.bool (decide (0 ≤ (h : Int)) && decide ((h : Int) < (pg : Int)))) (by kernel_rfl) (fun _ => by kernel_rfl) (fun _ => (below_any _ _ _)) <| q_b [.v (.bool (!(decide (0 ≤ (h : Int)) && decide ((h : Int) < (pg : Int))))), .v (.bool (!(decide (0 ≤ (h : Int)) && decide ((h : Int) < (pg : Int)))))] ?_
  rw [q1]
  refine q_b [.m, .m, .m, .m, .n 0 0 7 25] <| q_callB (.int .i64 (sn : Int)) (by kernel_rfl) (fun _ => by kernel_rfl) (fun _ => (seen_of hL _)) <| q_ar ((t : Int) - (sn : Int)) ⟨by omega, by omega⟩ (by kernel_rfl) (fun _ => by kernel_rfl) <| q_b [.m, .m, .m, .l 0 10] <| q_callB (.bool (decide (0 ≤ ((t : Int) - (sn : Int))) && decide (((t : Int) - (sn : Int)) < (pu : Int)))) (by kernel_rfl) (fun _ => by kernel_rfl) (fun _ => (below_any _ _ _)) <| q_b [.v (.bool (!(decide (0 ≤ ((t : Int) - (sn : Int))) && decide (((t : Int) - (sn : Int)) < (pu : Int))))), .v (.bool (!(decide (0 ≤ ((t : Int) - (sn : Int))) && decide (((t : Int) - (sn : Int)) < (pu : Int))))), .v (.bool (!(decide (0 ≤ ((t : Int) - (sn : Int))) && decide (((t : Int) - (sn : Int)) < (pu : Int)))))] <| q_nil ?_
  clear H
  intro v1 H
  refine x_then ?_
  rw [q2]
  refine x_f (by kernel_rfl) <| x_seq <| x_region <| x_b H [.m, .m, .m, .l 0 8, .m] <| x_ix (t := 116) gd 0 h pg cd 4 1 h (by omega) (by omega) (by kernel_rfl) (by kernel_rfl) (by kernel_rfl) rfl (by kernel_rfl) <| x_loadc gd h (.bool (D.getD h false)) (H.rowCell 2 rfl h (mapAt false (by omega))) (by kernel_rfl) rfl (by kernel_rfl) <| x_b H [.v (.bool (D.getD h false))] ?_
  rw [dh]
  refine x_b H [.k, .k, .k, .k, .k, .k, .k, .m, .m, .k, .k, .k, .m, .m] <| x_nil <| z_fr 82 [(0, .pointer (some ⟨p, 0, none⟩)), (1, .int .i64 (h : Int)), (2, .int .i64 (t : Int)), (33, .bool true)] [] fun uf1 => x_then <| x_t (by kernel_rfl) <| x_seq <| x_region ?_
  refine x_b H [.m] <| x_nil <| x_then <| x_retc <| x_blk_ret <| x_then_ret <| x_ret (.int .i64 15) (by kernel_rfl) (by kernel_rfl) ?_
  exact ⟨rfl, H⟩
set_option maxRecDepth 100000 in
set_option maxHeartbeats 4000000 in
theorem Retire_dt {r s b o c y z : Int} {pg sn ns : Nat} (hL : Lay r s b o c y z pg sn ns) {p gl cl gd cd gs cs : Nat} {L : List Int} {D : List Bool} {S : List Int} {pu ru : Nat} (hM : MapOk z s sn pg ns L D S pu ru) (h t : Nat) (hh : h < pg) (ht1 : sn ≤ t) (ht2 : t < sn + pu) (htp : t < pg) (dh : D.getD h false = false) (dt : D.getD t false = true) (w0 : World) (H0 : Hs (fps [.blk p #[.int .i64 r, .int .i64 s, .int .i64 b, .int .i64 o, .int .i64 c, .int .i64 y, .int .i64 z, .slice (some ⟨gl, 0, none⟩) sn cl, .slice (some ⟨gd, 0, none⟩) pg cd, .slice (some ⟨gs, 0, none⟩) ns cs, .int .i64 ((pu : Nat) : Int), .int .i64 ((ru : Nat) : Int)] 118, .row (.slice (some ⟨gl, 0, none⟩) sn cl) 3 1 sn (List.map (Value.int .i64) L), .row (.slice (some ⟨gd, 0, none⟩) pg cd) 4 1 pg (List.map Value.bool D), .row (.slice (some ⟨gs, 0, none⟩) ns cs) 3 1 ns (List.map (Value.int .i64) S)]) w0 w0 [.blk p #[.int .i64 r, .int .i64 s, .int .i64 b, .int .i64 o, .int .i64 c, .int .i64 y, .int .i64 z, .slice (some ⟨gl, 0, none⟩) sn cl, .slice (some ⟨gd, 0, none⟩) pg cd, .slice (some ⟨gs, 0, none⟩) ns cs, .int .i64 ((pu : Nat) : Int), .int .i64 ((ru : Nat) : Int)] 118, .row (.slice (some ⟨gl, 0, none⟩) sn cl) 3 1 sn (List.map (Value.int .i64) L), .row (.slice (some ⟨gd, 0, none⟩) pg cd) 4 1 pg (List.map Value.bool D), .row (.slice (some ⟨gs, 0, none⟩) ns cs) 3 1 ns (List.map (Value.int .i64) S)]) :
    Calls Try.prog 68 #[.pointer (some ⟨p, 0, none⟩), .int .i64 ((h : Nat) : Int), .int .i64 ((t : Nat) : Int)] w0 fun e w' => e = .returned (.int .i64 15) ∧ Hs (fps [.blk p #[.int .i64 r, .int .i64 s, .int .i64 b, .int .i64 o, .int .i64 c, .int .i64 y, .int .i64 z, .slice (some ⟨gl, 0, none⟩) sn cl, .slice (some ⟨gd, 0, none⟩) pg cd, .slice (some ⟨gs, 0, none⟩) ns cs, .int .i64 ((pu : Nat) : Int), .int .i64 ((ru : Nat) : Int)] 118, .row (.slice (some ⟨gl, 0, none⟩) sn cl) 3 1 sn (List.map (Value.int .i64) L), .row (.slice (some ⟨gd, 0, none⟩) pg cd) 4 1 pg (List.map Value.bool D), .row (.slice (some ⟨gs, 0, none⟩) ns cs) 3 1 ns (List.map (Value.int .i64) S)]) w0 w' [.blk p #[.int .i64 r, .int .i64 s, .int .i64 b, .int .i64 o, .int .i64 c, .int .i64 y, .int .i64 z, .slice (some ⟨gl, 0, none⟩) sn cl, .slice (some ⟨gd, 0, none⟩) pg cd, .slice (some ⟨gs, 0, none⟩) ns cs, .int .i64 ((pu : Nat) : Int), .int .i64 ((ru : Nat) : Int)] 118, .row (.slice (some ⟨gl, 0, none⟩) sn cl) 3 1 sn (List.map (Value.int .i64) L), .row (.slice (some ⟨gd, 0, none⟩) pg cd) 4 1 pg (List.map Value.bool D), .row (.slice (some ⟨gs, 0, none⟩) ns cs) 3 1 ns (List.map (Value.int .i64) S)] := by
  refine z_enter Try.func68 rfl ?_
  have H := H0
  obtain ⟨eL, eD, eS, hp, hr⟩ := id hM
  have hok := hL.ok
  obtain ⟨-, r1, r8, s0, s8, b1, b2, o1, o2, c1, c2, y0, y4, z0, z2, hpg, hsn, hns, sn1, pg2, ln0, ln2⟩ := id hL
  have q1 : (decide (0 ≤ (h : Int)) && decide ((h : Int) < (pg : Int))) = true := by simp; omega
  have q2 : (decide (0 ≤ ((t : Int) - (sn : Int))) && decide (((t : Int) - (sn : Int)) < (pu : Int))) = true := by simp; omega
  refine x_seq <| x_region <| x_b H [.m] <| x_nil <| x_then <| x_seq <| x_block ?_
  refine x_seq <| z_region_whole H <| q_b [.m, .m, .m, .m, .l 0 8, .m] <| q_callB (.bool (decide (0 ≤ (h : Int)) && decide ((h : Int) < (pg : Int)))) (by kernel_rfl) (fun _ => by kernel_rfl) (fun _ => (below_any _ _ _)) <| q_b [.v (.bool (!(decide (0 ≤ (h : Int)) && decide ((h : Int) < (pg : Int))))), .v (.bool (!(decide (0 ≤ (h : Int)) && decide ((h : Int) < (pg : Int)))))] ?_
  rw [q1]
  refine q_b [.m, .m, .m, .m, .n 0 0 7 25] <| q_callB (.int .i64 (sn : Int)) (by kernel_rfl) (fun _ => by kernel_rfl) (fun _ => (seen_of hL _)) <| q_ar ((t : Int) - (sn : Int)) ⟨by omega, by omega⟩ (by kernel_rfl) (fun _ => by kernel_rfl) <| q_b [.m, .m, .m, .l 0 10] <| q_callB (.bool (decide (0 ≤ ((t : Int) - (sn : Int))) && decide (((t : Int) - (sn : Int)) < (pu : Int)))) (by kernel_rfl) (fun _ => by kernel_rfl) (fun _ => (below_any _ _ _)) <| q_b [.v (.bool (!(decide (0 ≤ ((t : Int) - (sn : Int))) && decide (((t : Int) - (sn : Int)) < (pu : Int))))), .v (.bool (!(decide (0 ≤ ((t : Int) - (sn : Int))) && decide (((t : Int) - (sn : Int)) < (pu : Int))))), .v (.bool (!(decide (0 ≤ ((t : Int) - (sn : Int))) && decide (((t : Int) - (sn : Int)) < (pu : Int)))))] <| q_nil ?_
  clear H
  intro v1 H
  refine x_then ?_
  rw [q2]
  refine x_f (by kernel_rfl) <| x_seq <| x_region <| x_b H [.m, .m, .m, .l 0 8, .m] <| x_ix (t := 116) gd 0 h pg cd 4 1 h (by omega) (by omega) (by kernel_rfl) (by kernel_rfl) (by kernel_rfl) rfl (by kernel_rfl) <| x_loadc gd h (.bool (D.getD h false)) (H.rowCell 2 rfl h (mapAt false (by omega))) (by kernel_rfl) rfl (by kernel_rfl) <| x_b H [.v (.bool (D.getD h false))] ?_
  rw [dh]
  refine x_b H [.m, .m, .m, .l 0 8, .m] <| x_ix (t := 116) gd 0 t pg cd 4 1 t (by omega) (by omega) (by kernel_rfl) (by kernel_rfl) (by kernel_rfl) rfl (by kernel_rfl) <| x_loadc gd t (.bool (D.getD t false)) (H.rowCell 2 rfl t (mapAt false (by omega))) (by kernel_rfl) rfl (by kernel_rfl) <| x_b H [.v (.bool (D.getD t false)), .v (.bool (D.getD t false))] ?_
  rw [dt]
  refine x_b H [.k, .k, .k, .m, .m] <| x_nil <| z_fr 82 [(0, .pointer (some ⟨p, 0, none⟩)), (1, .int .i64 (h : Int)), (2, .int .i64 (t : Int)), (33, .bool true)] [] fun uf1 => x_then <| x_t (by kernel_rfl) <| x_seq <| x_region ?_
  refine x_b H [.m] <| x_nil <| x_then <| x_retc <| x_blk_ret <| x_then_ret <| x_ret (.int .i64 15) (by kernel_rfl) (by kernel_rfl) ?_
  exact ⟨rfl, H⟩
set_option maxRecDepth 100000 in
set_option maxHeartbeats 4000000 in
theorem Retire_eq {r s b o c y z : Int} {pg sn ns : Nat} (hL : Lay r s b o c y z pg sn ns) {p gl cl gd cd gs cs : Nat} {L : List Int} {D : List Bool} {S : List Int} {pu ru : Nat} (hM : MapOk z s sn pg ns L D S pu ru) (h t : Nat) (hh : h < pg) (ht1 : sn ≤ t) (ht2 : t < sn + pu) (htp : t < pg) (dh : D.getD h false = false) (dt : D.getD t false = false) (he : h = t) (w0 : World) (H0 : Hs (fps [.blk p #[.int .i64 r, .int .i64 s, .int .i64 b, .int .i64 o, .int .i64 c, .int .i64 y, .int .i64 z, .slice (some ⟨gl, 0, none⟩) sn cl, .slice (some ⟨gd, 0, none⟩) pg cd, .slice (some ⟨gs, 0, none⟩) ns cs, .int .i64 ((pu : Nat) : Int), .int .i64 ((ru : Nat) : Int)] 118, .row (.slice (some ⟨gl, 0, none⟩) sn cl) 3 1 sn (List.map (Value.int .i64) L), .row (.slice (some ⟨gd, 0, none⟩) pg cd) 4 1 pg (List.map Value.bool D), .row (.slice (some ⟨gs, 0, none⟩) ns cs) 3 1 ns (List.map (Value.int .i64) S)]) w0 w0 [.blk p #[.int .i64 r, .int .i64 s, .int .i64 b, .int .i64 o, .int .i64 c, .int .i64 y, .int .i64 z, .slice (some ⟨gl, 0, none⟩) sn cl, .slice (some ⟨gd, 0, none⟩) pg cd, .slice (some ⟨gs, 0, none⟩) ns cs, .int .i64 ((pu : Nat) : Int), .int .i64 ((ru : Nat) : Int)] 118, .row (.slice (some ⟨gl, 0, none⟩) sn cl) 3 1 sn (List.map (Value.int .i64) L), .row (.slice (some ⟨gd, 0, none⟩) pg cd) 4 1 pg (List.map Value.bool D), .row (.slice (some ⟨gs, 0, none⟩) ns cs) 3 1 ns (List.map (Value.int .i64) S)]) :
    Calls Try.prog 68 #[.pointer (some ⟨p, 0, none⟩), .int .i64 ((h : Nat) : Int), .int .i64 ((t : Nat) : Int)] w0 fun e w' => e = .returned (.int .i64 15) ∧ Hs (fps [.blk p #[.int .i64 r, .int .i64 s, .int .i64 b, .int .i64 o, .int .i64 c, .int .i64 y, .int .i64 z, .slice (some ⟨gl, 0, none⟩) sn cl, .slice (some ⟨gd, 0, none⟩) pg cd, .slice (some ⟨gs, 0, none⟩) ns cs, .int .i64 ((pu : Nat) : Int), .int .i64 ((ru : Nat) : Int)] 118, .row (.slice (some ⟨gl, 0, none⟩) sn cl) 3 1 sn (List.map (Value.int .i64) L), .row (.slice (some ⟨gd, 0, none⟩) pg cd) 4 1 pg (List.map Value.bool D), .row (.slice (some ⟨gs, 0, none⟩) ns cs) 3 1 ns (List.map (Value.int .i64) S)]) w0 w' [.blk p #[.int .i64 r, .int .i64 s, .int .i64 b, .int .i64 o, .int .i64 c, .int .i64 y, .int .i64 z, .slice (some ⟨gl, 0, none⟩) sn cl, .slice (some ⟨gd, 0, none⟩) pg cd, .slice (some ⟨gs, 0, none⟩) ns cs, .int .i64 ((pu : Nat) : Int), .int .i64 ((ru : Nat) : Int)] 118, .row (.slice (some ⟨gl, 0, none⟩) sn cl) 3 1 sn (List.map (Value.int .i64) L), .row (.slice (some ⟨gd, 0, none⟩) pg cd) 4 1 pg (List.map Value.bool D), .row (.slice (some ⟨gs, 0, none⟩) ns cs) 3 1 ns (List.map (Value.int .i64) S)] := by
  refine z_enter Try.func68 rfl ?_
  have H := H0
  obtain ⟨eL, eD, eS, hp, hr⟩ := id hM
  have hok := hL.ok
  obtain ⟨-, r1, r8, s0, s8, b1, b2, o1, o2, c1, c2, y0, y4, z0, z2, hpg, hsn, hns, sn1, pg2, ln0, ln2⟩ := id hL
  have q1 : (decide (0 ≤ (h : Int)) && decide ((h : Int) < (pg : Int))) = true := by simp; omega
  have q2 : (decide (0 ≤ ((t : Int) - (sn : Int))) && decide (((t : Int) - (sn : Int)) < (pu : Int))) = true := by simp; omega
  have q3 : (decide ((h : Int) = (t : Int))) = true := by simp; omega
  refine x_seq <| x_region <| x_b H [.m] <| x_nil <| x_then <| x_seq <| x_block ?_
  refine x_seq <| z_region_whole H <| q_b [.m, .m, .m, .m, .l 0 8, .m] <| q_callB (.bool (decide (0 ≤ (h : Int)) && decide ((h : Int) < (pg : Int)))) (by kernel_rfl) (fun _ => by kernel_rfl) (fun _ => (below_any _ _ _)) <| q_b [.v (.bool (!(decide (0 ≤ (h : Int)) && decide ((h : Int) < (pg : Int))))), .v (.bool (!(decide (0 ≤ (h : Int)) && decide ((h : Int) < (pg : Int)))))] ?_
  rw [q1]
  refine q_b [.m, .m, .m, .m, .n 0 0 7 25] <| q_callB (.int .i64 (sn : Int)) (by kernel_rfl) (fun _ => by kernel_rfl) (fun _ => (seen_of hL _)) <| q_ar ((t : Int) - (sn : Int)) ⟨by omega, by omega⟩ (by kernel_rfl) (fun _ => by kernel_rfl) <| q_b [.m, .m, .m, .l 0 10] <| q_callB (.bool (decide (0 ≤ ((t : Int) - (sn : Int))) && decide (((t : Int) - (sn : Int)) < (pu : Int)))) (by kernel_rfl) (fun _ => by kernel_rfl) (fun _ => (below_any _ _ _)) <| q_b [.v (.bool (!(decide (0 ≤ ((t : Int) - (sn : Int))) && decide (((t : Int) - (sn : Int)) < (pu : Int))))), .v (.bool (!(decide (0 ≤ ((t : Int) - (sn : Int))) && decide (((t : Int) - (sn : Int)) < (pu : Int))))), .v (.bool (!(decide (0 ≤ ((t : Int) - (sn : Int))) && decide (((t : Int) - (sn : Int)) < (pu : Int)))))] <| q_nil ?_
  clear H
  intro v1 H
  refine x_then ?_
  rw [q2]
  refine x_f (by kernel_rfl) <| x_seq <| x_region <| x_b H [.m, .m, .m, .l 0 8, .m] <| x_ix (t := 116) gd 0 h pg cd 4 1 h (by omega) (by omega) (by kernel_rfl) (by kernel_rfl) (by kernel_rfl) rfl (by kernel_rfl) <| x_loadc gd h (.bool (D.getD h false)) (H.rowCell 2 rfl h (mapAt false (by omega))) (by kernel_rfl) rfl (by kernel_rfl) <| x_b H [.v (.bool (D.getD h false))] ?_
  rw [dh]
  refine x_b H [.m, .m, .m, .l 0 8, .m] <| x_ix (t := 116) gd 0 t pg cd 4 1 t (by omega) (by omega) (by kernel_rfl) (by kernel_rfl) (by kernel_rfl) rfl (by kernel_rfl) <| x_loadc gd t (.bool (D.getD t false)) (H.rowCell 2 rfl t (mapAt false (by omega))) (by kernel_rfl) rfl (by kernel_rfl) <| x_b H [.v (.bool (D.getD t false)), .v (.bool (D.getD t false))] ?_
  rw [dt]
  refine x_b H [.m, .m, .v (.bool (decide ((h : Int) = (t : Int)))), .v (.bool (decide ((h : Int) = (t : Int)))), .v (.bool (decide ((h : Int) = (t : Int))))] <| x_nil <| z_fr 82 [(0, .pointer (some ⟨p, 0, none⟩)), (1, .int .i64 (h : Int)), (2, .int .i64 (t : Int)), (33, .bool (decide ((h : Int) = (t : Int))))] [] fun uf1 => x_then ?_
  rw [q3]
  refine x_t (by kernel_rfl) <| x_seq <| x_region <| x_b H [.m] <| x_nil <| x_then <| x_retc ?_
  refine x_blk_ret <| x_then_ret <| x_ret (.int .i64 15) (by kernel_rfl) (by kernel_rfl) ?_
  exact ⟨rfl, H⟩
set_option maxRecDepth 100000 in
set_option maxHeartbeats 4000000 in
theorem Retire_oh {r s b o c y z : Int} {pg sn ns : Nat} (hL : Lay r s b o c y z pg sn ns) {p gl cl gd cd gs cs : Nat} {L : List Int} {D : List Bool} {S : List Int} {pu ru : Nat} (hM : MapOk z s sn pg ns L D S pu ru) (h t : Int) (ho : ¬ (0 ≤ h ∧ h < (pg : Int))) (w0 : World) (H0 : Hs (fps [.blk p #[.int .i64 r, .int .i64 s, .int .i64 b, .int .i64 o, .int .i64 c, .int .i64 y, .int .i64 z, .slice (some ⟨gl, 0, none⟩) sn cl, .slice (some ⟨gd, 0, none⟩) pg cd, .slice (some ⟨gs, 0, none⟩) ns cs, .int .i64 ((pu : Nat) : Int), .int .i64 ((ru : Nat) : Int)] 118, .row (.slice (some ⟨gl, 0, none⟩) sn cl) 3 1 sn (List.map (Value.int .i64) L), .row (.slice (some ⟨gd, 0, none⟩) pg cd) 4 1 pg (List.map Value.bool D), .row (.slice (some ⟨gs, 0, none⟩) ns cs) 3 1 ns (List.map (Value.int .i64) S)]) w0 w0 [.blk p #[.int .i64 r, .int .i64 s, .int .i64 b, .int .i64 o, .int .i64 c, .int .i64 y, .int .i64 z, .slice (some ⟨gl, 0, none⟩) sn cl, .slice (some ⟨gd, 0, none⟩) pg cd, .slice (some ⟨gs, 0, none⟩) ns cs, .int .i64 ((pu : Nat) : Int), .int .i64 ((ru : Nat) : Int)] 118, .row (.slice (some ⟨gl, 0, none⟩) sn cl) 3 1 sn (List.map (Value.int .i64) L), .row (.slice (some ⟨gd, 0, none⟩) pg cd) 4 1 pg (List.map Value.bool D), .row (.slice (some ⟨gs, 0, none⟩) ns cs) 3 1 ns (List.map (Value.int .i64) S)]) :
    Calls Try.prog 68 #[.pointer (some ⟨p, 0, none⟩), .int .i64 h, .int .i64 t] w0 fun e w' => e = .returned (.int .i64 12) ∧ Hs (fps [.blk p #[.int .i64 r, .int .i64 s, .int .i64 b, .int .i64 o, .int .i64 c, .int .i64 y, .int .i64 z, .slice (some ⟨gl, 0, none⟩) sn cl, .slice (some ⟨gd, 0, none⟩) pg cd, .slice (some ⟨gs, 0, none⟩) ns cs, .int .i64 ((pu : Nat) : Int), .int .i64 ((ru : Nat) : Int)] 118, .row (.slice (some ⟨gl, 0, none⟩) sn cl) 3 1 sn (List.map (Value.int .i64) L), .row (.slice (some ⟨gd, 0, none⟩) pg cd) 4 1 pg (List.map Value.bool D), .row (.slice (some ⟨gs, 0, none⟩) ns cs) 3 1 ns (List.map (Value.int .i64) S)]) w0 w' [.blk p #[.int .i64 r, .int .i64 s, .int .i64 b, .int .i64 o, .int .i64 c, .int .i64 y, .int .i64 z, .slice (some ⟨gl, 0, none⟩) sn cl, .slice (some ⟨gd, 0, none⟩) pg cd, .slice (some ⟨gs, 0, none⟩) ns cs, .int .i64 ((pu : Nat) : Int), .int .i64 ((ru : Nat) : Int)] 118, .row (.slice (some ⟨gl, 0, none⟩) sn cl) 3 1 sn (List.map (Value.int .i64) L), .row (.slice (some ⟨gd, 0, none⟩) pg cd) 4 1 pg (List.map Value.bool D), .row (.slice (some ⟨gs, 0, none⟩) ns cs) 3 1 ns (List.map (Value.int .i64) S)] := by
  refine z_enter Try.func68 rfl ?_
  have H := H0
  obtain ⟨eL, eD, eS, hp, hr⟩ := id hM
  have hok := hL.ok
  obtain ⟨-, r1, r8, s0, s8, b1, b2, o1, o2, c1, c2, y0, y4, z0, z2, hpg, hsn, hns, sn1, pg2, ln0, ln2⟩ := id hL
  have q1 : (decide (0 ≤ h) && decide (h < (pg : Int))) = false := by simp; omega
  refine x_seq <| x_region <| x_b H [.m] <| x_nil <| x_then <| x_seq <| x_block ?_
  refine x_seq <| z_region_whole H <| q_b [.m, .m, .m, .m, .l 0 8, .m] <| q_callB (.bool (decide (0 ≤ h) && decide (h < (pg : Int)))) (by kernel_rfl) (fun _ => by kernel_rfl) (fun _ => (below_any _ _ _)) <| q_b [.v (.bool (!(decide (0 ≤ h) && decide (h < (pg : Int))))), .v (.bool (!(decide (0 ≤ h) && decide (h < (pg : Int)))))] ?_
  rw [q1]
  refine q_b [.k, .k, .k, .k, .k, .k, .k, .k, .k, .k, .k, .k, .k, .m, .m] <| q_nil ?_
  clear H
  intro v1 H
  refine x_then <| x_t (by kernel_rfl) <| x_seq <| x_region <| x_b H [.m] <| x_nil <| x_then ?_
  refine x_retc <| x_blk_ret <| x_then_ret <| x_ret (.int .i64 12) (by kernel_rfl) (by kernel_rfl) ?_
  exact ⟨rfl, H⟩
theorem wrap_range {t : Int} {a n : Int} (ht : -9223372036854775808 ≤ t ∧ t ≤ 9223372036854775807) (ha : 0 ≤ a ∧ a ≤ 1000000) (hn : 0 ≤ n ∧ n ≤ 1000000) : (0 ≤ IntKind.i64.wrap (t - a) ∧ IntKind.i64.wrap (t - a) < n) ↔ (a ≤ t ∧ t < a + n) := by
  rw [IntKind.wrap_i64]; omega
set_option maxRecDepth 100000 in
set_option maxHeartbeats 4000000 in
theorem Retire_ot {r s b o c y z : Int} {pg sn ns : Nat} (hL : Lay r s b o c y z pg sn ns) {p gl cl gd cd gs cs : Nat} {L : List Int} {D : List Bool} {S : List Int} {pu ru : Nat} (hM : MapOk z s sn pg ns L D S pu ru) (h : Nat) (hh : h < pg) (t : Int) (ht : -9223372036854775808 ≤ t ∧ t ≤ 9223372036854775807) (ho : ¬ ((sn : Int) ≤ t ∧ t < (sn : Int) + pu)) (w0 : World) (H0 : Hs (fps [.blk p #[.int .i64 r, .int .i64 s, .int .i64 b, .int .i64 o, .int .i64 c, .int .i64 y, .int .i64 z, .slice (some ⟨gl, 0, none⟩) sn cl, .slice (some ⟨gd, 0, none⟩) pg cd, .slice (some ⟨gs, 0, none⟩) ns cs, .int .i64 ((pu : Nat) : Int), .int .i64 ((ru : Nat) : Int)] 118, .row (.slice (some ⟨gl, 0, none⟩) sn cl) 3 1 sn (List.map (Value.int .i64) L), .row (.slice (some ⟨gd, 0, none⟩) pg cd) 4 1 pg (List.map Value.bool D), .row (.slice (some ⟨gs, 0, none⟩) ns cs) 3 1 ns (List.map (Value.int .i64) S)]) w0 w0 [.blk p #[.int .i64 r, .int .i64 s, .int .i64 b, .int .i64 o, .int .i64 c, .int .i64 y, .int .i64 z, .slice (some ⟨gl, 0, none⟩) sn cl, .slice (some ⟨gd, 0, none⟩) pg cd, .slice (some ⟨gs, 0, none⟩) ns cs, .int .i64 ((pu : Nat) : Int), .int .i64 ((ru : Nat) : Int)] 118, .row (.slice (some ⟨gl, 0, none⟩) sn cl) 3 1 sn (List.map (Value.int .i64) L), .row (.slice (some ⟨gd, 0, none⟩) pg cd) 4 1 pg (List.map Value.bool D), .row (.slice (some ⟨gs, 0, none⟩) ns cs) 3 1 ns (List.map (Value.int .i64) S)]) :
    Calls Try.prog 68 #[.pointer (some ⟨p, 0, none⟩), .int .i64 ((h : Nat) : Int), .int .i64 t] w0 fun e w' => e = .returned (.int .i64 12) ∧ Hs (fps [.blk p #[.int .i64 r, .int .i64 s, .int .i64 b, .int .i64 o, .int .i64 c, .int .i64 y, .int .i64 z, .slice (some ⟨gl, 0, none⟩) sn cl, .slice (some ⟨gd, 0, none⟩) pg cd, .slice (some ⟨gs, 0, none⟩) ns cs, .int .i64 ((pu : Nat) : Int), .int .i64 ((ru : Nat) : Int)] 118, .row (.slice (some ⟨gl, 0, none⟩) sn cl) 3 1 sn (List.map (Value.int .i64) L), .row (.slice (some ⟨gd, 0, none⟩) pg cd) 4 1 pg (List.map Value.bool D), .row (.slice (some ⟨gs, 0, none⟩) ns cs) 3 1 ns (List.map (Value.int .i64) S)]) w0 w' [.blk p #[.int .i64 r, .int .i64 s, .int .i64 b, .int .i64 o, .int .i64 c, .int .i64 y, .int .i64 z, .slice (some ⟨gl, 0, none⟩) sn cl, .slice (some ⟨gd, 0, none⟩) pg cd, .slice (some ⟨gs, 0, none⟩) ns cs, .int .i64 ((pu : Nat) : Int), .int .i64 ((ru : Nat) : Int)] 118, .row (.slice (some ⟨gl, 0, none⟩) sn cl) 3 1 sn (List.map (Value.int .i64) L), .row (.slice (some ⟨gd, 0, none⟩) pg cd) 4 1 pg (List.map Value.bool D), .row (.slice (some ⟨gs, 0, none⟩) ns cs) 3 1 ns (List.map (Value.int .i64) S)] := by
  refine z_enter Try.func68 rfl ?_
  have H := H0
  obtain ⟨eL, eD, eS, hp, hr⟩ := id hM
  have hok := hL.ok
  obtain ⟨-, r1, r8, s0, s8, b1, b2, o1, o2, c1, c2, y0, y4, z0, z2, hpg, hsn, hns, sn1, pg2, ln0, ln2⟩ := id hL
  have q1 : (decide (0 ≤ (h : Int)) && decide ((h : Int) < (pg : Int))) = true := by simp; omega
  have q2 : (decide (0 ≤ (IntKind.i64.wrap (t - (sn : Int)))) && decide ((IntKind.i64.wrap (t - (sn : Int))) < (pu : Int))) = false := by rw [← Bool.decide_and]; exact decide_eq_false (fun z => ho ((wrap_range ht (by omega) (by omega)).1 z))
  refine x_seq <| x_region <| x_b H [.m] <| x_nil <| x_then <| x_seq <| x_block ?_
  refine x_seq <| z_region_whole H <| q_b [.m, .m, .m, .m, .l 0 8, .m] <| q_callB (.bool (decide (0 ≤ (h : Int)) && decide ((h : Int) < (pg : Int)))) (by kernel_rfl) (fun _ => by kernel_rfl) (fun _ => (below_any _ _ _)) <| q_b [.v (.bool (!(decide (0 ≤ (h : Int)) && decide ((h : Int) < (pg : Int))))), .v (.bool (!(decide (0 ≤ (h : Int)) && decide ((h : Int) < (pg : Int)))))] ?_
  rw [q1]
  refine q_b [.m, .m, .m, .m, .n 0 0 7 25] <| q_callB (.int .i64 (sn : Int)) (by kernel_rfl) (fun _ => by kernel_rfl) (fun _ => (seen_of hL _)) <| q_val (.int .i64 (IntKind.i64.wrap (t - (sn : Int)))) (by kernel_rfl) (fun _ => by kernel_rfl) <| q_b [.m, .m, .m, .l 0 10] <| q_callB (.bool (decide (0 ≤ (IntKind.i64.wrap (t - (sn : Int)))) && decide ((IntKind.i64.wrap (t - (sn : Int))) < (pu : Int)))) (by kernel_rfl) (fun _ => by kernel_rfl) (fun _ => (below_any _ _ _)) <| q_b [.v (.bool (!(decide (0 ≤ (IntKind.i64.wrap (t - (sn : Int)))) && decide ((IntKind.i64.wrap (t - (sn : Int))) < (pu : Int))))), .v (.bool (!(decide (0 ≤ (IntKind.i64.wrap (t - (sn : Int)))) && decide ((IntKind.i64.wrap (t - (sn : Int))) < (pu : Int))))), .v (.bool (!(decide (0 ≤ (IntKind.i64.wrap (t - (sn : Int)))) && decide ((IntKind.i64.wrap (t - (sn : Int))) < (pu : Int)))))] <| q_nil ?_
  clear H
  intro v1 H
  refine x_then ?_
  rw [q2]
  refine x_t (by kernel_rfl) <| x_seq <| x_region <| x_b H [.m] <| x_nil <| x_then <| x_retc ?_
  refine x_blk_ret <| x_then_ret <| x_ret (.int .i64 12) (by kernel_rfl) (by kernel_rfl) ?_
  exact ⟨rfl, H⟩
theorem Retire_any {r s b o c y z : Int} {pg sn ns : Nat} (hL : Lay r s b o c y z pg sn ns) {p gl cl gd cd gs cs : Nat} {L : List Int} {D : List Bool} {S : List Int} {pu ru : Nat} (hV : MapV r s z sn pg ns L D S pu ru) (h t : Int) (ht : -9223372036854775808 ≤ t ∧ t ≤ 9223372036854775807) (w0 : World) (H0 : Hs (fps [.blk p #[.int .i64 r, .int .i64 s, .int .i64 b, .int .i64 o, .int .i64 c, .int .i64 y, .int .i64 z, .slice (some ⟨gl, 0, none⟩) sn cl, .slice (some ⟨gd, 0, none⟩) pg cd, .slice (some ⟨gs, 0, none⟩) ns cs, .int .i64 ((pu : Nat) : Int), .int .i64 ((ru : Nat) : Int)] 118, .row (.slice (some ⟨gl, 0, none⟩) sn cl) 3 1 sn (List.map (Value.int .i64) L), .row (.slice (some ⟨gd, 0, none⟩) pg cd) 4 1 pg (List.map Value.bool D), .row (.slice (some ⟨gs, 0, none⟩) ns cs) 3 1 ns (List.map (Value.int .i64) S)]) w0 w0 [.blk p #[.int .i64 r, .int .i64 s, .int .i64 b, .int .i64 o, .int .i64 c, .int .i64 y, .int .i64 z, .slice (some ⟨gl, 0, none⟩) sn cl, .slice (some ⟨gd, 0, none⟩) pg cd, .slice (some ⟨gs, 0, none⟩) ns cs, .int .i64 ((pu : Nat) : Int), .int .i64 ((ru : Nat) : Int)] 118, .row (.slice (some ⟨gl, 0, none⟩) sn cl) 3 1 sn (List.map (Value.int .i64) L), .row (.slice (some ⟨gd, 0, none⟩) pg cd) 4 1 pg (List.map Value.bool D), .row (.slice (some ⟨gs, 0, none⟩) ns cs) 3 1 ns (List.map (Value.int .i64) S)]) :
    Calls Try.prog 68 #[.pointer (some ⟨p, 0, none⟩), .int .i64 h, .int .i64 t] w0 fun e w' => e = .returned (.int .i64 (reE sn pg pu D h t)) ∧ Hs (fps [.blk p #[.int .i64 r, .int .i64 s, .int .i64 b, .int .i64 o, .int .i64 c, .int .i64 y, .int .i64 z, .slice (some ⟨gl, 0, none⟩) sn cl, .slice (some ⟨gd, 0, none⟩) pg cd, .slice (some ⟨gs, 0, none⟩) ns cs, .int .i64 ((pu : Nat) : Int), .int .i64 ((ru : Nat) : Int)] 118, .row (.slice (some ⟨gl, 0, none⟩) sn cl) 3 1 sn (List.map (Value.int .i64) L), .row (.slice (some ⟨gd, 0, none⟩) pg cd) 4 1 pg (List.map Value.bool D), .row (.slice (some ⟨gs, 0, none⟩) ns cs) 3 1 ns (List.map (Value.int .i64) S)]) w0 w' [.blk p #[.int .i64 r, .int .i64 s, .int .i64 b, .int .i64 o, .int .i64 c, .int .i64 y, .int .i64 z, .slice (some ⟨gl, 0, none⟩) sn cl, .slice (some ⟨gd, 0, none⟩) pg cd, .slice (some ⟨gs, 0, none⟩) ns cs, .int .i64 ((pu : Nat) : Int), .int .i64 ((ru : Nat) : Int)] 118, .row (.slice (some ⟨gl, 0, none⟩) sn cl) 3 1 sn (List.map (Value.int .i64) (reL sn pg pu D h t L)), .row (.slice (some ⟨gd, 0, none⟩) pg cd) 4 1 pg (List.map Value.bool (reD sn pg pu D h t)), .row (.slice (some ⟨gs, 0, none⟩) ns cs) 3 1 ns (List.map (Value.int .i64) S)] := by
  have hM := hV.m
  have hsn := hL.hsn
  have hp := hM.hp
  unfold reL reD reE
  by_cases c1 : 0 ≤ h ∧ h < (pg : Int)
  · obtain ⟨h, rfl⟩ := Int.eq_ofNat_of_zero_le c1.1
    by_cases c2 : (sn : Int) ≤ t ∧ t < (sn : Int) + pu
    · obtain ⟨t, rfl⟩ := Int.eq_ofNat_of_zero_le (show 0 ≤ t by omega)
      have e0 : ¬ (¬ (0 ≤ ((h : Nat) : Int) ∧ ((h : Nat) : Int) < (pg : Int)) ∨ ¬ ((sn : Int) ≤ ((t : Nat) : Int) ∧ ((t : Nat) : Int) < (sn : Int) + pu)) := by omega
      cases dh : D.getD h false with
      | true =>
        have e1 : D.getD ((h : Nat) : Int).toNat false = true ∨ D.getD ((t : Nat) : Int).toNat false = true ∨ ((h : Nat) : Int) = ((t : Nat) : Int) := .inl dh
        simp only [if_neg e0, if_pos e1, show ¬ (15 : Int) = 0 by omega, if_false]
        exact Retire_dh hL hM h t (by omega) (by omega) (by omega) (by omega) dh w0 H0
      | false =>
        cases dt : D.getD t false with
        | true =>
          have e1 : D.getD ((h : Nat) : Int).toNat false = true ∨ D.getD ((t : Nat) : Int).toNat false = true ∨ ((h : Nat) : Int) = ((t : Nat) : Int) := .inr (.inl dt)
          simp only [if_neg e0, if_pos e1, show ¬ (15 : Int) = 0 by omega, if_false]
          exact Retire_dt hL hM h t (by omega) (by omega) (by omega) (by omega) dh dt w0 H0
        | false =>
          by_cases he : h = t
          · have e1 : D.getD ((h : Nat) : Int).toNat false = true ∨ D.getD ((t : Nat) : Int).toNat false = true ∨ ((h : Nat) : Int) = ((t : Nat) : Int) := .inr (.inr (by omega))
            simp only [if_neg e0, if_pos e1, show ¬ (15 : Int) = 0 by omega, if_false]
            exact Retire_eq hL hM h t (by omega) (by omega) (by omega) (by omega) dh dt he w0 H0
          · have e1 : ¬ (D.getD ((h : Nat) : Int).toNat false = true ∨ D.getD ((t : Nat) : Int).toNat false = true ∨ ((h : Nat) : Int) = ((t : Nat) : Int)) := by
              rintro (z | z | z)
              · rw [Int.toNat_natCast, dh] at z; cases z
              · rw [Int.toNat_natCast, dt] at z; cases z
              · omega
            simp only [if_neg e0, if_neg e1, if_true]
            exact Retire_ok hL hM h t (by omega) (by omega) (by omega) (by omega) dh dt he w0 H0
    · have e0 : ¬ (0 ≤ ((h : Nat) : Int) ∧ ((h : Nat) : Int) < (pg : Int)) ∨ ¬ ((sn : Int) ≤ t ∧ t < (sn : Int) + pu) := .inr c2
      simp only [if_pos e0, show ¬ (12 : Int) = 0 by omega, if_false]
      exact Retire_ot hL hM h (by omega) t ht c2 w0 H0
  · have e0 : ¬ (0 ≤ h ∧ h < (pg : Int)) ∨ ¬ ((sn : Int) ≤ t ∧ t < (sn : Int) + pu) := .inl c1
    simp only [if_pos e0, show ¬ (12 : Int) = 0 by omega, if_false]
    exact Retire_oh hL hM h t c1 w0 H0
set_option maxRecDepth 100000 in
set_option maxHeartbeats 4000000 in
theorem Replace_ov {r s b o c y z : Int} {pg sn ns : Nat} (hL : Lay r s b o c y z pg sn ns) {p gl cl gd cd gs cs : Nat} {L : List Int} {D : List Bool} {S : List Int} {pu ru : Nat} (hM : MapOk z s sn pg ns L D S pu ru) (q : Nat) (hq : q < ns) (v : Int) (ht : -9223372036854775808 ≤ v ∧ v ≤ 9223372036854775807) (ho : ¬ (r ≤ v ∧ v < r + ru)) (w0 : World) (H0 : Hs (fps [.blk p #[.int .i64 r, .int .i64 s, .int .i64 b, .int .i64 o, .int .i64 c, .int .i64 y, .int .i64 z, .slice (some ⟨gl, 0, none⟩) sn cl, .slice (some ⟨gd, 0, none⟩) pg cd, .slice (some ⟨gs, 0, none⟩) ns cs, .int .i64 ((pu : Nat) : Int), .int .i64 ((ru : Nat) : Int)] 118, .row (.slice (some ⟨gl, 0, none⟩) sn cl) 3 1 sn (List.map (Value.int .i64) L), .row (.slice (some ⟨gd, 0, none⟩) pg cd) 4 1 pg (List.map Value.bool D), .row (.slice (some ⟨gs, 0, none⟩) ns cs) 3 1 ns (List.map (Value.int .i64) S)]) w0 w0 [.blk p #[.int .i64 r, .int .i64 s, .int .i64 b, .int .i64 o, .int .i64 c, .int .i64 y, .int .i64 z, .slice (some ⟨gl, 0, none⟩) sn cl, .slice (some ⟨gd, 0, none⟩) pg cd, .slice (some ⟨gs, 0, none⟩) ns cs, .int .i64 ((pu : Nat) : Int), .int .i64 ((ru : Nat) : Int)] 118, .row (.slice (some ⟨gl, 0, none⟩) sn cl) 3 1 sn (List.map (Value.int .i64) L), .row (.slice (some ⟨gd, 0, none⟩) pg cd) 4 1 pg (List.map Value.bool D), .row (.slice (some ⟨gs, 0, none⟩) ns cs) 3 1 ns (List.map (Value.int .i64) S)]) :
    Calls Try.prog 75 #[.pointer (some ⟨p, 0, none⟩), .int .i64 ((q : Nat) : Int), .int .i64 v] w0 fun e w' => e = .returned (.int .i64 12) ∧ Hs (fps [.blk p #[.int .i64 r, .int .i64 s, .int .i64 b, .int .i64 o, .int .i64 c, .int .i64 y, .int .i64 z, .slice (some ⟨gl, 0, none⟩) sn cl, .slice (some ⟨gd, 0, none⟩) pg cd, .slice (some ⟨gs, 0, none⟩) ns cs, .int .i64 ((pu : Nat) : Int), .int .i64 ((ru : Nat) : Int)] 118, .row (.slice (some ⟨gl, 0, none⟩) sn cl) 3 1 sn (List.map (Value.int .i64) L), .row (.slice (some ⟨gd, 0, none⟩) pg cd) 4 1 pg (List.map Value.bool D), .row (.slice (some ⟨gs, 0, none⟩) ns cs) 3 1 ns (List.map (Value.int .i64) S)]) w0 w' [.blk p #[.int .i64 r, .int .i64 s, .int .i64 b, .int .i64 o, .int .i64 c, .int .i64 y, .int .i64 z, .slice (some ⟨gl, 0, none⟩) sn cl, .slice (some ⟨gd, 0, none⟩) pg cd, .slice (some ⟨gs, 0, none⟩) ns cs, .int .i64 ((pu : Nat) : Int), .int .i64 ((ru : Nat) : Int)] 118, .row (.slice (some ⟨gl, 0, none⟩) sn cl) 3 1 sn (List.map (Value.int .i64) L), .row (.slice (some ⟨gd, 0, none⟩) pg cd) 4 1 pg (List.map Value.bool D), .row (.slice (some ⟨gs, 0, none⟩) ns cs) 3 1 ns (List.map (Value.int .i64) S)] := by
  refine z_enter Try.func75 rfl ?_
  have H := H0
  obtain ⟨eL, eD, eS, hp, hr⟩ := id hM
  have hok := hL.ok
  obtain ⟨-, r1, r8, s0, s8, b1, b2, o1, o2, c1, c2, y0, y4, z0, z2, hpg, hsn, hns, sn1, pg2, ln0, ln2⟩ := id hL
  have q1 : (decide (0 ≤ (q : Int)) && decide ((q : Int) < (ns : Int))) = true := by simp; omega
  have q2 : (decide (0 ≤ (IntKind.i64.wrap (v - r))) && decide ((IntKind.i64.wrap (v - r)) < (ru : Int))) = false := by rw [← Bool.decide_and]; exact decide_eq_false (fun z => ho ((wrap_range ht (by omega) (by omega)).1 z))
  refine x_seq <| x_region <| x_b H [.m] <| x_nil <| x_then <| x_seq <| x_block ?_
  refine x_seq <| z_region_whole H <| q_b [.m, .m, .m, .m, .l 0 9, .m] <| q_callB (.bool (decide (0 ≤ (q : Int)) && decide ((q : Int) < (ns : Int)))) (by kernel_rfl) (fun _ => by kernel_rfl) (fun _ => (below_any _ _ _)) <| q_b [.v (.bool (!(decide (0 ≤ (q : Int)) && decide ((q : Int) < (ns : Int))))), .v (.bool (!(decide (0 ≤ (q : Int)) && decide ((q : Int) < (ns : Int)))))] ?_
  rw [q1]
  refine q_b [.m, .m, .m, .m, .m, .m, .l 0 0] <| q_val (.int .i64 (IntKind.i64.wrap (v - r))) (by kernel_rfl) (fun _ => by kernel_rfl) <| q_b [.m, .m, .m, .l 0 11] <| q_callB (.bool (decide (0 ≤ (IntKind.i64.wrap (v - r))) && decide ((IntKind.i64.wrap (v - r)) < (ru : Int)))) (by kernel_rfl) (fun _ => by kernel_rfl) (fun _ => (below_any _ _ _)) <| q_b [.v (.bool (!(decide (0 ≤ (IntKind.i64.wrap (v - r))) && decide ((IntKind.i64.wrap (v - r)) < (ru : Int))))), .v (.bool (!(decide (0 ≤ (IntKind.i64.wrap (v - r))) && decide ((IntKind.i64.wrap (v - r)) < (ru : Int))))), .v (.bool (!(decide (0 ≤ (IntKind.i64.wrap (v - r))) && decide ((IntKind.i64.wrap (v - r)) < (ru : Int)))))] <| q_nil ?_
  clear H
  intro v1 H
  refine x_then ?_
  rw [q2]
  refine x_t (by kernel_rfl) <| x_seq <| x_region <| x_b H [.m] <| x_nil <| x_then <| x_retc ?_
  refine x_blk_ret <| x_then_ret <| x_ret (.int .i64 12) (by kernel_rfl) (by kernel_rfl) ?_
  exact ⟨rfl, H⟩
set_option maxRecDepth 100000 in
set_option maxHeartbeats 4000000 in
theorem Replace_two {r s b o c y z : Int} {pg sn ns : Nat} (hL : Lay r s b o c y z pg sn ns) {p gl cl gd cd gs cs : Nat} {L : List Int} {D : List Bool} {S : List Int} {pu ru : Nat} (hM : MapOk z s sn pg ns L D S pu ru) (q : Nat) (v : Int) (hq : q < ns) (hv1 : r ≤ v) (hv2 : v < r + ru) (hs : ¬ S.getD q 0 = -1) (w0 : World) (H0 : Hs (fps [.blk p #[.int .i64 r, .int .i64 s, .int .i64 b, .int .i64 o, .int .i64 c, .int .i64 y, .int .i64 z, .slice (some ⟨gl, 0, none⟩) sn cl, .slice (some ⟨gd, 0, none⟩) pg cd, .slice (some ⟨gs, 0, none⟩) ns cs, .int .i64 ((pu : Nat) : Int), .int .i64 ((ru : Nat) : Int)] 118, .row (.slice (some ⟨gl, 0, none⟩) sn cl) 3 1 sn (List.map (Value.int .i64) L), .row (.slice (some ⟨gd, 0, none⟩) pg cd) 4 1 pg (List.map Value.bool D), .row (.slice (some ⟨gs, 0, none⟩) ns cs) 3 1 ns (List.map (Value.int .i64) S)]) w0 w0 [.blk p #[.int .i64 r, .int .i64 s, .int .i64 b, .int .i64 o, .int .i64 c, .int .i64 y, .int .i64 z, .slice (some ⟨gl, 0, none⟩) sn cl, .slice (some ⟨gd, 0, none⟩) pg cd, .slice (some ⟨gs, 0, none⟩) ns cs, .int .i64 ((pu : Nat) : Int), .int .i64 ((ru : Nat) : Int)] 118, .row (.slice (some ⟨gl, 0, none⟩) sn cl) 3 1 sn (List.map (Value.int .i64) L), .row (.slice (some ⟨gd, 0, none⟩) pg cd) 4 1 pg (List.map Value.bool D), .row (.slice (some ⟨gs, 0, none⟩) ns cs) 3 1 ns (List.map (Value.int .i64) S)]) :
    Calls Try.prog 75 #[.pointer (some ⟨p, 0, none⟩), .int .i64 ((q : Nat) : Int), .int .i64 v] w0 fun e w' => e = .returned (.int .i64 15) ∧ Hs (fps [.blk p #[.int .i64 r, .int .i64 s, .int .i64 b, .int .i64 o, .int .i64 c, .int .i64 y, .int .i64 z, .slice (some ⟨gl, 0, none⟩) sn cl, .slice (some ⟨gd, 0, none⟩) pg cd, .slice (some ⟨gs, 0, none⟩) ns cs, .int .i64 ((pu : Nat) : Int), .int .i64 ((ru : Nat) : Int)] 118, .row (.slice (some ⟨gl, 0, none⟩) sn cl) 3 1 sn (List.map (Value.int .i64) L), .row (.slice (some ⟨gd, 0, none⟩) pg cd) 4 1 pg (List.map Value.bool D), .row (.slice (some ⟨gs, 0, none⟩) ns cs) 3 1 ns (List.map (Value.int .i64) S)]) w0 w' [.blk p #[.int .i64 r, .int .i64 s, .int .i64 b, .int .i64 o, .int .i64 c, .int .i64 y, .int .i64 z, .slice (some ⟨gl, 0, none⟩) sn cl, .slice (some ⟨gd, 0, none⟩) pg cd, .slice (some ⟨gs, 0, none⟩) ns cs, .int .i64 ((pu : Nat) : Int), .int .i64 ((ru : Nat) : Int)] 118, .row (.slice (some ⟨gl, 0, none⟩) sn cl) 3 1 sn (List.map (Value.int .i64) L), .row (.slice (some ⟨gd, 0, none⟩) pg cd) 4 1 pg (List.map Value.bool D), .row (.slice (some ⟨gs, 0, none⟩) ns cs) 3 1 ns (List.map (Value.int .i64) S)] := by
  refine z_enter Try.func75 rfl ?_
  have H := H0
  obtain ⟨eL, eD, eS, hp, hr⟩ := id hM
  have hok := hL.ok
  obtain ⟨-, r1, r8, s0, s8, b1, b2, o1, o2, c1, c2, y0, y4, z0, z2, hpg, hsn, hns, sn1, pg2, ln0, ln2⟩ := id hL
  have q1 : (decide (0 ≤ (q : Int)) && decide ((q : Int) < (ns : Int))) = true := by simp; omega
  have q2 : (decide (0 ≤ (v - r)) && decide ((v - r) < (ru : Int))) = true := by simp; omega
  have q3 : (decide ((S.getD q 0) = (-1))) = false := by simpa using hs
  refine x_seq <| x_region <| x_b H [.m] <| x_nil <| x_then <| x_seq <| x_block ?_
  refine x_seq <| z_region_whole H <| q_b [.m, .m, .m, .m, .l 0 9, .m] <| q_callB (.bool (decide (0 ≤ (q : Int)) && decide ((q : Int) < (ns : Int)))) (by kernel_rfl) (fun _ => by kernel_rfl) (fun _ => (below_any _ _ _)) <| q_b [.v (.bool (!(decide (0 ≤ (q : Int)) && decide ((q : Int) < (ns : Int))))), .v (.bool (!(decide (0 ≤ (q : Int)) && decide ((q : Int) < (ns : Int)))))] ?_
  rw [q1]
  refine q_b [.m, .m, .m, .m, .m, .m, .l 0 0] <| q_ar (v - r) ⟨by omega, by omega⟩ (by kernel_rfl) (fun _ => by kernel_rfl) <| q_b [.m, .m, .m, .l 0 11] <| q_callB (.bool (decide (0 ≤ (v - r)) && decide ((v - r) < (ru : Int)))) (by kernel_rfl) (fun _ => by kernel_rfl) (fun _ => (below_any _ _ _)) <| q_b [.v (.bool (!(decide (0 ≤ (v - r)) && decide ((v - r) < (ru : Int))))), .v (.bool (!(decide (0 ≤ (v - r)) && decide ((v - r) < (ru : Int))))), .v (.bool (!(decide (0 ≤ (v - r)) && decide ((v - r) < (ru : Int)))))] <| q_nil ?_
  clear H
  intro v1 H
  refine x_then ?_
  rw [q2]
  refine x_f (by kernel_rfl) <| x_seq <| x_region <| x_b H [.m, .m, .m, .l 0 9, .m] <| x_ix (t := 40) gs 0 q ns cs 3 1 q (by omega) (by omega) (by kernel_rfl) (by kernel_rfl) (by kernel_rfl) rfl (by kernel_rfl) <| x_loadc gs q (.int .i64 (S.getD q 0)) (H.rowCell 3 rfl q (mapAt 0 (by omega))) (by kernel_rfl) rfl (by kernel_rfl) <| x_b H [.v (.bool (!(decide ((S.getD q 0) = (-1))))), .v (.bool (!(decide ((S.getD q 0) = (-1)))))] ?_
  refine x_nil <| x_then ?_
  rw [q3]
  refine x_t (by kernel_rfl) <| x_seq <| x_region <| x_b H [.m] <| x_nil <| x_then <| x_retc ?_
  refine x_blk_ret <| x_then_ret <| x_ret (.int .i64 15) (by kernel_rfl) (by kernel_rfl) ?_
  exact ⟨rfl, H⟩
theorem Replace_any {r s b o c y z : Int} {pg sn ns : Nat} (hL : Lay r s b o c y z pg sn ns) {p gl cl gd cd gs cs : Nat} {L : List Int} {D : List Bool} {S : List Int} {pu ru : Nat} (hV : MapV r s z sn pg ns L D S pu ru) (q v : Int) (ht : -9223372036854775808 ≤ v ∧ v ≤ 9223372036854775807) (w0 : World) (H0 : Hs (fps [.blk p #[.int .i64 r, .int .i64 s, .int .i64 b, .int .i64 o, .int .i64 c, .int .i64 y, .int .i64 z, .slice (some ⟨gl, 0, none⟩) sn cl, .slice (some ⟨gd, 0, none⟩) pg cd, .slice (some ⟨gs, 0, none⟩) ns cs, .int .i64 ((pu : Nat) : Int), .int .i64 ((ru : Nat) : Int)] 118, .row (.slice (some ⟨gl, 0, none⟩) sn cl) 3 1 sn (List.map (Value.int .i64) L), .row (.slice (some ⟨gd, 0, none⟩) pg cd) 4 1 pg (List.map Value.bool D), .row (.slice (some ⟨gs, 0, none⟩) ns cs) 3 1 ns (List.map (Value.int .i64) S)]) w0 w0 [.blk p #[.int .i64 r, .int .i64 s, .int .i64 b, .int .i64 o, .int .i64 c, .int .i64 y, .int .i64 z, .slice (some ⟨gl, 0, none⟩) sn cl, .slice (some ⟨gd, 0, none⟩) pg cd, .slice (some ⟨gs, 0, none⟩) ns cs, .int .i64 ((pu : Nat) : Int), .int .i64 ((ru : Nat) : Int)] 118, .row (.slice (some ⟨gl, 0, none⟩) sn cl) 3 1 sn (List.map (Value.int .i64) L), .row (.slice (some ⟨gd, 0, none⟩) pg cd) 4 1 pg (List.map Value.bool D), .row (.slice (some ⟨gs, 0, none⟩) ns cs) 3 1 ns (List.map (Value.int .i64) S)]) :
    Calls Try.prog 75 #[.pointer (some ⟨p, 0, none⟩), .int .i64 q, .int .i64 v] w0 fun e w' => e = .returned (.int .i64 (rpE r ns ru S q v)) ∧ Hs (fps [.blk p #[.int .i64 r, .int .i64 s, .int .i64 b, .int .i64 o, .int .i64 c, .int .i64 y, .int .i64 z, .slice (some ⟨gl, 0, none⟩) sn cl, .slice (some ⟨gd, 0, none⟩) pg cd, .slice (some ⟨gs, 0, none⟩) ns cs, .int .i64 ((pu : Nat) : Int), .int .i64 ((ru : Nat) : Int)] 118, .row (.slice (some ⟨gl, 0, none⟩) sn cl) 3 1 sn (List.map (Value.int .i64) L), .row (.slice (some ⟨gd, 0, none⟩) pg cd) 4 1 pg (List.map Value.bool D), .row (.slice (some ⟨gs, 0, none⟩) ns cs) 3 1 ns (List.map (Value.int .i64) S)]) w0 w' [.blk p #[.int .i64 r, .int .i64 s, .int .i64 b, .int .i64 o, .int .i64 c, .int .i64 y, .int .i64 z, .slice (some ⟨gl, 0, none⟩) sn cl, .slice (some ⟨gd, 0, none⟩) pg cd, .slice (some ⟨gs, 0, none⟩) ns cs, .int .i64 ((pu : Nat) : Int), .int .i64 ((ru : Nat) : Int)] 118, .row (.slice (some ⟨gl, 0, none⟩) sn cl) 3 1 sn (List.map (Value.int .i64) L), .row (.slice (some ⟨gd, 0, none⟩) pg cd) 4 1 pg (List.map Value.bool D), .row (.slice (some ⟨gs, 0, none⟩) ns cs) 3 1 ns (List.map (Value.int .i64) (rpS r ns ru S q v))] := by
  have hM := hV.m
  unfold rpS rpE
  by_cases c1 : 0 ≤ q ∧ q < (ns : Int)
  · obtain ⟨q, rfl⟩ := Int.eq_ofNat_of_zero_le c1.1
    by_cases c2 : r ≤ v ∧ v < r + ru
    · have e0 : ¬ (¬ (0 ≤ ((q : Nat) : Int) ∧ ((q : Nat) : Int) < (ns : Int)) ∨ ¬ (r ≤ v ∧ v < r + ru)) := by omega
      by_cases hs : S.getD q 0 = -1
      · have e1 : ¬ ¬ S.getD ((q : Nat) : Int).toNat 0 = -1 := fun z => z hs
        simp only [if_neg e0, if_neg e1, if_true]
        exact Replace_ok hL hM q v (by omega) c2.1 c2.2 hs w0 H0
      · have e1 : ¬ S.getD ((q : Nat) : Int).toNat 0 = -1 := hs
        simp only [if_neg e0, if_pos e1, show ¬ (15 : Int) = 0 by omega, if_false]
        exact Replace_two hL hM q v (by omega) c2.1 c2.2 hs w0 H0
    · have e0 : ¬ (0 ≤ ((q : Nat) : Int) ∧ ((q : Nat) : Int) < (ns : Int)) ∨ ¬ (r ≤ v ∧ v < r + ru) := .inr c2
      simp only [if_pos e0, show ¬ (12 : Int) = 0 by omega, if_false]
      exact Replace_ov hL hM q (by omega) v ht c2 w0 H0
  · have e0 : ¬ (0 ≤ q ∧ q < (ns : Int)) ∨ ¬ (r ≤ v ∧ v < r + ru) := .inl c1
    simp only [if_pos e0, show ¬ (12 : Int) = 0 by omega, if_false]
    exact Replace_out hL hM q v (by omega) w0 H0
theorem TakePage_any {r s b o c y z : Int} {pg sn ns : Nat} (hL : Lay r s b o c y z pg sn ns) {p gl cl gd cd gs cs : Nat} {L : List Int} {D : List Bool} {S : List Int} {pu ru : Nat} (hV : MapV r s z sn pg ns L D S pu ru) (w0 : World) (H0 : Hs (fps [.blk p #[.int .i64 r, .int .i64 s, .int .i64 b, .int .i64 o, .int .i64 c, .int .i64 y, .int .i64 z, .slice (some ⟨gl, 0, none⟩) sn cl, .slice (some ⟨gd, 0, none⟩) pg cd, .slice (some ⟨gs, 0, none⟩) ns cs, .int .i64 ((pu : Nat) : Int), .int .i64 ((ru : Nat) : Int)] 118, .row (.slice (some ⟨gl, 0, none⟩) sn cl) 3 1 sn (List.map (Value.int .i64) L), .row (.slice (some ⟨gd, 0, none⟩) pg cd) 4 1 pg (List.map Value.bool D), .row (.slice (some ⟨gs, 0, none⟩) ns cs) 3 1 ns (List.map (Value.int .i64) S)]) w0 w0 [.blk p #[.int .i64 r, .int .i64 s, .int .i64 b, .int .i64 o, .int .i64 c, .int .i64 y, .int .i64 z, .slice (some ⟨gl, 0, none⟩) sn cl, .slice (some ⟨gd, 0, none⟩) pg cd, .slice (some ⟨gs, 0, none⟩) ns cs, .int .i64 ((pu : Nat) : Int), .int .i64 ((ru : Nat) : Int)] 118, .row (.slice (some ⟨gl, 0, none⟩) sn cl) 3 1 sn (List.map (Value.int .i64) L), .row (.slice (some ⟨gd, 0, none⟩) pg cd) 4 1 pg (List.map Value.bool D), .row (.slice (some ⟨gs, 0, none⟩) ns cs) 3 1 ns (List.map (Value.int .i64) S)]) :
    Calls Try.prog 16 #[.pointer (some ⟨p, 0, none⟩)] w0 fun e w' => e = .returned (.tuple #[.int .i64 (fpV z sn pu), .int .i64 (tkE z pu)]) ∧ Hs (fps [.blk p #[.int .i64 r, .int .i64 s, .int .i64 b, .int .i64 o, .int .i64 c, .int .i64 y, .int .i64 z, .slice (some ⟨gl, 0, none⟩) sn cl, .slice (some ⟨gd, 0, none⟩) pg cd, .slice (some ⟨gs, 0, none⟩) ns cs, .int .i64 ((pu : Nat) : Int), .int .i64 ((ru : Nat) : Int)] 118, .row (.slice (some ⟨gl, 0, none⟩) sn cl) 3 1 sn (List.map (Value.int .i64) L), .row (.slice (some ⟨gd, 0, none⟩) pg cd) 4 1 pg (List.map Value.bool D), .row (.slice (some ⟨gs, 0, none⟩) ns cs) 3 1 ns (List.map (Value.int .i64) S)]) w0 w' [.blk p #[.int .i64 r, .int .i64 s, .int .i64 b, .int .i64 o, .int .i64 c, .int .i64 y, .int .i64 z, .slice (some ⟨gl, 0, none⟩) sn cl, .slice (some ⟨gd, 0, none⟩) pg cd, .slice (some ⟨gs, 0, none⟩) ns cs, .int .i64 (((tkN z pu) : Nat) : Int), .int .i64 ((ru : Nat) : Int)] 118, .row (.slice (some ⟨gl, 0, none⟩) sn cl) 3 1 sn (List.map (Value.int .i64) L), .row (.slice (some ⟨gd, 0, none⟩) pg cd) 4 1 pg (List.map Value.bool D), .row (.slice (some ⟨gs, 0, none⟩) ns cs) 3 1 ns (List.map (Value.int .i64) S)] := by
  have hM := hV.m
  unfold tkE tkN fpV
  by_cases h : ((pu : Nat) : Int) = z
  · rw [if_pos h, if_pos h, if_pos h]; exact TakePage_no hL hM h w0 H0
  · rw [if_neg h, if_neg h, if_neg h]; exact TakePage_yes hL hM h w0 H0
theorem TakeSpare_any {r s b o c y z : Int} {pg sn ns : Nat} (hL : Lay r s b o c y z pg sn ns) {p gl cl gd cd gs cs : Nat} {L : List Int} {D : List Bool} {S : List Int} {pu ru : Nat} (hV : MapV r s z sn pg ns L D S pu ru) (w0 : World) (H0 : Hs (fps [.blk p #[.int .i64 r, .int .i64 s, .int .i64 b, .int .i64 o, .int .i64 c, .int .i64 y, .int .i64 z, .slice (some ⟨gl, 0, none⟩) sn cl, .slice (some ⟨gd, 0, none⟩) pg cd, .slice (some ⟨gs, 0, none⟩) ns cs, .int .i64 ((pu : Nat) : Int), .int .i64 ((ru : Nat) : Int)] 118, .row (.slice (some ⟨gl, 0, none⟩) sn cl) 3 1 sn (List.map (Value.int .i64) L), .row (.slice (some ⟨gd, 0, none⟩) pg cd) 4 1 pg (List.map Value.bool D), .row (.slice (some ⟨gs, 0, none⟩) ns cs) 3 1 ns (List.map (Value.int .i64) S)]) w0 w0 [.blk p #[.int .i64 r, .int .i64 s, .int .i64 b, .int .i64 o, .int .i64 c, .int .i64 y, .int .i64 z, .slice (some ⟨gl, 0, none⟩) sn cl, .slice (some ⟨gd, 0, none⟩) pg cd, .slice (some ⟨gs, 0, none⟩) ns cs, .int .i64 ((pu : Nat) : Int), .int .i64 ((ru : Nat) : Int)] 118, .row (.slice (some ⟨gl, 0, none⟩) sn cl) 3 1 sn (List.map (Value.int .i64) L), .row (.slice (some ⟨gd, 0, none⟩) pg cd) 4 1 pg (List.map Value.bool D), .row (.slice (some ⟨gs, 0, none⟩) ns cs) 3 1 ns (List.map (Value.int .i64) S)]) :
    Calls Try.prog 19 #[.pointer (some ⟨p, 0, none⟩)] w0 fun e w' => e = .returned (.tuple #[.int .i64 (fsV r s ru), .int .i64 (tkE s ru)]) ∧ Hs (fps [.blk p #[.int .i64 r, .int .i64 s, .int .i64 b, .int .i64 o, .int .i64 c, .int .i64 y, .int .i64 z, .slice (some ⟨gl, 0, none⟩) sn cl, .slice (some ⟨gd, 0, none⟩) pg cd, .slice (some ⟨gs, 0, none⟩) ns cs, .int .i64 ((pu : Nat) : Int), .int .i64 ((ru : Nat) : Int)] 118, .row (.slice (some ⟨gl, 0, none⟩) sn cl) 3 1 sn (List.map (Value.int .i64) L), .row (.slice (some ⟨gd, 0, none⟩) pg cd) 4 1 pg (List.map Value.bool D), .row (.slice (some ⟨gs, 0, none⟩) ns cs) 3 1 ns (List.map (Value.int .i64) S)]) w0 w' [.blk p #[.int .i64 r, .int .i64 s, .int .i64 b, .int .i64 o, .int .i64 c, .int .i64 y, .int .i64 z, .slice (some ⟨gl, 0, none⟩) sn cl, .slice (some ⟨gd, 0, none⟩) pg cd, .slice (some ⟨gs, 0, none⟩) ns cs, .int .i64 ((pu : Nat) : Int), .int .i64 (((tkN s ru) : Nat) : Int)] 118, .row (.slice (some ⟨gl, 0, none⟩) sn cl) 3 1 sn (List.map (Value.int .i64) L), .row (.slice (some ⟨gd, 0, none⟩) pg cd) 4 1 pg (List.map Value.bool D), .row (.slice (some ⟨gs, 0, none⟩) ns cs) 3 1 ns (List.map (Value.int .i64) S)] := by
  have hM := hV.m
  unfold tkE tkN fsV
  by_cases h : ((ru : Nat) : Int) = s
  · rw [if_pos h, if_pos h, if_pos h]; exact TakeSpare_no hL hM h w0 H0
  · rw [if_neg h, if_neg h, if_neg h]; exact TakeSpare_yes hL hM h w0 H0
end Go.Proofs.Ytpmnnijjohlloaa
