/- The law RemapStays, walked. -/
import Derived.Test.YtgpalgbdacoagaaRemapQ
import Derived.Test.YtgpalgbdacoagaaRemapD
namespace Go.Proofs.Ytgpalgbdacoagaa
open Go Go.RowKit
set_option linter.unusedVariables false
set_option linter.unusedSimpArgs false

theorem Used_at {r s b o c y z : Int} {pg sn ns : Nat} (hL : Lay r s b o c y z pg sn ns) {p gl cl gd cd gs cs : Nat} {L : List Int} {D : List Bool} {pu : Nat} (St : Stay z sn pg L D pu) (a : Int) (w0 : World) (hR : Ro w0 [.blk p #[.int .i64 r, .int .i64 s, .int .i64 b, .int .i64 o, .int .i64 c, .int .i64 y, .int .i64 z, .slice (some ⟨gl, 0, none⟩) sn cl, .slice (some ⟨gd, 0, none⟩) pg cd, .slice (some ⟨gs, 0, none⟩) ns cs, .int .i64 ((pu : Nat) : Int), .int .i64 ((0 : Nat) : Int)] 181, .row (.slice (some ⟨gl, 0, none⟩) sn cl) 3 1 sn (List.map (Value.int .i64) L), .row (.slice (some ⟨gd, 0, none⟩) pg cd) 4 1 pg (List.map Value.bool D), .row (.slice (some ⟨gs, 0, none⟩) ns cs) 3 1 ns (List.map (Value.int .i64) (List.replicate ns (-1)))]) : Calls Try.prog 37 #[.pointer (some ⟨p, 0, none⟩), .int .i64 a] w0 fun e w' => e = .returned (.bool (usedB sn pu D a)) ∧ Below w0.heap.size w0 w' := by
  have hM := St.mok (s := s) hL.s0 ns
  have hsn := hL.hsn
  have hp := St.hp
  by_cases h : 0 ≤ a ∧ a < (sn : Int) + pu
  · obtain ⟨n, rfl⟩ := Int.eq_ofNat_of_zero_le h.1
    have := Used_in hL hM n (by omega) w0 hR
    have e : usedB sn pu D (n : Int) = !(D.getD n false) := by simp only [usedB, Int.toNat_natCast]; rw [decide_eq_true h.1, decide_eq_true h.2]; rfl
    rwa [e]
  · have := Used_out hL hM a (by omega) w0 hR
    have e : usedB sn pu D a = false := by
      unfold usedB
      by_cases h0 : 0 ≤ a
      · rw [decide_eq_false (p := a < (sn : Int) + pu) (by omega)]; simp
      · rw [decide_eq_false h0]; simp
    rwa [e]
theorem Retire_at {r s b o c y z : Int} {pg sn ns : Nat} (hL : Lay r s b o c y z pg sn ns) {p gl cl gd cd gs cs : Nat} {L : List Int} {D : List Bool} {pu : Nat} (St : Stay z sn pg L D pu) (a : Int) (h : Nat) (ea : a = (h : Int)) (hh : h < sn + pu) (hz : (pu : Int) < z) (dh : D.getD h false = false) (w0 : World) (H0 : Hs (fps [.blk p #[.int .i64 r, .int .i64 s, .int .i64 b, .int .i64 o, .int .i64 c, .int .i64 y, .int .i64 z, .slice (some ⟨gl, 0, none⟩) sn cl, .slice (some ⟨gd, 0, none⟩) pg cd, .slice (some ⟨gs, 0, none⟩) ns cs, .int .i64 (((pu + 1) : Nat) : Int), .int .i64 ((0 : Nat) : Int)] 181, .row (.slice (some ⟨gl, 0, none⟩) sn cl) 3 1 sn (List.map (Value.int .i64) L), .row (.slice (some ⟨gd, 0, none⟩) pg cd) 4 1 pg (List.map Value.bool D), .row (.slice (some ⟨gs, 0, none⟩) ns cs) 3 1 ns (List.map (Value.int .i64) (List.replicate ns (-1)))]) w0 w0 [.blk p #[.int .i64 r, .int .i64 s, .int .i64 b, .int .i64 o, .int .i64 c, .int .i64 y, .int .i64 z, .slice (some ⟨gl, 0, none⟩) sn cl, .slice (some ⟨gd, 0, none⟩) pg cd, .slice (some ⟨gs, 0, none⟩) ns cs, .int .i64 (((pu + 1) : Nat) : Int), .int .i64 ((0 : Nat) : Int)] 181, .row (.slice (some ⟨gl, 0, none⟩) sn cl) 3 1 sn (List.map (Value.int .i64) L), .row (.slice (some ⟨gd, 0, none⟩) pg cd) 4 1 pg (List.map Value.bool D), .row (.slice (some ⟨gs, 0, none⟩) ns cs) 3 1 ns (List.map (Value.int .i64) (List.replicate ns (-1)))]) :
    Calls Try.prog 50 #[.pointer (some ⟨p, 0, none⟩), .int .i64 a, .int .i64 ((sn : Int) + pu)] w0 fun e w' => e = .returned (.int .i64 0) ∧ Hs (fps [.blk p #[.int .i64 r, .int .i64 s, .int .i64 b, .int .i64 o, .int .i64 c, .int .i64 y, .int .i64 z, .slice (some ⟨gl, 0, none⟩) sn cl, .slice (some ⟨gd, 0, none⟩) pg cd, .slice (some ⟨gs, 0, none⟩) ns cs, .int .i64 (((pu + 1) : Nat) : Int), .int .i64 ((0 : Nat) : Int)] 181, .row (.slice (some ⟨gl, 0, none⟩) sn cl) 3 1 sn (List.map (Value.int .i64) L), .row (.slice (some ⟨gd, 0, none⟩) pg cd) 4 1 pg (List.map Value.bool D), .row (.slice (some ⟨gs, 0, none⟩) ns cs) 3 1 ns (List.map (Value.int .i64) (List.replicate ns (-1)))]) w0 w' [.blk p #[.int .i64 r, .int .i64 s, .int .i64 b, .int .i64 o, .int .i64 c, .int .i64 y, .int .i64 z, .slice (some ⟨gl, 0, none⟩) sn cl, .slice (some ⟨gd, 0, none⟩) pg cd, .slice (some ⟨gs, 0, none⟩) ns cs, .int .i64 (((pu + 1) : Nat) : Int), .int .i64 ((0 : Nat) : Int)] 181, .row (.slice (some ⟨gl, 0, none⟩) sn cl) 3 1 sn (List.map (Value.int .i64) (retL ((h : Nat) : Int) ((sn : Int) + pu) L)), .row (.slice (some ⟨gd, 0, none⟩) pg cd) 4 1 pg (List.map Value.bool (D.set h true)), .row (.slice (some ⟨gs, 0, none⟩) ns cs) 3 1 ns (List.map (Value.int .i64) (List.replicate ns (-1)))] := by
  subst ea
  exact have hM : MapOk z s sn pg ns L D (List.replicate ns (-1)) (pu + 1) 0 := ⟨St.hL, St.hD, List.length_replicate, by omega, by have := hL.s0; omega⟩
  have hsn := hL.hsn
  Retire_ok hL hM h (sn + pu) (by omega) (by omega) (by omega) (by omega) dh (St.dv _ (Nat.le_refl _)) (by omega) w0 H0
theorem Replace_at {r s b o c y z : Int} {pg sn ns : Nat} (hL : Lay r s b o c y z pg sn ns) {p gl cl gd cd gs cs : Nat} {L : List Int} {D : List Bool} {S : List Int} {pu ru : Nat} (hM : MapOk z s sn pg ns L D S pu ru) (i : Int) {q : Nat} (eq : i = (q : Int)) (v : Int) (hq : q < ns) (hv1 : r ≤ v) (hv2 : v < r + ru) (hs : S.getD q 0 = -1) (w0 : World) (H0 : Hs (fps [.blk p #[.int .i64 r, .int .i64 s, .int .i64 b, .int .i64 o, .int .i64 c, .int .i64 y, .int .i64 z, .slice (some ⟨gl, 0, none⟩) sn cl, .slice (some ⟨gd, 0, none⟩) pg cd, .slice (some ⟨gs, 0, none⟩) ns cs, .int .i64 ((pu : Nat) : Int), .int .i64 ((ru : Nat) : Int)] 181, .row (.slice (some ⟨gl, 0, none⟩) sn cl) 3 1 sn (List.map (Value.int .i64) L), .row (.slice (some ⟨gd, 0, none⟩) pg cd) 4 1 pg (List.map Value.bool D), .row (.slice (some ⟨gs, 0, none⟩) ns cs) 3 1 ns (List.map (Value.int .i64) S)]) w0 w0 [.blk p #[.int .i64 r, .int .i64 s, .int .i64 b, .int .i64 o, .int .i64 c, .int .i64 y, .int .i64 z, .slice (some ⟨gl, 0, none⟩) sn cl, .slice (some ⟨gd, 0, none⟩) pg cd, .slice (some ⟨gs, 0, none⟩) ns cs, .int .i64 ((pu : Nat) : Int), .int .i64 ((ru : Nat) : Int)] 181, .row (.slice (some ⟨gl, 0, none⟩) sn cl) 3 1 sn (List.map (Value.int .i64) L), .row (.slice (some ⟨gd, 0, none⟩) pg cd) 4 1 pg (List.map Value.bool D), .row (.slice (some ⟨gs, 0, none⟩) ns cs) 3 1 ns (List.map (Value.int .i64) S)]) :
    Calls Try.prog 53 #[.pointer (some ⟨p, 0, none⟩), .int .i64 i, .int .i64 v] w0 fun e w' => e = .returned (.int .i64 0) ∧ Hs (fps [.blk p #[.int .i64 r, .int .i64 s, .int .i64 b, .int .i64 o, .int .i64 c, .int .i64 y, .int .i64 z, .slice (some ⟨gl, 0, none⟩) sn cl, .slice (some ⟨gd, 0, none⟩) pg cd, .slice (some ⟨gs, 0, none⟩) ns cs, .int .i64 ((pu : Nat) : Int), .int .i64 ((ru : Nat) : Int)] 181, .row (.slice (some ⟨gl, 0, none⟩) sn cl) 3 1 sn (List.map (Value.int .i64) L), .row (.slice (some ⟨gd, 0, none⟩) pg cd) 4 1 pg (List.map Value.bool D), .row (.slice (some ⟨gs, 0, none⟩) ns cs) 3 1 ns (List.map (Value.int .i64) S)]) w0 w' [.blk p #[.int .i64 r, .int .i64 s, .int .i64 b, .int .i64 o, .int .i64 c, .int .i64 y, .int .i64 z, .slice (some ⟨gl, 0, none⟩) sn cl, .slice (some ⟨gd, 0, none⟩) pg cd, .slice (some ⟨gs, 0, none⟩) ns cs, .int .i64 ((pu : Nat) : Int), .int .i64 ((ru : Nat) : Int)] 181, .row (.slice (some ⟨gl, 0, none⟩) sn cl) 3 1 sn (List.map (Value.int .i64) L), .row (.slice (some ⟨gd, 0, none⟩) pg cd) 4 1 pg (List.map Value.bool D), .row (.slice (some ⟨gs, 0, none⟩) ns cs) 3 1 ns (List.map (Value.int .i64) (S.set q v))] := by
  subst eq
  exact Replace_ok hL hM q v hq hv1 hv2 hs w0 H0
def opL (x : Int × Int × Int) : List Value := [.int .i64 x.1, .int .i64 x.2.1, .int .i64 x.2.2]
/-- A slice of operations that is handed in. -/
def OpsAt (w0 : World) (ad : Option Addr) (nA : Nat) (O : List (Int × Int × Int)) : Prop :=
  0 < nA → ∃ g off, ad = some ⟨g, off, none⟩ ∧ ∀ w', Below w0.heap.size w0 w' → ∀ i, i < nA → ∀ (j : Nat) v, (opL (O.getD i (0, 0, 0)))[j]? = some v → w'.cell? ⟨g, off + i * 3 + j, none⟩ = some v

theorem setv {ns qn : Nat} {v t : Int} (h0 : 0 ≤ v) (h1 : v < t) : ∀ q, q < ns → ((List.replicate ns (-1 : Int)).set qn v).getD q 0 = -1 ∨ (0 ≤ ((List.replicate ns (-1 : Int)).set qn v).getD q 0 ∧ ((List.replicate ns (-1 : Int)).set qn v).getD q 0 < t) := fun q hq => by
  simp only [List.getD, List.getElem?_set, List.length_replicate, List.getElem?_replicate]
  rw [if_pos hq]
  split
  · rename_i e; subst e; right; first | exact ⟨h0, h1⟩ | (rw [if_pos hq]; exact ⟨h0, h1⟩)
  · left; rfl

set_option maxRecDepth 100000 in
set_option maxHeartbeats 4000000 in
theorem stays_no (r s b o c y z home rank : Int) (ad : Option Addr) (nA cA : Nat) (hbd : r ≤ 9223372036854775807 ∧ b ≤ 9223372036854775807 ∧ o ≤ 9223372036854775807 ∧ c ≤ 9223372036854775807) (hok : layoutOk r s b o c y z = false) (w0 : World) :
    Calls Try.prog 8 #[.agg #[.int .i64 r, .int .i64 s, .int .i64 b, .int .i64 o, .int .i64 c, .int .i64 y, .int .i64 z], .slice ad nA cA, .int .i64 home, .int .i64 rank] w0 fun e w' => e = .returned (.bool true) ∧ Below w0.heap.size w0 w' := by
  refine x_enter Try.func8 rfl #[.agg #[.int .i64 r, .int .i64 s, .int .i64 b, .int .i64 o, .int .i64 c, .int .i64 y, .int .i64 z], .slice ad nA cA, .int .i64 home, .int .i64 rank, undef, undef, undef, undef, undef, undef, undef, undef, undef, undef, undef, undef, undef, undef, undef, undef, undef, undef, undef, undef, undef, undef, undef, undef, undef, undef, undef, undef, undef, undef, undef, undef, undef, undef, undef, undef, undef, undef, undef, undef, undef, undef, undef, undef, undef, undef, undef, undef, undef, undef, undef, undef, undef, undef, undef, undef, undef, undef, undef, undef, undef, undef, undef, undef, undef, undef, undef, undef, undef, undef, undef, undef, undef, undef, undef, undef, undef, undef, undef, undef, undef, undef, undef, undef, undef, undef, undef, undef, undef, undef, undef, undef, undef, undef, undef, undef, undef, undef, undef, undef, undef, undef, undef, undef, undef, undef, undef, undef, undef, undef, undef, undef, undef, undef, undef, undef, undef, undef, undef, undef, undef, undef, undef, undef, undef, undef, undef, undef, undef, undef, undef, undef, undef, undef, undef, undef, undef, undef, undef, undef, undef, undef, undef, undef, undef, undef, undef, undef, undef, undef, undef, undef, undef, undef, undef, undef, undef, undef, undef, undef, undef, undef, undef, undef, undef, undef, undef, undef, undef, undef, undef, undef, undef, undef, undef, undef, undef, undef, undef, undef, undef, undef, undef, undef, undef, undef, undef, undef, undef, undef, undef, undef, undef, undef, undef] (by kernel_rfl) ?_
  have H := Hs.nil w0
  obtain ⟨hb1, hb2, hb3, hb4⟩ := id hbd
  refine x_seq ?_
  refine x_region ?_
  refine x_box H #[.int .i64 r, .int .i64 s, .int .i64 b, .int .i64 o, .int .i64 c, .int .i64 y, .int .i64 z] 69 (by kernel_rfl) rfl (by kernel_rfl) ?_
  clear H
  intro v1 g1 H
  refine x_val (.bool false) (by kernel_rfl) rfl (by kernel_rfl) ?_
  refine x_nil ?_
  refine x_then ?_
  refine x_seq ?_
  refine x_seq ?_
  refine x_region ?_
  refine x_callB (.bool true) H (by kernel_rfl) rfl (by kernel_rfl) (anchor19 _) ?_
  clear H
  intro v2 H
  refine x_val (.bool false) (by kernel_rfl) rfl (by kernel_rfl) ?_
  refine x_nil ?_
  refine x_then ?_
  refine x_f (by kernel_rfl) ?_
  refine x_skipc ?_
  refine x_then ?_
  refine x_seq ?_
  refine x_seq ?_
  refine x_region ?_
  refine x_loadn (t := 69) H 0 g1 0 #[.int .i64 r, .int .i64 s, .int .i64 b, .int .i64 o, .int .i64 c, .int .i64 y, .int .i64 z] 69 [.int .i64 r, .int .i64 s, .int .i64 b, .int .i64 o, .int .i64 c, .int .i64 y, .int .i64 z] (by kernel_rfl) (by kernel_rfl) (by kernel_rfl) rfl (by kernel_rfl) (by kernel_rfl) ?_
  refine x_call (by kernel_rfl) rfl (by kernel_rfl) (small_any r s b o c y z (by omega) (by omega) (by omega) (by omega) _) ?_
  rintro _ v3 ⟨tS, rfl, hB⟩
  refine ⟨_, rfl, ?_⟩
  replace H := H.via hB
  clear hB
  refine x_val (.bool (!tS)) (by kernel_rfl) rfl (by kernel_rfl) ?_
  refine x_val (.bool (!tS)) (by kernel_rfl) rfl (by kernel_rfl) ?_
  cases h1 : tS
  · skip
    refine x_skip (by kernel_rfl) ?_
    refine x_skip (by kernel_rfl) ?_
    refine x_skip (by kernel_rfl) ?_
    refine x_val (.bool true) (by kernel_rfl) rfl (by kernel_rfl) ?_
    refine x_nil ?_
    refine x_then ?_
    refine x_t (by kernel_rfl) ?_
    refine x_seq ?_
    refine x_region ?_
    refine x_val (.bool true) (by kernel_rfl) rfl (by kernel_rfl) ?_
    refine x_nil ?_
    refine x_then ?_
    refine x_retc ?_
    refine x_then_ret ?_
    refine x_ret (.bool true) (by kernel_rfl) (by kernel_rfl) ?_
    exact ⟨rfl, H.below⟩
  · skip
    refine x_val (.slice ad nA cA) (by kernel_rfl) rfl (by kernel_rfl) ?_
    refine x_val (.int .i64 ((nA : Nat) : Int)) (by kernel_rfl) rfl (by kernel_rfl) ?_
    refine x_val (.bool (decide (20 < ((nA : Nat) : Int)))) (by kernel_rfl) rfl (by kernel_rfl) ?_
    refine x_val (.bool (decide (20 < ((nA : Nat) : Int)))) (by kernel_rfl) rfl (by kernel_rfl) ?_
    refine x_nil ?_
    refine x_then ?_
    cases h2 : decide (20 < ((nA : Nat) : Int))
    · skip
      have h2p := of_decide_eq_false h2
      refine x_f (by kernel_rfl) ?_
      refine x_skipc ?_
      refine x_then ?_
      refine x_seq ?_
      refine x_region ?_
      refine x_loadn (t := 69) H 0 g1 0 #[.int .i64 r, .int .i64 s, .int .i64 b, .int .i64 o, .int .i64 c, .int .i64 y, .int .i64 z] 69 [.int .i64 r, .int .i64 s, .int .i64 b, .int .i64 o, .int .i64 c, .int .i64 y, .int .i64 z] (by kernel_rfl) (by kernel_rfl) (by kernel_rfl) rfl (by kernel_rfl) (by kernel_rfl) ?_
      refine x_callB (.tuple #[.pointer none, .int .i64 22]) H (by kernel_rfl) rfl (by kernel_rfl) (New_no r s b o c y z hbd hok _) ?_
      clear H
      intro v4 H
      refine x_val (.tuple #[.pointer none, .int .i64 22]) (by kernel_rfl) rfl (by kernel_rfl) ?_
      refine x_val (.pointer none) (by kernel_rfl) rfl (by kernel_rfl) ?_
      refine x_val (.int .i64 22) (by kernel_rfl) rfl (by kernel_rfl) ?_
      refine x_val (.pointer none) (by kernel_rfl) rfl (by kernel_rfl) ?_
      refine x_val (.int .i64 22) (by kernel_rfl) rfl (by kernel_rfl) ?_
      refine x_nil ?_
      refine x_then ?_
      refine x_seq ?_
      refine x_seq ?_
      refine x_region ?_
      refine x_val (.int .i64 22) (by kernel_rfl) rfl (by kernel_rfl) ?_
      refine x_val (.bool true) (by kernel_rfl) rfl (by kernel_rfl) ?_
      refine x_val (.bool true) (by kernel_rfl) rfl (by kernel_rfl) ?_
      refine x_skip (by kernel_rfl) ?_
      refine x_skip (by kernel_rfl) ?_
      refine x_val (.bool true) (by kernel_rfl) rfl (by kernel_rfl) ?_
      refine x_nil ?_
      refine x_then ?_
      refine x_t (by kernel_rfl) ?_
      refine x_seq ?_
      refine x_region ?_
      refine x_val (.pointer none) (by kernel_rfl) rfl (by kernel_rfl) ?_
      refine x_val (.bool true) (by kernel_rfl) rfl (by kernel_rfl) ?_
      refine x_val (.bool true) (by kernel_rfl) rfl (by kernel_rfl) ?_
      refine x_nil ?_
      refine x_then ?_
      refine x_retc ?_
      refine x_then_ret ?_
      refine x_ret (.bool true) (by kernel_rfl) (by kernel_rfl) ?_
      exact ⟨rfl, H.below⟩
    · skip
      have h2p := of_decide_eq_true h2
      refine x_t (by kernel_rfl) ?_
      refine x_seq ?_
      refine x_region ?_
      refine x_val (.bool true) (by kernel_rfl) rfl (by kernel_rfl) ?_
      refine x_nil ?_
      refine x_then ?_
      refine x_retc ?_
      refine x_then_ret ?_
      refine x_ret (.bool true) (by kernel_rfl) (by kernel_rfl) ?_
      exact ⟨rfl, H.below⟩

set_option maxRecDepth 100000 in
set_option maxHeartbeats 4000000 in
theorem stays_yes {r s b o c y z : Int} {pg sn ns : Nat} (hL : Lay r s b o c y z pg sn ns) {C N : Nat} (hC : c = (C : Int)) (hN : (sn : Int) * c = (N : Int)) (home rank : Int) (ad : Option Addr) (nA cA : Nat) (O : List (Int × Int × Int)) (w0 : World) (hO : OpsAt w0 ad nA O) :
    Calls Try.prog 8 #[.agg #[.int .i64 r, .int .i64 s, .int .i64 b, .int .i64 o, .int .i64 c, .int .i64 y, .int .i64 z], .slice ad nA cA, .int .i64 home, .int .i64 rank] w0 fun e w' => e = .returned (.bool true) ∧ Below w0.heap.size w0 w' := by
  refine x_enter Try.func8 rfl #[.agg #[.int .i64 r, .int .i64 s, .int .i64 b, .int .i64 o, .int .i64 c, .int .i64 y, .int .i64 z], .slice ad nA cA, .int .i64 home, .int .i64 rank, undef, undef, undef, undef, undef, undef, undef, undef, undef, undef, undef, undef, undef, undef, undef, undef, undef, undef, undef, undef, undef, undef, undef, undef, undef, undef, undef, undef, undef, undef, undef, undef, undef, undef, undef, undef, undef, undef, undef, undef, undef, undef, undef, undef, undef, undef, undef, undef, undef, undef, undef, undef, undef, undef, undef, undef, undef, undef, undef, undef, undef, undef, undef, undef, undef, undef, undef, undef, undef, undef, undef, undef, undef, undef, undef, undef, undef, undef, undef, undef, undef, undef, undef, undef, undef, undef, undef, undef, undef, undef, undef, undef, undef, undef, undef, undef, undef, undef, undef, undef, undef, undef, undef, undef, undef, undef, undef, undef, undef, undef, undef, undef, undef, undef, undef, undef, undef, undef, undef, undef, undef, undef, undef, undef, undef, undef, undef, undef, undef, undef, undef, undef, undef, undef, undef, undef, undef, undef, undef, undef, undef, undef, undef, undef, undef, undef, undef, undef, undef, undef, undef, undef, undef, undef, undef, undef, undef, undef, undef, undef, undef, undef, undef, undef, undef, undef, undef, undef, undef, undef, undef, undef, undef, undef, undef, undef, undef, undef, undef, undef, undef, undef, undef, undef, undef, undef, undef, undef, undef, undef, undef, undef, undef, undef, undef] (by kernel_rfl) ?_
  have H := Hs.nil w0
  have hok := hL.ok
  obtain ⟨-, r1, r8, s0, s8, b1, b2, o1, o2, c1, c2, y0, y4, z0, z2, hpg, hsn, hns, sn1, pg2, ln0, ln2⟩ := id hL
  refine x_seq ?_
  refine x_region ?_
  refine x_box H #[.int .i64 r, .int .i64 s, .int .i64 b, .int .i64 o, .int .i64 c, .int .i64 y, .int .i64 z] 69 (by kernel_rfl) rfl (by kernel_rfl) ?_
  clear H
  intro v1 g1 H
  refine x_val (.bool false) (by kernel_rfl) rfl (by kernel_rfl) ?_
  refine x_nil ?_
  refine x_then ?_
  refine x_seq ?_
  refine x_seq ?_
  refine x_region ?_
  refine x_callB (.bool true) H (by kernel_rfl) rfl (by kernel_rfl) (anchor19 _) ?_
  clear H
  intro v2 H
  refine x_val (.bool false) (by kernel_rfl) rfl (by kernel_rfl) ?_
  refine x_nil ?_
  refine x_then ?_
  refine x_f (by kernel_rfl) ?_
  refine x_skipc ?_
  refine x_then ?_
  refine x_seq ?_
  refine x_seq ?_
  refine x_region ?_
  refine x_loadn (t := 69) H 0 g1 0 #[.int .i64 r, .int .i64 s, .int .i64 b, .int .i64 o, .int .i64 c, .int .i64 y, .int .i64 z] 69 [.int .i64 r, .int .i64 s, .int .i64 b, .int .i64 o, .int .i64 c, .int .i64 y, .int .i64 z] (by kernel_rfl) (by kernel_rfl) (by kernel_rfl) rfl (by kernel_rfl) (by kernel_rfl) ?_
  refine x_call (by kernel_rfl) rfl (by kernel_rfl) (small_any r s b o c y z (by omega) (by omega) (by omega) (by omega) _) ?_
  rintro _ v3 ⟨tS, rfl, hB⟩
  refine ⟨_, rfl, ?_⟩
  replace H := H.via hB
  clear hB
  refine x_val (.bool (!tS)) (by kernel_rfl) rfl (by kernel_rfl) ?_
  refine x_val (.bool (!tS)) (by kernel_rfl) rfl (by kernel_rfl) ?_
  cases h1 : tS
  · skip
    refine x_skip (by kernel_rfl) ?_
    refine x_skip (by kernel_rfl) ?_
    refine x_skip (by kernel_rfl) ?_
    refine x_val (.bool true) (by kernel_rfl) rfl (by kernel_rfl) ?_
    refine x_nil ?_
    refine x_then ?_
    refine x_t (by kernel_rfl) ?_
    refine x_seq ?_
    refine x_region ?_
    refine x_val (.bool true) (by kernel_rfl) rfl (by kernel_rfl) ?_
    refine x_nil ?_
    refine x_then ?_
    refine x_retc ?_
    refine x_then_ret ?_
    refine x_ret (.bool true) (by kernel_rfl) (by kernel_rfl) ?_
    exact ⟨rfl, H.below⟩
  · skip
    refine x_val (.slice ad nA cA) (by kernel_rfl) rfl (by kernel_rfl) ?_
    refine x_val (.int .i64 ((nA : Nat) : Int)) (by kernel_rfl) rfl (by kernel_rfl) ?_
    refine x_val (.bool (decide (20 < ((nA : Nat) : Int)))) (by kernel_rfl) rfl (by kernel_rfl) ?_
    refine x_val (.bool (decide (20 < ((nA : Nat) : Int)))) (by kernel_rfl) rfl (by kernel_rfl) ?_
    refine x_nil ?_
    refine x_then ?_
    cases h2 : decide (20 < ((nA : Nat) : Int))
    · skip
      have h2p := of_decide_eq_false h2
      refine x_f (by kernel_rfl) ?_
      refine x_skipc ?_
      refine x_then ?_
      refine x_seq ?_
      refine x_region ?_
      refine x_loadn (t := 69) H 0 g1 0 #[.int .i64 r, .int .i64 s, .int .i64 b, .int .i64 o, .int .i64 c, .int .i64 y, .int .i64 z] 69 [.int .i64 r, .int .i64 s, .int .i64 b, .int .i64 o, .int .i64 c, .int .i64 y, .int .i64 z] (by kernel_rfl) (by kernel_rfl) (by kernel_rfl) rfl (by kernel_rfl) (by kernel_rfl) ?_
      refine x_call (by kernel_rfl) rfl (by kernel_rfl) (New_yes hL _) ?_
      rintro _ v4 ⟨p, gl, cl, gd, cd, gs, cs, rfl, hN'⟩
      refine ⟨_, rfl, ?_⟩
      replace H := H.more hN'
      clear hN'
      replace H : Hs [] w0 _ [.blk p #[.int .i64 r, .int .i64 s, .int .i64 b, .int .i64 o, .int .i64 c, .int .i64 y, .int .i64 z, .slice (some ⟨gl, 0, none⟩) sn cl, .slice (some ⟨gd, 0, none⟩) pg cd, .slice (some ⟨gs, 0, none⟩) ns cs, .int .i64 ((0 : Nat) : Int), .int .i64 ((0 : Nat) : Int)] 181, .row (.slice (some ⟨gl, 0, none⟩) sn cl) 3 1 sn (List.map (Value.int .i64) (iota sn)), .row (.slice (some ⟨gd, 0, none⟩) pg cd) 4 1 pg (List.map Value.bool (List.replicate pg false)), .row (.slice (some ⟨gs, 0, none⟩) ns cs) 3 1 ns (List.map (Value.int .i64) (List.replicate ns (-1))), .blk g1 #[.int .i64 r, .int .i64 s, .int .i64 b, .int .i64 o, .int .i64 c, .int .i64 y, .int .i64 z] 69] := H
      refine x_val (.tuple #[.pointer (some ⟨p, 0, none⟩), .int .i64 0]) (by kernel_rfl) rfl (by kernel_rfl) ?_
      refine x_val (.pointer (some ⟨p, 0, none⟩)) (by kernel_rfl) rfl (by kernel_rfl) ?_
      refine x_val (.int .i64 0) (by kernel_rfl) rfl (by kernel_rfl) ?_
      refine x_val (.pointer (some ⟨p, 0, none⟩)) (by kernel_rfl) rfl (by kernel_rfl) ?_
      refine x_val (.int .i64 0) (by kernel_rfl) rfl (by kernel_rfl) ?_
      refine x_nil ?_
      refine x_then ?_
      refine x_seq ?_
      refine x_seq ?_
      refine x_region ?_
      refine x_val (.int .i64 0) (by kernel_rfl) rfl (by kernel_rfl) ?_
      refine x_val (.bool false) (by kernel_rfl) rfl (by kernel_rfl) ?_
      refine x_val (.bool false) (by kernel_rfl) rfl (by kernel_rfl) ?_
      refine x_val (.pointer (some ⟨p, 0, none⟩)) (by kernel_rfl) rfl (by kernel_rfl) ?_
      refine x_val (.bool false) (by kernel_rfl) rfl (by kernel_rfl) ?_
      refine x_val (.bool false) (by kernel_rfl) rfl (by kernel_rfl) ?_
      refine x_nil ?_
      refine x_then ?_
      refine x_f (by kernel_rfl) ?_
      refine x_skipc ?_
      refine x_then ?_
      refine x_seq ?_
      refine x_seq ?_
      refine x_region ?_
      refine x_val (.slice ad nA cA) (by kernel_rfl) rfl (by kernel_rfl) ?_
      refine x_val (.int .i64 ((nA : Nat) : Int)) (by kernel_rfl) rfl (by kernel_rfl) ?_
      refine x_val (.int .i64 0) (by kernel_rfl) rfl (by kernel_rfl) ?_
      refine x_nil ?_
      refine x_then ?_
      refine x_block ?_
      refine x_loop (G := Nat × List Int × List Bool × Nat) (fun gh a w' => match gh with | (k, L, D, pu) => ∃ u12 : Value, ∃ u13 : Value, ∃ u14 : Value, ∃ u55 : Value, ∃ u56 : Value, ∃ u57 : Value, ∃ u58 : Value, ∃ u59 : Value, ∃ u60 : Value, ∃ u61 : Value, ∃ u62 : Value, ∃ u63 : Value, ∃ u64 : Value, ∃ u65 : Value, ∃ u66 : Value, ∃ u67 : Value, ∃ u68 : Value, ∃ u69 : Value, ∃ u70 : Value, ∃ u71 : Value, ∃ u72 : Value, ∃ u73 : Value, ∃ u74 : Value, ∃ u75 : Value, ∃ u76 : Value, ∃ u77 : Value, ∃ u78 : Value, ∃ u79 : Value, ∃ u80 : Value, ∃ u81 : Value, ∃ u82 : Value, a = { tmps := #[.agg #[.int .i64 r, .int .i64 s, .int .i64 b, .int .i64 o, .int .i64 c, .int .i64 y, .int .i64 z], .slice ad nA cA, .int .i64 home, .int .i64 rank, .pointer (some ⟨g1, 0, none⟩), undef, undef, undef, .bool false, .pointer (some ⟨p, 0, none⟩), .int .i64 0, undef, u12, u13, u14, undef, undef, undef, undef, undef, undef, undef, undef, undef, undef, undef, undef, undef, undef, .bool true, .bool false, .agg #[.int .i64 r, .int .i64 s, .int .i64 b, .int .i64 o, .int .i64 c, .int .i64 y, .int .i64 z], .bool true, .bool false, .bool false, .slice ad nA cA, .int .i64 ((nA : Nat) : Int), .bool false, .bool false, .tuple #[.pointer (some ⟨p, 0, none⟩), .int .i64 0], .agg #[.int .i64 r, .int .i64 s, .int .i64 b, .int .i64 o, .int .i64 c, .int .i64 y, .int .i64 z], .tuple #[.pointer (some ⟨p, 0, none⟩), .int .i64 0], .pointer (some ⟨p, 0, none⟩), .int .i64 0, .int .i64 0, .bool false, .bool false, .pointer (some ⟨p, 0, none⟩), .bool false, .bool false, undef, undef, .slice ad nA cA, .int .i64 ((nA : Nat) : Int), .int .i64 ((k : Nat) : Int), u55, u56, u57, u58, u59, u60, u61, u62, u63, u64, u65, u66, u67, u68, u69, u70, u71, u72, u73, u74, u75, u76, u77, u78, u79, u80, u81, u82, undef, undef, undef, undef, undef, undef, undef, undef, undef, undef, undef, undef, undef, undef, undef, undef, undef, undef, undef, undef, undef, undef, undef, undef, undef, undef, undef, undef, undef, undef, undef, undef, undef, undef, undef, undef, undef, undef, undef, undef, undef, undef, undef, undef, undef, undef, undef, undef, undef, undef, undef, undef, undef, undef, undef, undef, undef, undef, undef, undef, undef, undef, undef, undef, undef, undef, undef, undef, undef, undef, undef, undef, undef, undef, undef, undef, undef, undef, undef, undef, undef, undef, undef, undef, undef, undef, undef, undef, undef, undef, undef, undef, undef, undef, undef, undef, undef, undef, undef, undef, undef, undef, undef, undef, undef, undef, undef, undef, undef, undef, undef, undef, undef, undef, undef, undef], defers := [] } ∧ Hs [] w0 w' [.blk p #[.int .i64 r, .int .i64 s, .int .i64 b, .int .i64 o, .int .i64 c, .int .i64 y, .int .i64 z, .slice (some ⟨gl, 0, none⟩) sn cl, .slice (some ⟨gd, 0, none⟩) pg cd, .slice (some ⟨gs, 0, none⟩) ns cs, .int .i64 ((pu : Nat) : Int), .int .i64 ((0 : Nat) : Int)] 181, .row (.slice (some ⟨gl, 0, none⟩) sn cl) 3 1 sn (List.map (Value.int .i64) L), .row (.slice (some ⟨gd, 0, none⟩) pg cd) 4 1 pg (List.map Value.bool D), .row (.slice (some ⟨gs, 0, none⟩) ns cs) 3 1 ns (List.map (Value.int .i64) (List.replicate ns (-1))), .blk g1 #[.int .i64 r, .int .i64 s, .int .i64 b, .int .i64 o, .int .i64 c, .int .i64 y, .int .i64 z] 69] ∧ (k ≤ nA) ∧ (Stay z sn pg L D pu)) (fun gh => match gh with | (k, L, D, pu) => nA - k) (0, (iota sn), (List.replicate pg false), 0) ⟨undef, undef, undef, undef, undef, undef, undef, undef, undef, undef, undef, undef, undef, undef, undef, undef, undef, undef, undef, undef, undef, undef, undef, undef, undef, undef, undef, undef, undef, undef, undef, (by kernel_rfl), H, (Nat.zero_le _), (Stay.init sn pg z0)⟩ ?_
      clear H
      rintro ⟨k, L, D, pu⟩ _ v5 ⟨u12, u13, u14, u55, u56, u57, u58, u59, u60, u61, u62, u63, u64, u65, u66, u67, u68, u69, u70, u71, u72, u73, u74, u75, u76, u77, u78, u79, u80, u81, u82, rfl, H, r1, r2⟩
      have St := r2
      have eP := St.hp
      refine x_seq ?_
      refine x_region ?_
      refine x_val (.bool (decide (((k : Nat) : Int) < ((nA : Nat) : Int)))) (by kernel_rfl) rfl (by kernel_rfl) ?_
      refine x_nil ?_
      refine x_then ?_
      refine x_seq ?_
      cases h3 : decide (((k : Nat) : Int) < ((nA : Nat) : Int))
      · skip
        have h3p := of_decide_eq_false h3
        refine x_f (by kernel_rfl) ?_
        refine x_exit ?_
        refine x_then_exit ?_
        refine x_then_exit ?_
        refine x_blk_exit ?_
        refine x_then ?_
        refine x_seq ?_
        refine x_region ?_
        refine x_val (.pointer (some ⟨p, 0, none⟩)) (by kernel_rfl) rfl (by kernel_rfl) ?_
        refine x_call (by kernel_rfl) rfl (by kernel_rfl) (indices_w hL (St.mok (s := s) s0 ns) hC hN (fun k hk => by have := St.lv k hk; have := St.hp; omega) (fun q hq => .inl (rep_none hq)) _ (H.roOf [0, 1, 2, 3] [.blk p #[.int .i64 r, .int .i64 s, .int .i64 b, .int .i64 o, .int .i64 c, .int .i64 y, .int .i64 z, .slice (some ⟨gl, 0, none⟩) sn cl, .slice (some ⟨gd, 0, none⟩) pg cd, .slice (some ⟨gs, 0, none⟩) ns cs, .int .i64 ((pu : Nat) : Int), .int .i64 ((0 : Nat) : Int)] 181, .row (.slice (some ⟨gl, 0, none⟩) sn cl) 3 1 sn (List.map (Value.int .i64) L), .row (.slice (some ⟨gd, 0, none⟩) pg cd) 4 1 pg (List.map Value.bool D), .row (.slice (some ⟨gs, 0, none⟩) ns cs) 3 1 ns (List.map (Value.int .i64) (List.replicate ns (-1)))] (by kernel_rfl))) ?_
        rintro _ v6 ⟨g2, c2, rfl, hX⟩
        refine ⟨_, rfl, ?_⟩
        replace H := H.more hX
        clear hX
        replace H : Hs [] w0 _ [.row (.slice (some ⟨g2, 0, none⟩) N c2) 3 1 N (List.map (Value.int .i64) (idxs y r b o (List.replicate ns (-1)) L C N)), .blk p #[.int .i64 r, .int .i64 s, .int .i64 b, .int .i64 o, .int .i64 c, .int .i64 y, .int .i64 z, .slice (some ⟨gl, 0, none⟩) sn cl, .slice (some ⟨gd, 0, none⟩) pg cd, .slice (some ⟨gs, 0, none⟩) ns cs, .int .i64 ((pu : Nat) : Int), .int .i64 ((0 : Nat) : Int)] 181, .row (.slice (some ⟨gl, 0, none⟩) sn cl) 3 1 sn (List.map (Value.int .i64) L), .row (.slice (some ⟨gd, 0, none⟩) pg cd) 4 1 pg (List.map Value.bool D), .row (.slice (some ⟨gs, 0, none⟩) ns cs) 3 1 ns (List.map (Value.int .i64) (List.replicate ns (-1))), .blk g1 #[.int .i64 r, .int .i64 s, .int .i64 b, .int .i64 o, .int .i64 c, .int .i64 y, .int .i64 z] 69] := H
        refine x_val (.slice (some ⟨g2, 0, none⟩) N c2) (by kernel_rfl) rfl (by kernel_rfl) ?_
        refine x_nil ?_
        refine x_then ?_
        refine x_seq ?_
        refine x_region ?_
        refine x_val (.pointer (some ⟨p, 0, none⟩)) (by kernel_rfl) rfl (by kernel_rfl) ?_
        cases h4 : decide (((pu : Nat) : Int) = z)
        · skip
          have h4p := of_decide_eq_false h4
          refine x_callB (.tuple #[.int .i64 (((sn : Nat) : Int) + ((pu : Nat) : Int)), .bool true]) H (by kernel_rfl) rfl (by kernel_rfl) (FreePage_yes hL (St.mok (s := s) s0 ns) (by omega) _ (H.roOf [1, 2, 3, 4] [.blk p #[.int .i64 r, .int .i64 s, .int .i64 b, .int .i64 o, .int .i64 c, .int .i64 y, .int .i64 z, .slice (some ⟨gl, 0, none⟩) sn cl, .slice (some ⟨gd, 0, none⟩) pg cd, .slice (some ⟨gs, 0, none⟩) ns cs, .int .i64 ((pu : Nat) : Int), .int .i64 ((0 : Nat) : Int)] 181, .row (.slice (some ⟨gl, 0, none⟩) sn cl) 3 1 sn (List.map (Value.int .i64) L), .row (.slice (some ⟨gd, 0, none⟩) pg cd) 4 1 pg (List.map Value.bool D), .row (.slice (some ⟨gs, 0, none⟩) ns cs) 3 1 ns (List.map (Value.int .i64) (List.replicate ns (-1)))] (by kernel_rfl))) ?_
          clear H
          intro v7 H
          refine x_val (.tuple #[.int .i64 (((sn : Nat) : Int) + ((pu : Nat) : Int)), .bool true]) (by kernel_rfl) rfl (by kernel_rfl) ?_
          refine x_val (.int .i64 (((sn : Nat) : Int) + ((pu : Nat) : Int))) (by kernel_rfl) rfl (by kernel_rfl) ?_
          refine x_val (.bool true) (by kernel_rfl) rfl (by kernel_rfl) ?_
          refine x_val (.int .i64 (((sn : Nat) : Int) + ((pu : Nat) : Int))) (by kernel_rfl) rfl (by kernel_rfl) ?_
          refine x_val (.bool true) (by kernel_rfl) rfl (by kernel_rfl) ?_
          refine x_nil ?_
          refine x_then ?_
          refine x_seq ?_
          refine x_seq ?_
          refine x_region ?_
          refine x_val (.bool true) (by kernel_rfl) rfl (by kernel_rfl) ?_
          refine x_val (.bool true) (by kernel_rfl) rfl (by kernel_rfl) ?_
          refine x_val (.pointer (some ⟨p, 0, none⟩)) (by kernel_rfl) rfl (by kernel_rfl) ?_
          refine x_val (.int .i64 home) (by kernel_rfl) rfl (by kernel_rfl) ?_
          refine x_callB (.bool (usedB sn pu D home)) H (by kernel_rfl) rfl (by kernel_rfl) (Used_at hL St home _ (H.roOf [1, 2, 3, 4] [.blk p #[.int .i64 r, .int .i64 s, .int .i64 b, .int .i64 o, .int .i64 c, .int .i64 y, .int .i64 z, .slice (some ⟨gl, 0, none⟩) sn cl, .slice (some ⟨gd, 0, none⟩) pg cd, .slice (some ⟨gs, 0, none⟩) ns cs, .int .i64 ((pu : Nat) : Int), .int .i64 ((0 : Nat) : Int)] 181, .row (.slice (some ⟨gl, 0, none⟩) sn cl) 3 1 sn (List.map (Value.int .i64) L), .row (.slice (some ⟨gd, 0, none⟩) pg cd) 4 1 pg (List.map Value.bool D), .row (.slice (some ⟨gs, 0, none⟩) ns cs) 3 1 ns (List.map (Value.int .i64) (List.replicate ns (-1)))] (by kernel_rfl))) ?_
          clear H
          intro v8 H
          refine x_val (.bool (usedB sn pu D home)) (by kernel_rfl) rfl (by kernel_rfl) ?_
          refine x_nil ?_
          refine x_then ?_
          cases h5 : usedB sn pu D home
          · skip
            refine x_f (by kernel_rfl) ?_
            refine x_skipc ?_
            refine x_then ?_
            refine x_seq ?_
            refine x_region ?_
            refine x_val (.pointer (some ⟨p, 0, none⟩)) (by kernel_rfl) rfl (by kernel_rfl) ?_
            refine x_call (by kernel_rfl) rfl (by kernel_rfl) (indices_w hL (St.mok (s := s) s0 ns) hC hN (fun k hk => by have := St.lv k hk; have := St.hp; omega) (fun q hq => .inl (rep_none hq)) _ (H.roOf [1, 2, 3, 4] [.blk p #[.int .i64 r, .int .i64 s, .int .i64 b, .int .i64 o, .int .i64 c, .int .i64 y, .int .i64 z, .slice (some ⟨gl, 0, none⟩) sn cl, .slice (some ⟨gd, 0, none⟩) pg cd, .slice (some ⟨gs, 0, none⟩) ns cs, .int .i64 ((pu : Nat) : Int), .int .i64 ((0 : Nat) : Int)] 181, .row (.slice (some ⟨gl, 0, none⟩) sn cl) 3 1 sn (List.map (Value.int .i64) L), .row (.slice (some ⟨gd, 0, none⟩) pg cd) 4 1 pg (List.map Value.bool D), .row (.slice (some ⟨gs, 0, none⟩) ns cs) 3 1 ns (List.map (Value.int .i64) (List.replicate ns (-1)))] (by kernel_rfl))) ?_
            rintro _ v9 ⟨g3, c3, rfl, hX⟩
            refine ⟨_, rfl, ?_⟩
            replace H := H.more hX
            clear hX
            replace H : Hs [] w0 _ [.row (.slice (some ⟨g3, 0, none⟩) N c3) 3 1 N (List.map (Value.int .i64) (idxs y r b o (List.replicate ns (-1)) L C N)), .row (.slice (some ⟨g2, 0, none⟩) N c2) 3 1 N (List.map (Value.int .i64) (idxs y r b o (List.replicate ns (-1)) L C N)), .blk p #[.int .i64 r, .int .i64 s, .int .i64 b, .int .i64 o, .int .i64 c, .int .i64 y, .int .i64 z, .slice (some ⟨gl, 0, none⟩) sn cl, .slice (some ⟨gd, 0, none⟩) pg cd, .slice (some ⟨gs, 0, none⟩) ns cs, .int .i64 ((pu : Nat) : Int), .int .i64 ((0 : Nat) : Int)] 181, .row (.slice (some ⟨gl, 0, none⟩) sn cl) 3 1 sn (List.map (Value.int .i64) L), .row (.slice (some ⟨gd, 0, none⟩) pg cd) 4 1 pg (List.map Value.bool D), .row (.slice (some ⟨gs, 0, none⟩) ns cs) 3 1 ns (List.map (Value.int .i64) (List.replicate ns (-1))), .blk g1 #[.int .i64 r, .int .i64 s, .int .i64 b, .int .i64 o, .int .i64 c, .int .i64 y, .int .i64 z] 69] := H
            refine x_val (.slice (some ⟨g3, 0, none⟩) N c3) (by kernel_rfl) rfl (by kernel_rfl) ?_
            refine x_nil ?_
            refine x_then ?_
            refine x_seq ?_
            refine x_seq ?_
            refine x_region ?_
            refine x_val (.pointer (some ⟨p, 0, none⟩)) (by kernel_rfl) rfl (by kernel_rfl) ?_
            cases h6 : decide (((0 : Nat) : Int) = s)
            · skip
              have h6p := of_decide_eq_false h6
              refine x_callH (.tuple #[.int .i64 (r + ((0 : Nat) : Int)), .int .i64 0]) [.blk p #[.int .i64 r, .int .i64 s, .int .i64 b, .int .i64 o, .int .i64 c, .int .i64 y, .int .i64 z, .slice (some ⟨gl, 0, none⟩) sn cl, .slice (some ⟨gd, 0, none⟩) pg cd, .slice (some ⟨gs, 0, none⟩) ns cs, .int .i64 ((pu : Nat) : Int), .int .i64 (((0 + 1) : Nat) : Int)] 181, .row (.slice (some ⟨gl, 0, none⟩) sn cl) 3 1 sn (List.map (Value.int .i64) L), .row (.slice (some ⟨gd, 0, none⟩) pg cd) 4 1 pg (List.map Value.bool D), .row (.slice (some ⟨gs, 0, none⟩) ns cs) 3 1 ns (List.map (Value.int .i64) (List.replicate ns (-1))), .row (.slice (some ⟨g3, 0, none⟩) N c3) 3 1 N (List.map (Value.int .i64) (idxs y r b o (List.replicate ns (-1)) L C N)), .row (.slice (some ⟨g2, 0, none⟩) N c2) 3 1 N (List.map (Value.int .i64) (idxs y r b o (List.replicate ns (-1)) L C N)), .blk g1 #[.int .i64 r, .int .i64 s, .int .i64 b, .int .i64 o, .int .i64 c, .int .i64 y, .int .i64 z] 69] (by kernel_rfl) rfl (by kernel_rfl) (Hs.use (A := [.blk p #[.int .i64 r, .int .i64 s, .int .i64 b, .int .i64 o, .int .i64 c, .int .i64 y, .int .i64 z, .slice (some ⟨gl, 0, none⟩) sn cl, .slice (some ⟨gd, 0, none⟩) pg cd, .slice (some ⟨gs, 0, none⟩) ns cs, .int .i64 ((pu : Nat) : Int), .int .i64 ((0 : Nat) : Int)] 181, .row (.slice (some ⟨gl, 0, none⟩) sn cl) 3 1 sn (List.map (Value.int .i64) L), .row (.slice (some ⟨gd, 0, none⟩) pg cd) 4 1 pg (List.map Value.bool D), .row (.slice (some ⟨gs, 0, none⟩) ns cs) 3 1 ns (List.map (Value.int .i64) (List.replicate ns (-1)))]) (R := [.row (.slice (some ⟨g3, 0, none⟩) N c3) 3 1 N (List.map (Value.int .i64) (idxs y r b o (List.replicate ns (-1)) L C N)), .row (.slice (some ⟨g2, 0, none⟩) N c2) 3 1 N (List.map (Value.int .i64) (idxs y r b o (List.replicate ns (-1)) L C N)), .blk g1 #[.int .i64 r, .int .i64 s, .int .i64 b, .int .i64 o, .int .i64 c, .int .i64 y, .int .i64 z] 69]) (H.pick [2, 3, 4, 5, 0, 1, 6] _ (by decide) (by kernel_rfl)) (fun h => TakeSpare_yes hL (St.mok (s := s) s0 ns) (by omega) _ h)) ?_
              clear H
              intro v10 H
              refine x_val (.tuple #[.int .i64 (r + ((0 : Nat) : Int)), .int .i64 0]) (by kernel_rfl) rfl (by kernel_rfl) ?_
              refine x_val (.int .i64 (r + ((0 : Nat) : Int))) (by kernel_rfl) rfl (by kernel_rfl) ?_
              refine x_val (.int .i64 0) (by kernel_rfl) rfl (by kernel_rfl) ?_
              refine x_val (.int .i64 (r + ((0 : Nat) : Int))) (by kernel_rfl) rfl (by kernel_rfl) ?_
              refine x_val (.int .i64 0) (by kernel_rfl) rfl (by kernel_rfl) ?_
              refine x_nil ?_
              refine x_then ?_
              refine x_seq ?_
              refine x_region ?_
              refine x_val (.int .i64 0) (by kernel_rfl) rfl (by kernel_rfl) ?_
              refine x_val (.bool true) (by kernel_rfl) rfl (by kernel_rfl) ?_
              refine x_val (.bool true) (by kernel_rfl) rfl (by kernel_rfl) ?_
              refine x_val (.pointer (some ⟨p, 0, none⟩)) (by kernel_rfl) rfl (by kernel_rfl) ?_
              refine x_val (.int .i64 rank) (by kernel_rfl) rfl (by kernel_rfl) ?_
              refine x_val (.int .i64 (r + ((0 : Nat) : Int))) (by kernel_rfl) rfl (by kernel_rfl) ?_
              cases h7 : decide (0 ≤ rank) && decide (rank < ((ns : Nat) : Int))
              · skip
                have hM1 : MapOk z s sn pg ns _ _ (List.replicate ns (-1)) _ (0 + 1) := ⟨St.hL, St.hD, List.length_replicate, St.hp, by omega⟩
                refine x_callH (.int .i64 12) [.blk p #[.int .i64 r, .int .i64 s, .int .i64 b, .int .i64 o, .int .i64 c, .int .i64 y, .int .i64 z, .slice (some ⟨gl, 0, none⟩) sn cl, .slice (some ⟨gd, 0, none⟩) pg cd, .slice (some ⟨gs, 0, none⟩) ns cs, .int .i64 ((pu : Nat) : Int), .int .i64 (((0 + 1) : Nat) : Int)] 181, .row (.slice (some ⟨gl, 0, none⟩) sn cl) 3 1 sn (List.map (Value.int .i64) L), .row (.slice (some ⟨gd, 0, none⟩) pg cd) 4 1 pg (List.map Value.bool D), .row (.slice (some ⟨gs, 0, none⟩) ns cs) 3 1 ns (List.map (Value.int .i64) (List.replicate ns (-1))), .row (.slice (some ⟨g3, 0, none⟩) N c3) 3 1 N (List.map (Value.int .i64) (idxs y r b o (List.replicate ns (-1)) L C N)), .row (.slice (some ⟨g2, 0, none⟩) N c2) 3 1 N (List.map (Value.int .i64) (idxs y r b o (List.replicate ns (-1)) L C N)), .blk g1 #[.int .i64 r, .int .i64 s, .int .i64 b, .int .i64 o, .int .i64 c, .int .i64 y, .int .i64 z] 69] (by kernel_rfl) rfl (by kernel_rfl) (Hs.use (A := [.blk p #[.int .i64 r, .int .i64 s, .int .i64 b, .int .i64 o, .int .i64 c, .int .i64 y, .int .i64 z, .slice (some ⟨gl, 0, none⟩) sn cl, .slice (some ⟨gd, 0, none⟩) pg cd, .slice (some ⟨gs, 0, none⟩) ns cs, .int .i64 ((pu : Nat) : Int), .int .i64 (((0 + 1) : Nat) : Int)] 181, .row (.slice (some ⟨gl, 0, none⟩) sn cl) 3 1 sn (List.map (Value.int .i64) L), .row (.slice (some ⟨gd, 0, none⟩) pg cd) 4 1 pg (List.map Value.bool D), .row (.slice (some ⟨gs, 0, none⟩) ns cs) 3 1 ns (List.map (Value.int .i64) (List.replicate ns (-1)))]) (R := [.row (.slice (some ⟨g3, 0, none⟩) N c3) 3 1 N (List.map (Value.int .i64) (idxs y r b o (List.replicate ns (-1)) L C N)), .row (.slice (some ⟨g2, 0, none⟩) N c2) 3 1 N (List.map (Value.int .i64) (idxs y r b o (List.replicate ns (-1)) L C N)), .blk g1 #[.int .i64 r, .int .i64 s, .int .i64 b, .int .i64 o, .int .i64 c, .int .i64 y, .int .i64 z] 69]) (H.pick [0, 1, 2, 3, 4, 5, 6] _ (by decide) (by kernel_rfl)) (fun h => Replace_out hL hM1 rank (r + ((0 : Nat) : Int)) (by simpa using h7) _ h)) ?_
                clear H
                intro v11 H
                refine x_val (.bool false) (by kernel_rfl) rfl (by kernel_rfl) ?_
                refine x_val (.bool false) (by kernel_rfl) rfl (by kernel_rfl) ?_
                refine x_nil ?_
                refine x_frame' { tmps := #[.agg #[.int .i64 r, .int .i64 s, .int .i64 b, .int .i64 o, .int .i64 c, .int .i64 y, .int .i64 z], .slice ad nA cA, .int .i64 home, .int .i64 rank, .pointer (some ⟨g1, 0, none⟩), undef, undef, undef, .bool false, .pointer (some ⟨p, 0, none⟩), .int .i64 0, undef, u12, u13, u14, .slice (some ⟨g3, 0, none⟩) N c3, .int .i64 (((sn : Nat) : Int) + ((pu : Nat) : Int)), .bool true, undef, undef, undef, undef, undef, undef, .int .i64 (r + ((0 : Nat) : Int)), .int .i64 0, undef, undef, undef, .bool true, .bool false, .agg #[.int .i64 r, .int .i64 s, .int .i64 b, .int .i64 o, .int .i64 c, .int .i64 y, .int .i64 z], .bool true, .bool false, .bool false, .slice ad nA cA, .int .i64 ((nA : Nat) : Int), .bool false, .bool false, .tuple #[.pointer (some ⟨p, 0, none⟩), .int .i64 0], .agg #[.int .i64 r, .int .i64 s, .int .i64 b, .int .i64 o, .int .i64 c, .int .i64 y, .int .i64 z], .tuple #[.pointer (some ⟨p, 0, none⟩), .int .i64 0], .pointer (some ⟨p, 0, none⟩), .int .i64 0, .int .i64 0, .bool false, .bool false, .pointer (some ⟨p, 0, none⟩), .bool false, .bool false, undef, undef, .slice ad nA cA, .int .i64 ((nA : Nat) : Int), .int .i64 ((k : Nat) : Int), .bool false, u56, u57, u58, u59, u60, u61, u62, u63, u64, u65, u66, u67, u68, u69, u70, u71, u72, u73, u74, u75, u76, u77, u78, u79, u80, u81, u82, .pointer (some ⟨p, 0, none⟩), .slice (some ⟨g2, 0, none⟩) N c2, .tuple #[.int .i64 (((sn : Nat) : Int) + ((pu : Nat) : Int)), .bool true], .pointer (some ⟨p, 0, none⟩), .tuple #[.int .i64 (((sn : Nat) : Int) + ((pu : Nat) : Int)), .bool true], .int .i64 (((sn : Nat) : Int) + ((pu : Nat) : Int)), .bool true, .bool true, .bool true, .pointer (some ⟨p, 0, none⟩), .int .i64 home, .bool false, .bool false, undef, undef, undef, undef, undef, undef, undef, undef, undef, undef, undef, undef, undef, undef, undef, undef, undef, undef, undef, undef, undef, undef, undef, undef, undef, undef, undef, undef, undef, undef, undef, undef, undef, undef, undef, undef, undef, undef, undef, undef, undef, undef, undef, undef, undef, .pointer (some ⟨p, 0, none⟩), .slice (some ⟨g3, 0, none⟩) N c3, .tuple #[.int .i64 (r + ((0 : Nat) : Int)), .int .i64 0], .pointer (some ⟨p, 0, none⟩), .tuple #[.int .i64 (r + ((0 : Nat) : Int)), .int .i64 0], .int .i64 (r + ((0 : Nat) : Int)), .int .i64 0, .int .i64 0, .bool true, .bool true, .pointer (some ⟨p, 0, none⟩), .int .i64 rank, .int .i64 (r + ((0 : Nat) : Int)), .int .i64 12, .bool false, .bool false, undef, undef, undef, undef, undef, undef, undef, undef, undef, undef, undef, undef, undef, undef, undef, undef, undef, undef, undef, undef, undef, undef, undef, undef, undef, undef, undef, undef, undef, undef, undef, undef, undef, undef, undef, undef, undef, undef, undef, undef, undef, undef], defers := [] } (by kernel_rfl) ?_
                refine x_then ?_
                refine x_f (by kernel_rfl) ?_
                refine x_skipc ?_
                refine x_then ?_
                refine x_seq ?_
                refine x_region ?_
                refine x_val (.bool true) (by kernel_rfl) rfl (by kernel_rfl) ?_
                refine x_nil ?_
                refine x_then ?_
                refine x_retc ?_
                refine x_ret (.bool true) (by kernel_rfl) (by kernel_rfl) ?_
                exact ⟨rfl, H.below⟩
              · skip
                have hM1 : MapOk z s sn pg ns _ _ (List.replicate ns (-1)) _ (0 + 1) := ⟨St.hL, St.hD, List.length_replicate, St.hp, by omega⟩
                simp only [Bool.and_eq_true, decide_eq_true_eq] at h7
                obtain ⟨qn, eq⟩ := Int.eq_ofNat_of_zero_le h7.1
                have hqn : qn < ns := by omega
                refine x_callH (.int .i64 0) [.blk p #[.int .i64 r, .int .i64 s, .int .i64 b, .int .i64 o, .int .i64 c, .int .i64 y, .int .i64 z, .slice (some ⟨gl, 0, none⟩) sn cl, .slice (some ⟨gd, 0, none⟩) pg cd, .slice (some ⟨gs, 0, none⟩) ns cs, .int .i64 ((pu : Nat) : Int), .int .i64 (((0 + 1) : Nat) : Int)] 181, .row (.slice (some ⟨gl, 0, none⟩) sn cl) 3 1 sn (List.map (Value.int .i64) L), .row (.slice (some ⟨gd, 0, none⟩) pg cd) 4 1 pg (List.map Value.bool D), .row (.slice (some ⟨gs, 0, none⟩) ns cs) 3 1 ns (List.map (Value.int .i64) ((List.replicate ns (-1)).set qn (r + ((0 : Nat) : Int)))), .row (.slice (some ⟨g3, 0, none⟩) N c3) 3 1 N (List.map (Value.int .i64) (idxs y r b o (List.replicate ns (-1)) L C N)), .row (.slice (some ⟨g2, 0, none⟩) N c2) 3 1 N (List.map (Value.int .i64) (idxs y r b o (List.replicate ns (-1)) L C N)), .blk g1 #[.int .i64 r, .int .i64 s, .int .i64 b, .int .i64 o, .int .i64 c, .int .i64 y, .int .i64 z] 69] (by kernel_rfl) rfl (by kernel_rfl) (Hs.use (A := [.blk p #[.int .i64 r, .int .i64 s, .int .i64 b, .int .i64 o, .int .i64 c, .int .i64 y, .int .i64 z, .slice (some ⟨gl, 0, none⟩) sn cl, .slice (some ⟨gd, 0, none⟩) pg cd, .slice (some ⟨gs, 0, none⟩) ns cs, .int .i64 ((pu : Nat) : Int), .int .i64 (((0 + 1) : Nat) : Int)] 181, .row (.slice (some ⟨gl, 0, none⟩) sn cl) 3 1 sn (List.map (Value.int .i64) L), .row (.slice (some ⟨gd, 0, none⟩) pg cd) 4 1 pg (List.map Value.bool D), .row (.slice (some ⟨gs, 0, none⟩) ns cs) 3 1 ns (List.map (Value.int .i64) (List.replicate ns (-1)))]) (R := [.row (.slice (some ⟨g3, 0, none⟩) N c3) 3 1 N (List.map (Value.int .i64) (idxs y r b o (List.replicate ns (-1)) L C N)), .row (.slice (some ⟨g2, 0, none⟩) N c2) 3 1 N (List.map (Value.int .i64) (idxs y r b o (List.replicate ns (-1)) L C N)), .blk g1 #[.int .i64 r, .int .i64 s, .int .i64 b, .int .i64 o, .int .i64 c, .int .i64 y, .int .i64 z] 69]) (H.pick [0, 1, 2, 3, 4, 5, 6] _ (by decide) (by kernel_rfl)) (fun h => Replace_at hL hM1 _ eq (r + ((0 : Nat) : Int)) hqn (by omega) (by omega) (rep_none hqn) _ h)) ?_
                clear H
                intro v12 H
                have hMs : MapOk z s sn pg ns _ _ ((List.replicate ns (-1)).set qn (r + ((0 : Nat) : Int))) _ (0 + 1) := ⟨St.hL, St.hD, by simp, St.hp, by omega⟩
                have hSv : ∀ q, q < ns → ((List.replicate ns (-1)).set qn (r + ((0 : Nat) : Int))).getD q 0 = -1 ∨ (0 ≤ ((List.replicate ns (-1)).set qn (r + ((0 : Nat) : Int))).getD q 0 ∧ ((List.replicate ns (-1)).set qn (r + ((0 : Nat) : Int))).getD q 0 < r + s) := setv (by omega) (by omega)
                refine x_val (.bool true) (by kernel_rfl) rfl (by kernel_rfl) ?_
                refine x_val (.bool true) (by kernel_rfl) rfl (by kernel_rfl) ?_
                refine x_nil ?_
                refine x_frame' { tmps := #[.agg #[.int .i64 r, .int .i64 s, .int .i64 b, .int .i64 o, .int .i64 c, .int .i64 y, .int .i64 z], .slice ad nA cA, .int .i64 home, .int .i64 rank, .pointer (some ⟨g1, 0, none⟩), undef, undef, undef, .bool false, .pointer (some ⟨p, 0, none⟩), .int .i64 0, undef, u12, u13, u14, .slice (some ⟨g3, 0, none⟩) N c3, .int .i64 (((sn : Nat) : Int) + ((pu : Nat) : Int)), .bool true, undef, undef, undef, undef, undef, undef, .int .i64 (r + ((0 : Nat) : Int)), .int .i64 0, undef, undef, undef, .bool true, .bool false, .agg #[.int .i64 r, .int .i64 s, .int .i64 b, .int .i64 o, .int .i64 c, .int .i64 y, .int .i64 z], .bool true, .bool false, .bool false, .slice ad nA cA, .int .i64 ((nA : Nat) : Int), .bool false, .bool false, .tuple #[.pointer (some ⟨p, 0, none⟩), .int .i64 0], .agg #[.int .i64 r, .int .i64 s, .int .i64 b, .int .i64 o, .int .i64 c, .int .i64 y, .int .i64 z], .tuple #[.pointer (some ⟨p, 0, none⟩), .int .i64 0], .pointer (some ⟨p, 0, none⟩), .int .i64 0, .int .i64 0, .bool false, .bool false, .pointer (some ⟨p, 0, none⟩), .bool false, .bool false, undef, undef, .slice ad nA cA, .int .i64 ((nA : Nat) : Int), .int .i64 ((k : Nat) : Int), .bool false, u56, u57, u58, u59, u60, u61, u62, u63, u64, u65, u66, u67, u68, u69, u70, u71, u72, u73, u74, u75, u76, u77, u78, u79, u80, u81, u82, .pointer (some ⟨p, 0, none⟩), .slice (some ⟨g2, 0, none⟩) N c2, .tuple #[.int .i64 (((sn : Nat) : Int) + ((pu : Nat) : Int)), .bool true], .pointer (some ⟨p, 0, none⟩), .tuple #[.int .i64 (((sn : Nat) : Int) + ((pu : Nat) : Int)), .bool true], .int .i64 (((sn : Nat) : Int) + ((pu : Nat) : Int)), .bool true, .bool true, .bool true, .pointer (some ⟨p, 0, none⟩), .int .i64 home, .bool false, .bool false, undef, undef, undef, undef, undef, undef, undef, undef, undef, undef, undef, undef, undef, undef, undef, undef, undef, undef, undef, undef, undef, undef, undef, undef, undef, undef, undef, undef, undef, undef, undef, undef, undef, undef, undef, undef, undef, undef, undef, undef, undef, undef, undef, undef, undef, .pointer (some ⟨p, 0, none⟩), .slice (some ⟨g3, 0, none⟩) N c3, .tuple #[.int .i64 (r + ((0 : Nat) : Int)), .int .i64 0], .pointer (some ⟨p, 0, none⟩), .tuple #[.int .i64 (r + ((0 : Nat) : Int)), .int .i64 0], .int .i64 (r + ((0 : Nat) : Int)), .int .i64 0, .int .i64 0, .bool true, .bool true, .pointer (some ⟨p, 0, none⟩), .int .i64 rank, .int .i64 (r + ((0 : Nat) : Int)), .int .i64 0, .bool true, .bool true, undef, undef, undef, undef, undef, undef, undef, undef, undef, undef, undef, undef, undef, undef, undef, undef, undef, undef, undef, undef, undef, undef, undef, undef, undef, undef, undef, undef, undef, undef, undef, undef, undef, undef, undef, undef, undef, undef, undef, undef, undef, undef], defers := [] } (by kernel_rfl) ?_
                refine x_then ?_
                refine x_t (by kernel_rfl) ?_
                refine x_seq ?_
                refine x_region ?_
                refine x_val (.pointer (some ⟨p, 0, none⟩)) (by kernel_rfl) rfl (by kernel_rfl) ?_
                refine x_call (by kernel_rfl) rfl (by kernel_rfl) (indices_w hL hMs hC hN (fun k hk => by have := St.lv k hk; have := St.hp; omega) hSv _ (H.roOf [0, 1, 2, 3] [.blk p #[.int .i64 r, .int .i64 s, .int .i64 b, .int .i64 o, .int .i64 c, .int .i64 y, .int .i64 z, .slice (some ⟨gl, 0, none⟩) sn cl, .slice (some ⟨gd, 0, none⟩) pg cd, .slice (some ⟨gs, 0, none⟩) ns cs, .int .i64 ((pu : Nat) : Int), .int .i64 (((0 + 1) : Nat) : Int)] 181, .row (.slice (some ⟨gl, 0, none⟩) sn cl) 3 1 sn (List.map (Value.int .i64) L), .row (.slice (some ⟨gd, 0, none⟩) pg cd) 4 1 pg (List.map Value.bool D), .row (.slice (some ⟨gs, 0, none⟩) ns cs) 3 1 ns (List.map (Value.int .i64) ((List.replicate ns (-1)).set qn (r + ((0 : Nat) : Int))))] (by kernel_rfl))) ?_
                rintro _ v13 ⟨g4, c4, rfl, hX⟩
                refine ⟨_, rfl, ?_⟩
                replace H := H.more hX
                clear hX
                replace H : Hs [] w0 _ [.row (.slice (some ⟨g4, 0, none⟩) N c4) 3 1 N (List.map (Value.int .i64) (idxs y r b o ((List.replicate ns (-1)).set qn (r + ((0 : Nat) : Int))) L C N)), .blk p #[.int .i64 r, .int .i64 s, .int .i64 b, .int .i64 o, .int .i64 c, .int .i64 y, .int .i64 z, .slice (some ⟨gl, 0, none⟩) sn cl, .slice (some ⟨gd, 0, none⟩) pg cd, .slice (some ⟨gs, 0, none⟩) ns cs, .int .i64 ((pu : Nat) : Int), .int .i64 (((0 + 1) : Nat) : Int)] 181, .row (.slice (some ⟨gl, 0, none⟩) sn cl) 3 1 sn (List.map (Value.int .i64) L), .row (.slice (some ⟨gd, 0, none⟩) pg cd) 4 1 pg (List.map Value.bool D), .row (.slice (some ⟨gs, 0, none⟩) ns cs) 3 1 ns (List.map (Value.int .i64) ((List.replicate ns (-1)).set qn (r + ((0 : Nat) : Int)))), .row (.slice (some ⟨g3, 0, none⟩) N c3) 3 1 N (List.map (Value.int .i64) (idxs y r b o (List.replicate ns (-1)) L C N)), .row (.slice (some ⟨g2, 0, none⟩) N c2) 3 1 N (List.map (Value.int .i64) (idxs y r b o (List.replicate ns (-1)) L C N)), .blk g1 #[.int .i64 r, .int .i64 s, .int .i64 b, .int .i64 o, .int .i64 c, .int .i64 y, .int .i64 z] 69] := H
                refine x_val (.int .i64 ((N : Nat) : Int)) (by kernel_rfl) rfl (by kernel_rfl) ?_
                refine x_val (.int .i64 0) (by kernel_rfl) rfl (by kernel_rfl) ?_
                refine x_nil ?_
                refine x_then ?_
                refine x_block ?_
                refine x_loop (G := Nat) (fun (m : Nat) a w' => ∃ u8 : Value, ∃ u26 : Value, ∃ u27 : Value, ∃ u28 : Value, ∃ u161 : Value, ∃ u162 : Value, ∃ u163 : Value, ∃ u164 : Value, ∃ u165 : Value, ∃ u166 : Value, ∃ u167 : Value, ∃ u168 : Value, ∃ u169 : Value, ∃ u170 : Value, ∃ u171 : Value, ∃ u172 : Value, ∃ u173 : Value, ∃ u174 : Value, ∃ u175 : Value, ∃ u176 : Value, ∃ u177 : Value, ∃ u178 : Value, ∃ u179 : Value, ∃ u180 : Value, ∃ u181 : Value, ∃ u182 : Value, ∃ u183 : Value, ∃ u184 : Value, ∃ u185 : Value, ∃ u186 : Value, ∃ u187 : Value, ∃ u188 : Value, ∃ u189 : Value, ∃ u190 : Value, ∃ u191 : Value, ∃ u192 : Value, ∃ u193 : Value, ∃ u194 : Value, ∃ u195 : Value, ∃ u196 : Value, ∃ u197 : Value, ∃ u198 : Value, a = { tmps := #[.agg #[.int .i64 r, .int .i64 s, .int .i64 b, .int .i64 o, .int .i64 c, .int .i64 y, .int .i64 z], .slice ad nA cA, .int .i64 home, .int .i64 rank, .pointer (some ⟨g1, 0, none⟩), undef, undef, undef, u8, .pointer (some ⟨p, 0, none⟩), .int .i64 0, undef, u12, u13, u14, .slice (some ⟨g3, 0, none⟩) N c3, .int .i64 (((sn : Nat) : Int) + ((pu : Nat) : Int)), .bool true, undef, undef, undef, undef, undef, undef, .int .i64 (r + ((0 : Nat) : Int)), .int .i64 0, u26, u27, u28, .bool true, .bool false, .agg #[.int .i64 r, .int .i64 s, .int .i64 b, .int .i64 o, .int .i64 c, .int .i64 y, .int .i64 z], .bool true, .bool false, .bool false, .slice ad nA cA, .int .i64 ((nA : Nat) : Int), .bool false, .bool false, .tuple #[.pointer (some ⟨p, 0, none⟩), .int .i64 0], .agg #[.int .i64 r, .int .i64 s, .int .i64 b, .int .i64 o, .int .i64 c, .int .i64 y, .int .i64 z], .tuple #[.pointer (some ⟨p, 0, none⟩), .int .i64 0], .pointer (some ⟨p, 0, none⟩), .int .i64 0, .int .i64 0, .bool false, .bool false, .pointer (some ⟨p, 0, none⟩), .bool false, .bool false, undef, undef, .slice ad nA cA, .int .i64 ((nA : Nat) : Int), .int .i64 ((k : Nat) : Int), .bool false, u56, u57, u58, u59, u60, u61, u62, u63, u64, u65, u66, u67, u68, u69, u70, u71, u72, u73, u74, u75, u76, u77, u78, u79, u80, u81, u82, .pointer (some ⟨p, 0, none⟩), .slice (some ⟨g2, 0, none⟩) N c2, .tuple #[.int .i64 (((sn : Nat) : Int) + ((pu : Nat) : Int)), .bool true], .pointer (some ⟨p, 0, none⟩), .tuple #[.int .i64 (((sn : Nat) : Int) + ((pu : Nat) : Int)), .bool true], .int .i64 (((sn : Nat) : Int) + ((pu : Nat) : Int)), .bool true, .bool true, .bool true, .pointer (some ⟨p, 0, none⟩), .int .i64 home, .bool false, .bool false, undef, undef, undef, undef, undef, undef, undef, undef, undef, undef, undef, undef, undef, undef, undef, undef, undef, undef, undef, undef, undef, undef, undef, undef, undef, undef, undef, undef, undef, undef, undef, undef, undef, undef, undef, undef, undef, undef, undef, undef, undef, undef, undef, undef, undef, .pointer (some ⟨p, 0, none⟩), .slice (some ⟨g3, 0, none⟩) N c3, .tuple #[.int .i64 (r + ((0 : Nat) : Int)), .int .i64 0], .pointer (some ⟨p, 0, none⟩), .tuple #[.int .i64 (r + ((0 : Nat) : Int)), .int .i64 0], .int .i64 (r + ((0 : Nat) : Int)), .int .i64 0, .int .i64 0, .bool true, .bool true, .pointer (some ⟨p, 0, none⟩), .int .i64 rank, .int .i64 (r + ((0 : Nat) : Int)), .int .i64 0, .bool true, .bool true, .pointer (some ⟨p, 0, none⟩), .slice (some ⟨g4, 0, none⟩) N c4, .int .i64 ((N : Nat) : Int), .int .i64 ((m : Nat) : Int), u161, u162, u163, u164, u165, u166, u167, u168, u169, u170, u171, u172, u173, u174, u175, u176, u177, u178, u179, u180, u181, u182, u183, u184, u185, u186, u187, u188, u189, u190, u191, u192, u193, u194, u195, u196, u197, u198], defers := [] } ∧ Hs [] w0 w' [.row (.slice (some ⟨g4, 0, none⟩) N c4) 3 1 N (List.map (Value.int .i64) (idxs y r b o ((List.replicate ns (-1)).set qn (r + ((0 : Nat) : Int))) L C N)), .blk p #[.int .i64 r, .int .i64 s, .int .i64 b, .int .i64 o, .int .i64 c, .int .i64 y, .int .i64 z, .slice (some ⟨gl, 0, none⟩) sn cl, .slice (some ⟨gd, 0, none⟩) pg cd, .slice (some ⟨gs, 0, none⟩) ns cs, .int .i64 ((pu : Nat) : Int), .int .i64 (((0 + 1) : Nat) : Int)] 181, .row (.slice (some ⟨gl, 0, none⟩) sn cl) 3 1 sn (List.map (Value.int .i64) L), .row (.slice (some ⟨gd, 0, none⟩) pg cd) 4 1 pg (List.map Value.bool D), .row (.slice (some ⟨gs, 0, none⟩) ns cs) 3 1 ns (List.map (Value.int .i64) ((List.replicate ns (-1)).set qn (r + ((0 : Nat) : Int)))), .row (.slice (some ⟨g3, 0, none⟩) N c3) 3 1 N (List.map (Value.int .i64) (idxs y r b o (List.replicate ns (-1)) L C N)), .row (.slice (some ⟨g2, 0, none⟩) N c2) 3 1 N (List.map (Value.int .i64) (idxs y r b o (List.replicate ns (-1)) L C N)), .blk g1 #[.int .i64 r, .int .i64 s, .int .i64 b, .int .i64 o, .int .i64 c, .int .i64 y, .int .i64 z] 69] ∧ (m ≤ N)) (fun (m : Nat) => N - m) 0 ⟨.bool false, undef, undef, undef, undef, undef, undef, undef, undef, undef, undef, undef, undef, undef, undef, undef, undef, undef, undef, undef, undef, undef, undef, undef, undef, undef, undef, undef, undef, undef, undef, undef, undef, undef, undef, undef, undef, undef, undef, undef, undef, undef, (by kernel_rfl), H, (Nat.zero_le _)⟩ ?_
                clear H
                rintro m _ v14 ⟨u8, u26, u27, u28, u161, u162, u163, u164, u165, u166, u167, u168, u169, u170, u171, u172, u173, u174, u175, u176, u177, u178, u179, u180, u181, u182, u183, u184, u185, u186, u187, u188, u189, u190, u191, u192, u193, u194, u195, u196, u197, u198, rfl, H, r1⟩
                have hl0 := idxs_len y r b o ((List.replicate ns (-1)).set qn (r + ((0 : Nat) : Int))) L C N
                have hl5 := idxs_len y r b o (List.replicate ns (-1)) L C N
                have hl6 := idxs_len y r b o (List.replicate ns (-1)) L C N
                refine x_seq ?_
                refine x_region ?_
                refine x_val (.bool (decide (((m : Nat) : Int) < ((N : Nat) : Int)))) (by kernel_rfl) rfl (by kernel_rfl) ?_
                refine x_nil ?_
                refine x_then ?_
                refine x_seq ?_
                cases h8 : decide (((m : Nat) : Int) < ((N : Nat) : Int))
                · skip
                  have h8p := of_decide_eq_false h8
                  refine x_f (by kernel_rfl) ?_
                  refine x_exit ?_
                  refine x_then_exit ?_
                  refine x_then_exit ?_
                  refine x_blk_exit ?_
                  refine x_then ?_
                  refine x_seq ?_
                  refine x_region ?_
                  refine x_val (.bool true) (by kernel_rfl) rfl (by kernel_rfl) ?_
                  refine x_nil ?_
                  refine x_then ?_
                  refine x_retc ?_
                  refine x_ret (.bool true) (by kernel_rfl) (by kernel_rfl) ?_
                  exact ⟨rfl, H.below⟩
                · skip
                  have h8p := of_decide_eq_true h8
                  refine x_t (by kernel_rfl) ?_
                  refine x_skipc ?_
                  refine x_then ?_
                  refine x_seq ?_
                  refine x_block ?_
                  refine x_seq ?_
                  refine x_region ?_
                  refine x_val (.int .i64 ((m : Nat) : Int)) (by kernel_rfl) rfl (by kernel_rfl) ?_
                  refine x_ix (t := 106) g4 0 m N c4 3 1 m (by omega) (by omega) (by kernel_rfl) (by kernel_rfl) (by kernel_rfl) rfl (by kernel_rfl) ?_
                  refine x_loadc g4 m (.int .i64 ((idxs y r b o ((List.replicate ns (-1)).set qn (r + ((0 : Nat) : Int))) L C N).getD m 0)) (H.rowCell 0 rfl m (mapAt 0 (by omega))) (by kernel_rfl) rfl (by kernel_rfl) ?_
                  refine x_val (.int .i64 ((m : Nat) : Int)) (by kernel_rfl) rfl (by kernel_rfl) ?_
                  refine x_val (.int .i64 ((idxs y r b o ((List.replicate ns (-1)).set qn (r + ((0 : Nat) : Int))) L C N).getD m 0)) (by kernel_rfl) rfl (by kernel_rfl) ?_
                  refine x_nil ?_
                  refine x_then ?_
                  refine x_seq ?_
                  refine x_region ?_
                  refine x_val (.slice (some ⟨g3, 0, none⟩) N c3) (by kernel_rfl) rfl (by kernel_rfl) ?_
                  refine x_val (.int .i64 ((m : Nat) : Int)) (by kernel_rfl) rfl (by kernel_rfl) ?_
                  refine x_ix (t := 106) g3 0 m N c3 3 1 m (by omega) (by omega) (by kernel_rfl) (by kernel_rfl) (by kernel_rfl) rfl (by kernel_rfl) ?_
                  refine x_loadc g3 m (.int .i64 ((idxs y r b o (List.replicate ns (-1)) L C N).getD m 0)) (H.rowCell 5 rfl m (mapAt 0 (by omega))) (by kernel_rfl) rfl (by kernel_rfl) ?_
                  refine x_eq (.int .i64 (((idxs y r b o (List.replicate ns (-1)) L C N).getD m 0) / 1048576)) (e_shr ((idxs y r b o (List.replicate ns (-1)) L C N).getD m 0) 1048576 (by decide)) (by kernel_rfl) rfl (by kernel_rfl) ?_
                  refine x_val (.int .i64 rank) (by kernel_rfl) rfl (by kernel_rfl) ?_
                  refine x_val (.bool (decide ((((idxs y r b o (List.replicate ns (-1)) L C N).getD m 0) / 1048576) = rank))) (by kernel_rfl) rfl (by kernel_rfl) ?_
                  refine x_val (.bool (decide ((((idxs y r b o (List.replicate ns (-1)) L C N).getD m 0) / 1048576) = rank))) (by kernel_rfl) rfl (by kernel_rfl) ?_
                  refine x_nil ?_
                  refine x_then ?_
                  refine x_seq ?_
                  refine x_region ?_
                  refine x_val (.bool (decide ((((idxs y r b o (List.replicate ns (-1)) L C N).getD m 0) / 1048576) = rank))) (by kernel_rfl) rfl (by kernel_rfl) ?_
                  refine x_val (.bool (decide ((((idxs y r b o (List.replicate ns (-1)) L C N).getD m 0) / 1048576) = rank))) (by kernel_rfl) rfl (by kernel_rfl) ?_
                  cases h9 : decide ((((idxs y r b o (List.replicate ns (-1)) L C N).getD m 0) / 1048576) = rank)
                  · skip
                    have h9p := of_decide_eq_false h9
                    refine x_skip (by kernel_rfl) ?_
                    refine x_skip (by kernel_rfl) ?_
                    refine x_skip (by kernel_rfl) ?_
                    refine x_skip (by kernel_rfl) ?_
                    refine x_skip (by kernel_rfl) ?_
                    refine x_skip (by kernel_rfl) ?_
                    refine x_skip (by kernel_rfl) ?_
                    refine x_skip (by kernel_rfl) ?_
                    refine x_skip (by kernel_rfl) ?_
                    have hW := stay_bd hL hC hN (n := m) (L := L) (by omega) (fun q hq => .inl (rep_none hq)) (fun k hk => by have := St.lv k hk; have := St.hp; omega)
                    refine x_skip (by kernel_rfl) ?_
                    refine x_skip (by kernel_rfl) ?_
                    refine x_val (.bool false) (by kernel_rfl) rfl (by kernel_rfl) ?_
                    refine x_val (.bool false) (by kernel_rfl) rfl (by kernel_rfl) ?_
                    refine x_val (.bool false) (by kernel_rfl) rfl (by kernel_rfl) ?_
                    refine x_val (.bool true) (by kernel_rfl) rfl (by kernel_rfl) ?_
                    refine x_val (.bool true) (by kernel_rfl) rfl (by kernel_rfl) ?_
                    refine x_val (.int .i64 ((idxs y r b o ((List.replicate ns (-1)).set qn (r + ((0 : Nat) : Int))) L C N).getD m 0)) (by kernel_rfl) rfl (by kernel_rfl) ?_
                    refine x_val (.slice (some ⟨g3, 0, none⟩) N c3) (by kernel_rfl) rfl (by kernel_rfl) ?_
                    refine x_val (.int .i64 ((m : Nat) : Int)) (by kernel_rfl) rfl (by kernel_rfl) ?_
                    refine x_ix (t := 106) g3 0 m N c3 3 1 m (by omega) (by omega) (by kernel_rfl) (by kernel_rfl) (by kernel_rfl) rfl (by kernel_rfl) ?_
                    refine x_loadc g3 m (.int .i64 ((idxs y r b o (List.replicate ns (-1)) L C N).getD m 0)) (H.rowCell 5 rfl m (mapAt 0 (by omega))) (by kernel_rfl) rfl (by kernel_rfl) ?_
                    refine x_val (.bool (!(decide (((idxs y r b o ((List.replicate ns (-1)).set qn (r + ((0 : Nat) : Int))) L C N).getD m 0) = ((idxs y r b o (List.replicate ns (-1)) L C N).getD m 0))))) (by kernel_rfl) rfl (by kernel_rfl) ?_
                    refine x_val (.bool (!(decide (((idxs y r b o ((List.replicate ns (-1)).set qn (r + ((0 : Nat) : Int))) L C N).getD m 0) = ((idxs y r b o (List.replicate ns (-1)) L C N).getD m 0))))) (by kernel_rfl) rfl (by kernel_rfl) ?_
                    refine x_val (.bool (!(decide (((idxs y r b o ((List.replicate ns (-1)).set qn (r + ((0 : Nat) : Int))) L C N).getD m 0) = ((idxs y r b o (List.replicate ns (-1)) L C N).getD m 0))))) (by kernel_rfl) rfl (by kernel_rfl) ?_
                    refine x_nil ?_
                    refine x_frame' { tmps := #[.agg #[.int .i64 r, .int .i64 s, .int .i64 b, .int .i64 o, .int .i64 c, .int .i64 y, .int .i64 z], .slice ad nA cA, .int .i64 home, .int .i64 rank, .pointer (some ⟨g1, 0, none⟩), undef, undef, undef, u8, .pointer (some ⟨p, 0, none⟩), .int .i64 0, undef, u12, u13, u14, .slice (some ⟨g3, 0, none⟩) N c3, .int .i64 (((sn : Nat) : Int) + ((pu : Nat) : Int)), .bool true, undef, undef, undef, undef, undef, undef, .int .i64 (r + ((0 : Nat) : Int)), .int .i64 0, .int .i64 ((m : Nat) : Int), .int .i64 ((idxs y r b o ((List.replicate ns (-1)).set qn (r + ((0 : Nat) : Int))) L C N).getD m 0), .bool false, .bool true, .bool false, .agg #[.int .i64 r, .int .i64 s, .int .i64 b, .int .i64 o, .int .i64 c, .int .i64 y, .int .i64 z], .bool true, .bool false, .bool false, .slice ad nA cA, .int .i64 ((nA : Nat) : Int), .bool false, .bool false, .tuple #[.pointer (some ⟨p, 0, none⟩), .int .i64 0], .agg #[.int .i64 r, .int .i64 s, .int .i64 b, .int .i64 o, .int .i64 c, .int .i64 y, .int .i64 z], .tuple #[.pointer (some ⟨p, 0, none⟩), .int .i64 0], .pointer (some ⟨p, 0, none⟩), .int .i64 0, .int .i64 0, .bool false, .bool false, .pointer (some ⟨p, 0, none⟩), .bool false, .bool false, undef, undef, .slice ad nA cA, .int .i64 ((nA : Nat) : Int), .int .i64 ((k : Nat) : Int), .bool false, u56, u57, u58, u59, u60, u61, u62, u63, u64, u65, u66, u67, u68, u69, u70, u71, u72, u73, u74, u75, u76, u77, u78, u79, u80, u81, u82, .pointer (some ⟨p, 0, none⟩), .slice (some ⟨g2, 0, none⟩) N c2, .tuple #[.int .i64 (((sn : Nat) : Int) + ((pu : Nat) : Int)), .bool true], .pointer (some ⟨p, 0, none⟩), .tuple #[.int .i64 (((sn : Nat) : Int) + ((pu : Nat) : Int)), .bool true], .int .i64 (((sn : Nat) : Int) + ((pu : Nat) : Int)), .bool true, .bool true, .bool true, .pointer (some ⟨p, 0, none⟩), .int .i64 home, .bool false, .bool false, undef, undef, undef, undef, undef, undef, undef, undef, undef, undef, undef, undef, undef, undef, undef, undef, undef, undef, undef, undef, undef, undef, undef, undef, undef, undef, undef, undef, undef, undef, undef, undef, undef, undef, undef, undef, undef, undef, undef, undef, undef, undef, undef, undef, undef, .pointer (some ⟨p, 0, none⟩), .slice (some ⟨g3, 0, none⟩) N c3, .tuple #[.int .i64 (r + ((0 : Nat) : Int)), .int .i64 0], .pointer (some ⟨p, 0, none⟩), .tuple #[.int .i64 (r + ((0 : Nat) : Int)), .int .i64 0], .int .i64 (r + ((0 : Nat) : Int)), .int .i64 0, .int .i64 0, .bool true, .bool true, .pointer (some ⟨p, 0, none⟩), .int .i64 rank, .int .i64 (r + ((0 : Nat) : Int)), .int .i64 0, .bool true, .bool true, .pointer (some ⟨p, 0, none⟩), .slice (some ⟨g4, 0, none⟩) N c4, .int .i64 ((N : Nat) : Int), .int .i64 ((m : Nat) : Int), .bool true, .int .i64 ((m : Nat) : Int), .pointer (some ⟨g4, m, none⟩), .int .i64 ((idxs y r b o ((List.replicate ns (-1)).set qn (r + ((0 : Nat) : Int))) L C N).getD m 0), .slice (some ⟨g3, 0, none⟩) N c3, .int .i64 ((m : Nat) : Int), .pointer (some ⟨g3, m, none⟩), .int .i64 ((idxs y r b o (List.replicate ns (-1)) L C N).getD m 0), .int .i64 (((idxs y r b o (List.replicate ns (-1)) L C N).getD m 0) / 1048576), .int .i64 rank, .bool false, .bool false, .bool false, undef, undef, undef, undef, undef, undef, undef, undef, undef, undef, undef, .bool false, .bool false, .bool false, .bool true, .bool true, .int .i64 ((idxs y r b o ((List.replicate ns (-1)).set qn (r + ((0 : Nat) : Int))) L C N).getD m 0), .slice (some ⟨g3, 0, none⟩) N c3, .int .i64 ((m : Nat) : Int), .pointer (some ⟨g3, m, none⟩), .int .i64 ((idxs y r b o (List.replicate ns (-1)) L C N).getD m 0), .bool (!(decide (((idxs y r b o ((List.replicate ns (-1)).set qn (r + ((0 : Nat) : Int))) L C N).getD m 0) = ((idxs y r b o (List.replicate ns (-1)) L C N).getD m 0)))), .bool (!(decide (((idxs y r b o ((List.replicate ns (-1)).set qn (r + ((0 : Nat) : Int))) L C N).getD m 0) = ((idxs y r b o (List.replicate ns (-1)) L C N).getD m 0)))), .bool (!(decide (((idxs y r b o ((List.replicate ns (-1)).set qn (r + ((0 : Nat) : Int))) L C N).getD m 0) = ((idxs y r b o (List.replicate ns (-1)) L C N).getD m 0)))), u198], defers := [] } (by kernel_rfl) ?_
                    refine x_then ?_
                    cases h10 : decide (((idxs y r b o ((List.replicate ns (-1)).set qn (r + ((0 : Nat) : Int))) L C N).getD m 0) = ((idxs y r b o (List.replicate ns (-1)) L C N).getD m 0))
                    · skip
                      have h10p := of_decide_eq_false h10
                      exact absurd (by rw [stay_rank hL hC hN (n := m) (by omega) hqn (by omega) (fun k hk => by have := St.lv k hk; have := St.hp; omega), if_neg (by rw [← eq]; exact h9p)]) (of_decide_eq_false h10)
                    · skip
                      have h10p := of_decide_eq_true h10
                      refine x_f (by kernel_rfl) ?_
                      refine x_skipc ?_
                      refine x_blk ?_
                      refine x_then ?_
                      refine x_region ?_
                      refine x_ar (((m : Nat) : Int) + 1) ⟨by omega, by omega⟩ (by kernel_rfl) rfl (by kernel_rfl) ?_
                      refine x_val (.int .i64 (((m : Nat) : Int) + 1)) (by kernel_rfl) rfl (by kernel_rfl) ?_
                      refine x_nil ?_
                      refine x_then ?_
                      exact ⟨(m + 1), (by omega), u8, (.int .i64 ((m : Nat) : Int)), (.int .i64 ((idxs y r b o ((List.replicate ns (-1)).set qn (r + ((0 : Nat) : Int))) L C N).getD m 0)), (.bool false), (.bool true), (.int .i64 ((m : Nat) : Int)), (.pointer (some ⟨g4, m, none⟩)), (.int .i64 ((idxs y r b o ((List.replicate ns (-1)).set qn (r + ((0 : Nat) : Int))) L C N).getD m 0)), (.slice (some ⟨g3, 0, none⟩) N c3), (.int .i64 ((m : Nat) : Int)), (.pointer (some ⟨g3, m, none⟩)), (.int .i64 ((idxs y r b o (List.replicate ns (-1)) L C N).getD m 0)), (.int .i64 (((idxs y r b o (List.replicate ns (-1)) L C N).getD m 0) / 1048576)), (.int .i64 rank), (.bool false), (.bool false), (.bool false), undef, undef, undef, undef, undef, undef, undef, undef, undef, undef, undef, (.bool false), (.bool false), (.bool false), (.bool true), (.bool true), (.int .i64 ((idxs y r b o ((List.replicate ns (-1)).set qn (r + ((0 : Nat) : Int))) L C N).getD m 0)), (.slice (some ⟨g3, 0, none⟩) N c3), (.int .i64 ((m : Nat) : Int)), (.pointer (some ⟨g3, m, none⟩)), (.int .i64 ((idxs y r b o (List.replicate ns (-1)) L C N).getD m 0)), (.bool false), (.bool false), (.bool false), (.int .i64 (((m : Nat) : Int) + 1)), (by kernel_rfl), H, (by omega)⟩
                  · skip
                    have h9p := of_decide_eq_true h9
                    refine x_val (.int .i64 ((idxs y r b o ((List.replicate ns (-1)).set qn (r + ((0 : Nat) : Int))) L C N).getD m 0)) (by kernel_rfl) rfl (by kernel_rfl) ?_
                    refine x_val (.slice (some ⟨g3, 0, none⟩) N c3) (by kernel_rfl) rfl (by kernel_rfl) ?_
                    refine x_val (.int .i64 ((m : Nat) : Int)) (by kernel_rfl) rfl (by kernel_rfl) ?_
                    refine x_ix (t := 106) g3 0 m N c3 3 1 m (by omega) (by omega) (by kernel_rfl) (by kernel_rfl) (by kernel_rfl) rfl (by kernel_rfl) ?_
                    refine x_loadc g3 m (.int .i64 ((idxs y r b o (List.replicate ns (-1)) L C N).getD m 0)) (H.rowCell 5 rfl m (mapAt 0 (by omega))) (by kernel_rfl) rfl (by kernel_rfl) ?_
                    refine x_val (.int .i64 (r + ((0 : Nat) : Int))) (by kernel_rfl) rfl (by kernel_rfl) ?_
                    refine x_val (.int .i64 rank) (by kernel_rfl) rfl (by kernel_rfl) ?_
                    refine x_ar ((r + ((0 : Nat) : Int)) - rank) ⟨by omega, by omega⟩ (by kernel_rfl) rfl (by kernel_rfl) ?_
                    refine x_ar (((r + ((0 : Nat) : Int)) - rank) * 1048576) ⟨by omega, by omega⟩ (by kernel_rfl) rfl (by kernel_rfl) ?_
                    have hW := stay_bd hL hC hN (n := m) (L := L) (by omega) (fun q hq => .inl (rep_none hq)) (fun k hk => by have := St.lv k hk; have := St.hp; omega)
                    refine x_ar (((idxs y r b o (List.replicate ns (-1)) L C N).getD m 0) + (((r + ((0 : Nat) : Int)) - rank) * 1048576)) ⟨by omega, by omega⟩ (by kernel_rfl) rfl (by kernel_rfl) ?_
                    refine x_val (.bool (!(decide (((idxs y r b o ((List.replicate ns (-1)).set qn (r + ((0 : Nat) : Int))) L C N).getD m 0) = (((idxs y r b o (List.replicate ns (-1)) L C N).getD m 0) + (((r + ((0 : Nat) : Int)) - rank) * 1048576)))))) (by kernel_rfl) rfl (by kernel_rfl) ?_
                    refine x_val (.bool (!(decide (((idxs y r b o ((List.replicate ns (-1)).set qn (r + ((0 : Nat) : Int))) L C N).getD m 0) = (((idxs y r b o (List.replicate ns (-1)) L C N).getD m 0) + (((r + ((0 : Nat) : Int)) - rank) * 1048576)))))) (by kernel_rfl) rfl (by kernel_rfl) ?_
                    refine x_val (.bool (!(decide (((idxs y r b o ((List.replicate ns (-1)).set qn (r + ((0 : Nat) : Int))) L C N).getD m 0) = (((idxs y r b o (List.replicate ns (-1)) L C N).getD m 0) + (((r + ((0 : Nat) : Int)) - rank) * 1048576)))))) (by kernel_rfl) rfl (by kernel_rfl) ?_
                    cases h11 : decide (((idxs y r b o ((List.replicate ns (-1)).set qn (r + ((0 : Nat) : Int))) L C N).getD m 0) = (((idxs y r b o (List.replicate ns (-1)) L C N).getD m 0) + (((r + ((0 : Nat) : Int)) - rank) * 1048576)))
                    · skip
                      have h11p := of_decide_eq_false h11
                      exact absurd (by rw [stay_rank hL hC hN (n := m) (by omega) hqn (by omega) (fun k hk => by have := St.lv k hk; have := St.hp; omega), if_pos (by rw [← eq]; exact h9p), ← eq]) (of_decide_eq_false h11)
                    · skip
                      have h11p := of_decide_eq_true h11
                      refine x_val (.bool true) (by kernel_rfl) rfl (by kernel_rfl) ?_
                      refine x_val (.bool false) (by kernel_rfl) rfl (by kernel_rfl) ?_
                      refine x_val (.bool false) (by kernel_rfl) rfl (by kernel_rfl) ?_
                      refine x_skip (by kernel_rfl) ?_
                      refine x_skip (by kernel_rfl) ?_
                      refine x_skip (by kernel_rfl) ?_
                      refine x_skip (by kernel_rfl) ?_
                      refine x_skip (by kernel_rfl) ?_
                      refine x_skip (by kernel_rfl) ?_
                      refine x_val (.bool false) (by kernel_rfl) rfl (by kernel_rfl) ?_
                      refine x_val (.bool false) (by kernel_rfl) rfl (by kernel_rfl) ?_
                      refine x_nil ?_
                      refine x_frame' { tmps := #[.agg #[.int .i64 r, .int .i64 s, .int .i64 b, .int .i64 o, .int .i64 c, .int .i64 y, .int .i64 z], .slice ad nA cA, .int .i64 home, .int .i64 rank, .pointer (some ⟨g1, 0, none⟩), undef, undef, undef, u8, .pointer (some ⟨p, 0, none⟩), .int .i64 0, undef, u12, u13, u14, .slice (some ⟨g3, 0, none⟩) N c3, .int .i64 (((sn : Nat) : Int) + ((pu : Nat) : Int)), .bool true, undef, undef, undef, undef, undef, undef, .int .i64 (r + ((0 : Nat) : Int)), .int .i64 0, .int .i64 ((m : Nat) : Int), .int .i64 ((idxs y r b o ((List.replicate ns (-1)).set qn (r + ((0 : Nat) : Int))) L C N).getD m 0), .bool true, .bool true, .bool false, .agg #[.int .i64 r, .int .i64 s, .int .i64 b, .int .i64 o, .int .i64 c, .int .i64 y, .int .i64 z], .bool true, .bool false, .bool false, .slice ad nA cA, .int .i64 ((nA : Nat) : Int), .bool false, .bool false, .tuple #[.pointer (some ⟨p, 0, none⟩), .int .i64 0], .agg #[.int .i64 r, .int .i64 s, .int .i64 b, .int .i64 o, .int .i64 c, .int .i64 y, .int .i64 z], .tuple #[.pointer (some ⟨p, 0, none⟩), .int .i64 0], .pointer (some ⟨p, 0, none⟩), .int .i64 0, .int .i64 0, .bool false, .bool false, .pointer (some ⟨p, 0, none⟩), .bool false, .bool false, undef, undef, .slice ad nA cA, .int .i64 ((nA : Nat) : Int), .int .i64 ((k : Nat) : Int), .bool false, u56, u57, u58, u59, u60, u61, u62, u63, u64, u65, u66, u67, u68, u69, u70, u71, u72, u73, u74, u75, u76, u77, u78, u79, u80, u81, u82, .pointer (some ⟨p, 0, none⟩), .slice (some ⟨g2, 0, none⟩) N c2, .tuple #[.int .i64 (((sn : Nat) : Int) + ((pu : Nat) : Int)), .bool true], .pointer (some ⟨p, 0, none⟩), .tuple #[.int .i64 (((sn : Nat) : Int) + ((pu : Nat) : Int)), .bool true], .int .i64 (((sn : Nat) : Int) + ((pu : Nat) : Int)), .bool true, .bool true, .bool true, .pointer (some ⟨p, 0, none⟩), .int .i64 home, .bool false, .bool false, undef, undef, undef, undef, undef, undef, undef, undef, undef, undef, undef, undef, undef, undef, undef, undef, undef, undef, undef, undef, undef, undef, undef, undef, undef, undef, undef, undef, undef, undef, undef, undef, undef, undef, undef, undef, undef, undef, undef, undef, undef, undef, undef, undef, undef, .pointer (some ⟨p, 0, none⟩), .slice (some ⟨g3, 0, none⟩) N c3, .tuple #[.int .i64 (r + ((0 : Nat) : Int)), .int .i64 0], .pointer (some ⟨p, 0, none⟩), .tuple #[.int .i64 (r + ((0 : Nat) : Int)), .int .i64 0], .int .i64 (r + ((0 : Nat) : Int)), .int .i64 0, .int .i64 0, .bool true, .bool true, .pointer (some ⟨p, 0, none⟩), .int .i64 rank, .int .i64 (r + ((0 : Nat) : Int)), .int .i64 0, .bool true, .bool true, .pointer (some ⟨p, 0, none⟩), .slice (some ⟨g4, 0, none⟩) N c4, .int .i64 ((N : Nat) : Int), .int .i64 ((m : Nat) : Int), .bool true, .int .i64 ((m : Nat) : Int), .pointer (some ⟨g4, m, none⟩), .int .i64 ((idxs y r b o ((List.replicate ns (-1)).set qn (r + ((0 : Nat) : Int))) L C N).getD m 0), .slice (some ⟨g3, 0, none⟩) N c3, .int .i64 ((m : Nat) : Int), .pointer (some ⟨g3, m, none⟩), .int .i64 ((idxs y r b o (List.replicate ns (-1)) L C N).getD m 0), .int .i64 (((idxs y r b o (List.replicate ns (-1)) L C N).getD m 0) / 1048576), .int .i64 rank, .bool true, .bool true, .bool true, .int .i64 ((idxs y r b o ((List.replicate ns (-1)).set qn (r + ((0 : Nat) : Int))) L C N).getD m 0), .slice (some ⟨g3, 0, none⟩) N c3, .int .i64 ((m : Nat) : Int), .pointer (some ⟨g3, m, none⟩), .int .i64 ((idxs y r b o (List.replicate ns (-1)) L C N).getD m 0), .int .i64 (r + ((0 : Nat) : Int)), .int .i64 rank, .int .i64 ((r + ((0 : Nat) : Int)) - rank), .int .i64 (((r + ((0 : Nat) : Int)) - rank) * 1048576), .int .i64 (((idxs y r b o (List.replicate ns (-1)) L C N).getD m 0) + (((r + ((0 : Nat) : Int)) - rank) * 1048576)), .bool false, .bool false, .bool false, .bool true, .bool false, .bool false, undef, undef, undef, undef, undef, undef, .bool false, .bool false, u198], defers := [] } (by kernel_rfl) ?_
                      refine x_then ?_
                      refine x_f (by kernel_rfl) ?_
                      refine x_skipc ?_
                      refine x_blk ?_
                      refine x_then ?_
                      refine x_region ?_
                      refine x_ar (((m : Nat) : Int) + 1) ⟨by omega, by omega⟩ (by kernel_rfl) rfl (by kernel_rfl) ?_
                      refine x_val (.int .i64 (((m : Nat) : Int) + 1)) (by kernel_rfl) rfl (by kernel_rfl) ?_
                      refine x_nil ?_
                      refine x_then ?_
                      exact ⟨(m + 1), (by omega), u8, (.int .i64 ((m : Nat) : Int)), (.int .i64 ((idxs y r b o ((List.replicate ns (-1)).set qn (r + ((0 : Nat) : Int))) L C N).getD m 0)), (.bool true), (.bool true), (.int .i64 ((m : Nat) : Int)), (.pointer (some ⟨g4, m, none⟩)), (.int .i64 ((idxs y r b o ((List.replicate ns (-1)).set qn (r + ((0 : Nat) : Int))) L C N).getD m 0)), (.slice (some ⟨g3, 0, none⟩) N c3), (.int .i64 ((m : Nat) : Int)), (.pointer (some ⟨g3, m, none⟩)), (.int .i64 ((idxs y r b o (List.replicate ns (-1)) L C N).getD m 0)), (.int .i64 (((idxs y r b o (List.replicate ns (-1)) L C N).getD m 0) / 1048576)), (.int .i64 rank), (.bool true), (.bool true), (.bool true), (.int .i64 ((idxs y r b o ((List.replicate ns (-1)).set qn (r + ((0 : Nat) : Int))) L C N).getD m 0)), (.slice (some ⟨g3, 0, none⟩) N c3), (.int .i64 ((m : Nat) : Int)), (.pointer (some ⟨g3, m, none⟩)), (.int .i64 ((idxs y r b o (List.replicate ns (-1)) L C N).getD m 0)), (.int .i64 (r + ((0 : Nat) : Int))), (.int .i64 rank), (.int .i64 ((r + ((0 : Nat) : Int)) - rank)), (.int .i64 (((r + ((0 : Nat) : Int)) - rank) * 1048576)), (.int .i64 (((idxs y r b o (List.replicate ns (-1)) L C N).getD m 0) + (((r + ((0 : Nat) : Int)) - rank) * 1048576))), (.bool false), (.bool false), (.bool false), (.bool true), (.bool false), (.bool false), undef, undef, undef, undef, undef, undef, (.bool false), (.bool false), (.int .i64 (((m : Nat) : Int) + 1)), (by kernel_rfl), H, (by omega)⟩
            · skip
              have h6p := of_decide_eq_true h6
              refine x_callH (.tuple #[.int .i64 0, .int .i64 52]) [.blk p #[.int .i64 r, .int .i64 s, .int .i64 b, .int .i64 o, .int .i64 c, .int .i64 y, .int .i64 z, .slice (some ⟨gl, 0, none⟩) sn cl, .slice (some ⟨gd, 0, none⟩) pg cd, .slice (some ⟨gs, 0, none⟩) ns cs, .int .i64 ((pu : Nat) : Int), .int .i64 ((0 : Nat) : Int)] 181, .row (.slice (some ⟨gl, 0, none⟩) sn cl) 3 1 sn (List.map (Value.int .i64) L), .row (.slice (some ⟨gd, 0, none⟩) pg cd) 4 1 pg (List.map Value.bool D), .row (.slice (some ⟨gs, 0, none⟩) ns cs) 3 1 ns (List.map (Value.int .i64) (List.replicate ns (-1))), .row (.slice (some ⟨g3, 0, none⟩) N c3) 3 1 N (List.map (Value.int .i64) (idxs y r b o (List.replicate ns (-1)) L C N)), .row (.slice (some ⟨g2, 0, none⟩) N c2) 3 1 N (List.map (Value.int .i64) (idxs y r b o (List.replicate ns (-1)) L C N)), .blk g1 #[.int .i64 r, .int .i64 s, .int .i64 b, .int .i64 o, .int .i64 c, .int .i64 y, .int .i64 z] 69] (by kernel_rfl) rfl (by kernel_rfl) (Hs.use (A := [.blk p #[.int .i64 r, .int .i64 s, .int .i64 b, .int .i64 o, .int .i64 c, .int .i64 y, .int .i64 z, .slice (some ⟨gl, 0, none⟩) sn cl, .slice (some ⟨gd, 0, none⟩) pg cd, .slice (some ⟨gs, 0, none⟩) ns cs, .int .i64 ((pu : Nat) : Int), .int .i64 ((0 : Nat) : Int)] 181, .row (.slice (some ⟨gl, 0, none⟩) sn cl) 3 1 sn (List.map (Value.int .i64) L), .row (.slice (some ⟨gd, 0, none⟩) pg cd) 4 1 pg (List.map Value.bool D), .row (.slice (some ⟨gs, 0, none⟩) ns cs) 3 1 ns (List.map (Value.int .i64) (List.replicate ns (-1)))]) (R := [.row (.slice (some ⟨g3, 0, none⟩) N c3) 3 1 N (List.map (Value.int .i64) (idxs y r b o (List.replicate ns (-1)) L C N)), .row (.slice (some ⟨g2, 0, none⟩) N c2) 3 1 N (List.map (Value.int .i64) (idxs y r b o (List.replicate ns (-1)) L C N)), .blk g1 #[.int .i64 r, .int .i64 s, .int .i64 b, .int .i64 o, .int .i64 c, .int .i64 y, .int .i64 z] 69]) (H.pick [2, 3, 4, 5, 0, 1, 6] _ (by decide) (by kernel_rfl)) (fun h => TakeSpare_no hL (St.mok (s := s) s0 ns) (by omega) _ h)) ?_
              clear H
              intro v15 H
              refine x_val (.tuple #[.int .i64 0, .int .i64 52]) (by kernel_rfl) rfl (by kernel_rfl) ?_
              refine x_val (.int .i64 0) (by kernel_rfl) rfl (by kernel_rfl) ?_
              refine x_val (.int .i64 52) (by kernel_rfl) rfl (by kernel_rfl) ?_
              refine x_val (.int .i64 0) (by kernel_rfl) rfl (by kernel_rfl) ?_
              refine x_val (.int .i64 52) (by kernel_rfl) rfl (by kernel_rfl) ?_
              refine x_nil ?_
              refine x_then ?_
              refine x_seq ?_
              refine x_region ?_
              refine x_val (.int .i64 52) (by kernel_rfl) rfl (by kernel_rfl) ?_
              refine x_val (.bool false) (by kernel_rfl) rfl (by kernel_rfl) ?_
              refine x_val (.bool false) (by kernel_rfl) rfl (by kernel_rfl) ?_
              refine x_skip (by kernel_rfl) ?_
              refine x_skip (by kernel_rfl) ?_
              refine x_skip (by kernel_rfl) ?_
              refine x_skip (by kernel_rfl) ?_
              refine x_skip (by kernel_rfl) ?_
              refine x_val (.bool false) (by kernel_rfl) rfl (by kernel_rfl) ?_
              refine x_nil ?_
              refine x_frame' { tmps := #[.agg #[.int .i64 r, .int .i64 s, .int .i64 b, .int .i64 o, .int .i64 c, .int .i64 y, .int .i64 z], .slice ad nA cA, .int .i64 home, .int .i64 rank, .pointer (some ⟨g1, 0, none⟩), undef, undef, undef, .bool false, .pointer (some ⟨p, 0, none⟩), .int .i64 0, undef, u12, u13, u14, .slice (some ⟨g3, 0, none⟩) N c3, .int .i64 (((sn : Nat) : Int) + ((pu : Nat) : Int)), .bool true, undef, undef, undef, undef, undef, undef, .int .i64 0, .int .i64 52, undef, undef, undef, .bool true, .bool false, .agg #[.int .i64 r, .int .i64 s, .int .i64 b, .int .i64 o, .int .i64 c, .int .i64 y, .int .i64 z], .bool true, .bool false, .bool false, .slice ad nA cA, .int .i64 ((nA : Nat) : Int), .bool false, .bool false, .tuple #[.pointer (some ⟨p, 0, none⟩), .int .i64 0], .agg #[.int .i64 r, .int .i64 s, .int .i64 b, .int .i64 o, .int .i64 c, .int .i64 y, .int .i64 z], .tuple #[.pointer (some ⟨p, 0, none⟩), .int .i64 0], .pointer (some ⟨p, 0, none⟩), .int .i64 0, .int .i64 0, .bool false, .bool false, .pointer (some ⟨p, 0, none⟩), .bool false, .bool false, undef, undef, .slice ad nA cA, .int .i64 ((nA : Nat) : Int), .int .i64 ((k : Nat) : Int), .bool false, u56, u57, u58, u59, u60, u61, u62, u63, u64, u65, u66, u67, u68, u69, u70, u71, u72, u73, u74, u75, u76, u77, u78, u79, u80, u81, u82, .pointer (some ⟨p, 0, none⟩), .slice (some ⟨g2, 0, none⟩) N c2, .tuple #[.int .i64 (((sn : Nat) : Int) + ((pu : Nat) : Int)), .bool true], .pointer (some ⟨p, 0, none⟩), .tuple #[.int .i64 (((sn : Nat) : Int) + ((pu : Nat) : Int)), .bool true], .int .i64 (((sn : Nat) : Int) + ((pu : Nat) : Int)), .bool true, .bool true, .bool true, .pointer (some ⟨p, 0, none⟩), .int .i64 home, .bool false, .bool false, undef, undef, undef, undef, undef, undef, undef, undef, undef, undef, undef, undef, undef, undef, undef, undef, undef, undef, undef, undef, undef, undef, undef, undef, undef, undef, undef, undef, undef, undef, undef, undef, undef, undef, undef, undef, undef, undef, undef, undef, undef, undef, undef, undef, undef, .pointer (some ⟨p, 0, none⟩), .slice (some ⟨g3, 0, none⟩) N c3, .tuple #[.int .i64 0, .int .i64 52], .pointer (some ⟨p, 0, none⟩), .tuple #[.int .i64 0, .int .i64 52], .int .i64 0, .int .i64 52, .int .i64 52, .bool false, .bool false, undef, undef, undef, undef, undef, .bool false, undef, undef, undef, undef, undef, undef, undef, undef, undef, undef, undef, undef, undef, undef, undef, undef, undef, undef, undef, undef, undef, undef, undef, undef, undef, undef, undef, undef, undef, undef, undef, undef, undef, undef, undef, undef, undef, undef, undef, undef, undef, undef], defers := [] } (by kernel_rfl) ?_
              refine x_then ?_
              refine x_f (by kernel_rfl) ?_
              refine x_skipc ?_
              refine x_then ?_
              refine x_seq ?_
              refine x_region ?_
              refine x_val (.bool true) (by kernel_rfl) rfl (by kernel_rfl) ?_
              refine x_nil ?_
              refine x_then ?_
              refine x_retc ?_
              refine x_ret (.bool true) (by kernel_rfl) (by kernel_rfl) ?_
              exact ⟨rfl, H.below⟩
          · skip
            refine x_t (by kernel_rfl) ?_
            refine x_seq ?_
            refine x_region ?_
            refine x_val (.pointer (some ⟨p, 0, none⟩)) (by kernel_rfl) rfl (by kernel_rfl) ?_
            refine x_callH (.tuple #[.int .i64 (((sn : Nat) : Int) + ((pu : Nat) : Int)), .int .i64 0]) [.blk p #[.int .i64 r, .int .i64 s, .int .i64 b, .int .i64 o, .int .i64 c, .int .i64 y, .int .i64 z, .slice (some ⟨gl, 0, none⟩) sn cl, .slice (some ⟨gd, 0, none⟩) pg cd, .slice (some ⟨gs, 0, none⟩) ns cs, .int .i64 (((pu + 1) : Nat) : Int), .int .i64 ((0 : Nat) : Int)] 181, .row (.slice (some ⟨gl, 0, none⟩) sn cl) 3 1 sn (List.map (Value.int .i64) L), .row (.slice (some ⟨gd, 0, none⟩) pg cd) 4 1 pg (List.map Value.bool D), .row (.slice (some ⟨gs, 0, none⟩) ns cs) 3 1 ns (List.map (Value.int .i64) (List.replicate ns (-1))), .row (.slice (some ⟨g2, 0, none⟩) N c2) 3 1 N (List.map (Value.int .i64) (idxs y r b o (List.replicate ns (-1)) L C N)), .blk g1 #[.int .i64 r, .int .i64 s, .int .i64 b, .int .i64 o, .int .i64 c, .int .i64 y, .int .i64 z] 69] (by kernel_rfl) rfl (by kernel_rfl) (Hs.use (A := [.blk p #[.int .i64 r, .int .i64 s, .int .i64 b, .int .i64 o, .int .i64 c, .int .i64 y, .int .i64 z, .slice (some ⟨gl, 0, none⟩) sn cl, .slice (some ⟨gd, 0, none⟩) pg cd, .slice (some ⟨gs, 0, none⟩) ns cs, .int .i64 ((pu : Nat) : Int), .int .i64 ((0 : Nat) : Int)] 181, .row (.slice (some ⟨gl, 0, none⟩) sn cl) 3 1 sn (List.map (Value.int .i64) L), .row (.slice (some ⟨gd, 0, none⟩) pg cd) 4 1 pg (List.map Value.bool D), .row (.slice (some ⟨gs, 0, none⟩) ns cs) 3 1 ns (List.map (Value.int .i64) (List.replicate ns (-1)))]) (R := [.row (.slice (some ⟨g2, 0, none⟩) N c2) 3 1 N (List.map (Value.int .i64) (idxs y r b o (List.replicate ns (-1)) L C N)), .blk g1 #[.int .i64 r, .int .i64 s, .int .i64 b, .int .i64 o, .int .i64 c, .int .i64 y, .int .i64 z] 69]) (H.pick [1, 2, 3, 4, 0, 5] _ (by decide) (by kernel_rfl)) (fun h => TakePage_yes hL (St.mok (s := s) s0 ns) (by omega) _ h)) ?_
            clear H
            intro v16 H
            refine x_nil ?_
            refine x_then ?_
            refine x_seq ?_
            refine x_seq ?_
            refine x_region ?_
            refine x_val (.pointer (some ⟨p, 0, none⟩)) (by kernel_rfl) rfl (by kernel_rfl) ?_
            refine x_val (.int .i64 home) (by kernel_rfl) rfl (by kernel_rfl) ?_
            refine x_val (.int .i64 (((sn : Nat) : Int) + ((pu : Nat) : Int))) (by kernel_rfl) rfl (by kernel_rfl) ?_
            obtain ⟨hn, eh, hh, dh⟩ := usedB_parts h5
            have St' := St.next hh (by have := St.hp; omega)
            refine x_callH (.int .i64 0) [.blk p #[.int .i64 r, .int .i64 s, .int .i64 b, .int .i64 o, .int .i64 c, .int .i64 y, .int .i64 z, .slice (some ⟨gl, 0, none⟩) sn cl, .slice (some ⟨gd, 0, none⟩) pg cd, .slice (some ⟨gs, 0, none⟩) ns cs, .int .i64 (((pu + 1) : Nat) : Int), .int .i64 ((0 : Nat) : Int)] 181, .row (.slice (some ⟨gl, 0, none⟩) sn cl) 3 1 sn (List.map (Value.int .i64) (retL ((hn : Nat) : Int) ((sn : Int) + pu) L)), .row (.slice (some ⟨gd, 0, none⟩) pg cd) 4 1 pg (List.map Value.bool (D.set hn true)), .row (.slice (some ⟨gs, 0, none⟩) ns cs) 3 1 ns (List.map (Value.int .i64) (List.replicate ns (-1))), .row (.slice (some ⟨g2, 0, none⟩) N c2) 3 1 N (List.map (Value.int .i64) (idxs y r b o (List.replicate ns (-1)) L C N)), .blk g1 #[.int .i64 r, .int .i64 s, .int .i64 b, .int .i64 o, .int .i64 c, .int .i64 y, .int .i64 z] 69] (by kernel_rfl) rfl (by kernel_rfl) (Hs.use (A := [.blk p #[.int .i64 r, .int .i64 s, .int .i64 b, .int .i64 o, .int .i64 c, .int .i64 y, .int .i64 z, .slice (some ⟨gl, 0, none⟩) sn cl, .slice (some ⟨gd, 0, none⟩) pg cd, .slice (some ⟨gs, 0, none⟩) ns cs, .int .i64 (((pu + 1) : Nat) : Int), .int .i64 ((0 : Nat) : Int)] 181, .row (.slice (some ⟨gl, 0, none⟩) sn cl) 3 1 sn (List.map (Value.int .i64) L), .row (.slice (some ⟨gd, 0, none⟩) pg cd) 4 1 pg (List.map Value.bool D), .row (.slice (some ⟨gs, 0, none⟩) ns cs) 3 1 ns (List.map (Value.int .i64) (List.replicate ns (-1)))]) (R := [.row (.slice (some ⟨g2, 0, none⟩) N c2) 3 1 N (List.map (Value.int .i64) (idxs y r b o (List.replicate ns (-1)) L C N)), .blk g1 #[.int .i64 r, .int .i64 s, .int .i64 b, .int .i64 o, .int .i64 c, .int .i64 y, .int .i64 z] 69]) (H.pick [0, 1, 2, 3, 4, 5] _ (by decide) (by kernel_rfl)) (fun h => Retire_at hL St _ hn eh hh (by have := St.hp; omega) dh _ h)) ?_
            clear H
            intro v17 H
            refine x_val (.bool false) (by kernel_rfl) rfl (by kernel_rfl) ?_
            refine x_val (.bool false) (by kernel_rfl) rfl (by kernel_rfl) ?_
            refine x_val (.pointer (some ⟨p, 0, none⟩)) (by kernel_rfl) rfl (by kernel_rfl) ?_
            refine x_val (.int .i64 home) (by kernel_rfl) rfl (by kernel_rfl) ?_
            refine x_callB (.bool false) H (by kernel_rfl) rfl (by kernel_rfl) (by have := Used_at hL St' home _ (H.roOf [0, 1, 2, 3] [.blk p #[.int .i64 r, .int .i64 s, .int .i64 b, .int .i64 o, .int .i64 c, .int .i64 y, .int .i64 z, .slice (some ⟨gl, 0, none⟩) sn cl, .slice (some ⟨gd, 0, none⟩) pg cd, .slice (some ⟨gs, 0, none⟩) ns cs, .int .i64 (((pu + 1) : Nat) : Int), .int .i64 ((0 : Nat) : Int)] 181, .row (.slice (some ⟨gl, 0, none⟩) sn cl) 3 1 sn (List.map (Value.int .i64) (retL ((hn : Nat) : Int) ((sn : Int) + pu) L)), .row (.slice (some ⟨gd, 0, none⟩) pg cd) 4 1 pg (List.map Value.bool (D.set hn true)), .row (.slice (some ⟨gs, 0, none⟩) ns cs) 3 1 ns (List.map (Value.int .i64) (List.replicate ns (-1)))] (by kernel_rfl)); rwa [usedB_self hn eh (by have := St.hD; omega)] at this) ?_
            clear H
            intro v18 H
            refine x_val (.bool false) (by kernel_rfl) rfl (by kernel_rfl) ?_
            refine x_val (.bool false) (by kernel_rfl) rfl (by kernel_rfl) ?_
            refine x_val (.pointer (some ⟨p, 0, none⟩)) (by kernel_rfl) rfl (by kernel_rfl) ?_
            refine x_val (.int .i64 (((sn : Nat) : Int) + ((pu : Nat) : Int))) (by kernel_rfl) rfl (by kernel_rfl) ?_
            refine x_callB (.bool true) H (by kernel_rfl) rfl (by kernel_rfl) (by have := Used_at hL St' (((sn : Nat) : Int) + ((pu : Nat) : Int)) _ (H.roOf [0, 1, 2, 3] [.blk p #[.int .i64 r, .int .i64 s, .int .i64 b, .int .i64 o, .int .i64 c, .int .i64 y, .int .i64 z, .slice (some ⟨gl, 0, none⟩) sn cl, .slice (some ⟨gd, 0, none⟩) pg cd, .slice (some ⟨gs, 0, none⟩) ns cs, .int .i64 (((pu + 1) : Nat) : Int), .int .i64 ((0 : Nat) : Int)] 181, .row (.slice (some ⟨gl, 0, none⟩) sn cl) 3 1 sn (List.map (Value.int .i64) (retL ((hn : Nat) : Int) ((sn : Int) + pu) L)), .row (.slice (some ⟨gd, 0, none⟩) pg cd) 4 1 pg (List.map Value.bool (D.set hn true)), .row (.slice (some ⟨gs, 0, none⟩) ns cs) 3 1 ns (List.map (Value.int .i64) (List.replicate ns (-1)))] (by kernel_rfl)); rwa [usedB_new St hh] at this) ?_
            clear H
            intro v19 H
            refine x_val (.bool false) (by kernel_rfl) rfl (by kernel_rfl) ?_
            refine x_val (.bool false) (by kernel_rfl) rfl (by kernel_rfl) ?_
            refine x_nil ?_
            refine x_frame' { tmps := #[.agg #[.int .i64 r, .int .i64 s, .int .i64 b, .int .i64 o, .int .i64 c, .int .i64 y, .int .i64 z], .slice ad nA cA, .int .i64 home, .int .i64 rank, .pointer (some ⟨g1, 0, none⟩), undef, undef, undef, .bool false, .pointer (some ⟨p, 0, none⟩), .int .i64 0, undef, u12, u13, u14, .slice (some ⟨g2, 0, none⟩) N c2, .int .i64 (((sn : Nat) : Int) + ((pu : Nat) : Int)), .bool true, undef, undef, undef, undef, undef, undef, undef, undef, undef, undef, undef, .bool true, .bool false, .agg #[.int .i64 r, .int .i64 s, .int .i64 b, .int .i64 o, .int .i64 c, .int .i64 y, .int .i64 z], .bool true, .bool false, .bool false, .slice ad nA cA, .int .i64 ((nA : Nat) : Int), .bool false, .bool false, .tuple #[.pointer (some ⟨p, 0, none⟩), .int .i64 0], .agg #[.int .i64 r, .int .i64 s, .int .i64 b, .int .i64 o, .int .i64 c, .int .i64 y, .int .i64 z], .tuple #[.pointer (some ⟨p, 0, none⟩), .int .i64 0], .pointer (some ⟨p, 0, none⟩), .int .i64 0, .int .i64 0, .bool false, .bool false, .pointer (some ⟨p, 0, none⟩), .bool false, .bool false, undef, undef, .slice ad nA cA, .int .i64 ((nA : Nat) : Int), .int .i64 ((k : Nat) : Int), .bool false, u56, u57, u58, u59, u60, u61, u62, u63, u64, u65, u66, u67, u68, u69, u70, u71, u72, u73, u74, u75, u76, u77, u78, u79, u80, u81, u82, .pointer (some ⟨p, 0, none⟩), .slice (some ⟨g2, 0, none⟩) N c2, .tuple #[.int .i64 (((sn : Nat) : Int) + ((pu : Nat) : Int)), .bool true], .pointer (some ⟨p, 0, none⟩), .tuple #[.int .i64 (((sn : Nat) : Int) + ((pu : Nat) : Int)), .bool true], .int .i64 (((sn : Nat) : Int) + ((pu : Nat) : Int)), .bool true, .bool true, .bool true, .pointer (some ⟨p, 0, none⟩), .int .i64 home, .bool true, .bool true, .pointer (some ⟨p, 0, none⟩), .tuple #[.int .i64 (((sn : Nat) : Int) + ((pu : Nat) : Int)), .int .i64 0], .pointer (some ⟨p, 0, none⟩), .int .i64 home, .int .i64 (((sn : Nat) : Int) + ((pu : Nat) : Int)), .int .i64 0, .bool false, .bool false, .pointer (some ⟨p, 0, none⟩), .int .i64 home, .bool false, .bool false, .bool false, .pointer (some ⟨p, 0, none⟩), .int .i64 (((sn : Nat) : Int) + ((pu : Nat) : Int)), .bool true, .bool false, .bool false, undef, undef, undef, undef, undef, undef, undef, undef, undef, undef, undef, undef, undef, undef, undef, undef, undef, undef, undef, undef, undef, undef, undef, undef, undef, undef, undef, undef, undef, undef, undef, undef, undef, undef, undef, undef, undef, undef, undef, undef, undef, undef, undef, undef, undef, undef, undef, undef, undef, undef, undef, undef, undef, undef, undef, undef, undef, undef, undef, undef, undef, undef, undef, undef, undef, undef, undef, undef, undef, undef, undef, undef, undef, undef, undef, undef, undef, undef, undef, undef, undef, undef, undef, undef, undef], defers := [] } (by kernel_rfl) ?_
            refine x_then ?_
            refine x_f (by kernel_rfl) ?_
            refine x_skipc ?_
            refine x_then ?_
            refine x_seq ?_
            refine x_region ?_
            refine x_val (.pointer (some ⟨p, 0, none⟩)) (by kernel_rfl) rfl (by kernel_rfl) ?_
            refine x_call (by kernel_rfl) rfl (by kernel_rfl) (indices_w hL (St'.mok (s := s) s0 ns) hC hN (fun k hk => by have := St'.lv k hk; have := St'.hp; omega) (fun q hq => .inl (rep_none hq)) _ (H.roOf [0, 1, 2, 3] [.blk p #[.int .i64 r, .int .i64 s, .int .i64 b, .int .i64 o, .int .i64 c, .int .i64 y, .int .i64 z, .slice (some ⟨gl, 0, none⟩) sn cl, .slice (some ⟨gd, 0, none⟩) pg cd, .slice (some ⟨gs, 0, none⟩) ns cs, .int .i64 (((pu + 1) : Nat) : Int), .int .i64 ((0 : Nat) : Int)] 181, .row (.slice (some ⟨gl, 0, none⟩) sn cl) 3 1 sn (List.map (Value.int .i64) (retL ((hn : Nat) : Int) ((sn : Int) + pu) L)), .row (.slice (some ⟨gd, 0, none⟩) pg cd) 4 1 pg (List.map Value.bool (D.set hn true)), .row (.slice (some ⟨gs, 0, none⟩) ns cs) 3 1 ns (List.map (Value.int .i64) (List.replicate ns (-1)))] (by kernel_rfl))) ?_
            rintro _ v20 ⟨g5, c5, rfl, hX⟩
            refine ⟨_, rfl, ?_⟩
            replace H := H.more hX
            clear hX
            replace H : Hs [] w0 _ [.row (.slice (some ⟨g5, 0, none⟩) N c5) 3 1 N (List.map (Value.int .i64) (idxs y r b o (List.replicate ns (-1)) (retL ((hn : Nat) : Int) ((sn : Int) + pu) L) C N)), .blk p #[.int .i64 r, .int .i64 s, .int .i64 b, .int .i64 o, .int .i64 c, .int .i64 y, .int .i64 z, .slice (some ⟨gl, 0, none⟩) sn cl, .slice (some ⟨gd, 0, none⟩) pg cd, .slice (some ⟨gs, 0, none⟩) ns cs, .int .i64 (((pu + 1) : Nat) : Int), .int .i64 ((0 : Nat) : Int)] 181, .row (.slice (some ⟨gl, 0, none⟩) sn cl) 3 1 sn (List.map (Value.int .i64) (retL ((hn : Nat) : Int) ((sn : Int) + pu) L)), .row (.slice (some ⟨gd, 0, none⟩) pg cd) 4 1 pg (List.map Value.bool (D.set hn true)), .row (.slice (some ⟨gs, 0, none⟩) ns cs) 3 1 ns (List.map (Value.int .i64) (List.replicate ns (-1))), .row (.slice (some ⟨g2, 0, none⟩) N c2) 3 1 N (List.map (Value.int .i64) (idxs y r b o (List.replicate ns (-1)) L C N)), .blk g1 #[.int .i64 r, .int .i64 s, .int .i64 b, .int .i64 o, .int .i64 c, .int .i64 y, .int .i64 z] 69] := H
            refine x_val (.int .i64 ((N : Nat) : Int)) (by kernel_rfl) rfl (by kernel_rfl) ?_
            refine x_val (.int .i64 0) (by kernel_rfl) rfl (by kernel_rfl) ?_
            refine x_nil ?_
            refine x_then ?_
            refine x_block ?_
            refine x_loop (G := Nat) (fun (n : Nat) a w' => ∃ u8 : Value, ∃ u18 : Value, ∃ u19 : Value, ∃ u20 : Value, ∃ u21 : Value, ∃ u22 : Value, ∃ u23 : Value, ∃ u118 : Value, ∃ u119 : Value, ∃ u120 : Value, ∃ u121 : Value, ∃ u122 : Value, ∃ u123 : Value, ∃ u124 : Value, ∃ u125 : Value, ∃ u126 : Value, ∃ u127 : Value, ∃ u128 : Value, ∃ u129 : Value, ∃ u130 : Value, ∃ u131 : Value, ∃ u132 : Value, ∃ u133 : Value, ∃ u134 : Value, ∃ u135 : Value, ∃ u136 : Value, ∃ u137 : Value, ∃ u138 : Value, ∃ u139 : Value, ∃ u140 : Value, a = { tmps := #[.agg #[.int .i64 r, .int .i64 s, .int .i64 b, .int .i64 o, .int .i64 c, .int .i64 y, .int .i64 z], .slice ad nA cA, .int .i64 home, .int .i64 rank, .pointer (some ⟨g1, 0, none⟩), undef, undef, undef, u8, .pointer (some ⟨p, 0, none⟩), .int .i64 0, undef, u12, u13, u14, .slice (some ⟨g2, 0, none⟩) N c2, .int .i64 (((sn : Nat) : Int) + ((pu : Nat) : Int)), .bool true, u18, u19, u20, u21, u22, u23, undef, undef, undef, undef, undef, .bool true, .bool false, .agg #[.int .i64 r, .int .i64 s, .int .i64 b, .int .i64 o, .int .i64 c, .int .i64 y, .int .i64 z], .bool true, .bool false, .bool false, .slice ad nA cA, .int .i64 ((nA : Nat) : Int), .bool false, .bool false, .tuple #[.pointer (some ⟨p, 0, none⟩), .int .i64 0], .agg #[.int .i64 r, .int .i64 s, .int .i64 b, .int .i64 o, .int .i64 c, .int .i64 y, .int .i64 z], .tuple #[.pointer (some ⟨p, 0, none⟩), .int .i64 0], .pointer (some ⟨p, 0, none⟩), .int .i64 0, .int .i64 0, .bool false, .bool false, .pointer (some ⟨p, 0, none⟩), .bool false, .bool false, undef, undef, .slice ad nA cA, .int .i64 ((nA : Nat) : Int), .int .i64 ((k : Nat) : Int), .bool false, u56, u57, u58, u59, u60, u61, u62, u63, u64, u65, u66, u67, u68, u69, u70, u71, u72, u73, u74, u75, u76, u77, u78, u79, u80, u81, u82, .pointer (some ⟨p, 0, none⟩), .slice (some ⟨g2, 0, none⟩) N c2, .tuple #[.int .i64 (((sn : Nat) : Int) + ((pu : Nat) : Int)), .bool true], .pointer (some ⟨p, 0, none⟩), .tuple #[.int .i64 (((sn : Nat) : Int) + ((pu : Nat) : Int)), .bool true], .int .i64 (((sn : Nat) : Int) + ((pu : Nat) : Int)), .bool true, .bool true, .bool true, .pointer (some ⟨p, 0, none⟩), .int .i64 home, .bool true, .bool true, .pointer (some ⟨p, 0, none⟩), .tuple #[.int .i64 (((sn : Nat) : Int) + ((pu : Nat) : Int)), .int .i64 0], .pointer (some ⟨p, 0, none⟩), .int .i64 home, .int .i64 (((sn : Nat) : Int) + ((pu : Nat) : Int)), .int .i64 0, .bool false, .bool false, .pointer (some ⟨p, 0, none⟩), .int .i64 home, .bool false, .bool false, .bool false, .pointer (some ⟨p, 0, none⟩), .int .i64 (((sn : Nat) : Int) + ((pu : Nat) : Int)), .bool true, .bool false, .bool false, .pointer (some ⟨p, 0, none⟩), .slice (some ⟨g5, 0, none⟩) N c5, .int .i64 ((N : Nat) : Int), .int .i64 ((n : Nat) : Int), u118, u119, u120, u121, u122, u123, u124, u125, u126, u127, u128, u129, u130, u131, u132, u133, u134, u135, u136, u137, u138, u139, u140, undef, undef, undef, undef, undef, undef, undef, undef, undef, undef, undef, undef, undef, undef, undef, undef, undef, undef, undef, undef, undef, undef, undef, undef, undef, undef, undef, undef, undef, undef, undef, undef, undef, undef, undef, undef, undef, undef, undef, undef, undef, undef, undef, undef, undef, undef, undef, undef, undef, undef, undef, undef, undef, undef, undef, undef, undef, undef], defers := [] } ∧ Hs [] w0 w' [.row (.slice (some ⟨g5, 0, none⟩) N c5) 3 1 N (List.map (Value.int .i64) (idxs y r b o (List.replicate ns (-1)) (retL ((hn : Nat) : Int) ((sn : Int) + pu) L) C N)), .blk p #[.int .i64 r, .int .i64 s, .int .i64 b, .int .i64 o, .int .i64 c, .int .i64 y, .int .i64 z, .slice (some ⟨gl, 0, none⟩) sn cl, .slice (some ⟨gd, 0, none⟩) pg cd, .slice (some ⟨gs, 0, none⟩) ns cs, .int .i64 (((pu + 1) : Nat) : Int), .int .i64 ((0 : Nat) : Int)] 181, .row (.slice (some ⟨gl, 0, none⟩) sn cl) 3 1 sn (List.map (Value.int .i64) (retL ((hn : Nat) : Int) ((sn : Int) + pu) L)), .row (.slice (some ⟨gd, 0, none⟩) pg cd) 4 1 pg (List.map Value.bool (D.set hn true)), .row (.slice (some ⟨gs, 0, none⟩) ns cs) 3 1 ns (List.map (Value.int .i64) (List.replicate ns (-1))), .row (.slice (some ⟨g2, 0, none⟩) N c2) 3 1 N (List.map (Value.int .i64) (idxs y r b o (List.replicate ns (-1)) L C N)), .blk g1 #[.int .i64 r, .int .i64 s, .int .i64 b, .int .i64 o, .int .i64 c, .int .i64 y, .int .i64 z] 69] ∧ (n ≤ N)) (fun (n : Nat) => N - n) 0 ⟨.bool false, undef, undef, undef, undef, undef, undef, undef, undef, undef, undef, undef, undef, undef, undef, undef, undef, undef, undef, undef, undef, undef, undef, undef, undef, undef, undef, undef, undef, undef, (by kernel_rfl), H, (Nat.zero_le _)⟩ ?_
            clear H
            rintro n _ v21 ⟨u8, u18, u19, u20, u21, u22, u23, u118, u119, u120, u121, u122, u123, u124, u125, u126, u127, u128, u129, u130, u131, u132, u133, u134, u135, u136, u137, u138, u139, u140, rfl, H, r1⟩
            have hl0 := idxs_len y r b o (List.replicate ns (-1)) (retL ((hn : Nat) : Int) ((sn : Int) + pu) L) C N
            have hl5 := idxs_len y r b o (List.replicate ns (-1)) L C N
            refine x_seq ?_
            refine x_region ?_
            refine x_val (.bool (decide (((n : Nat) : Int) < ((N : Nat) : Int)))) (by kernel_rfl) rfl (by kernel_rfl) ?_
            refine x_nil ?_
            refine x_then ?_
            refine x_seq ?_
            cases h12 : decide (((n : Nat) : Int) < ((N : Nat) : Int))
            · skip
              have h12p := of_decide_eq_false h12
              refine x_f (by kernel_rfl) ?_
              refine x_exit ?_
              refine x_then_exit ?_
              refine x_then_exit ?_
              refine x_blk_exit ?_
              refine x_then ?_
              refine x_seq ?_
              refine x_region ?_
              refine x_val (.pointer (some ⟨p, 0, none⟩)) (by kernel_rfl) rfl (by kernel_rfl) ?_
              refine x_call (by kernel_rfl) rfl (by kernel_rfl) (indices_w hL (St'.mok (s := s) s0 ns) hC hN (fun k hk => by have := St'.lv k hk; have := St'.hp; omega) (fun q hq => .inl (rep_none hq)) _ (H.roOf [1, 2, 3, 4] [.blk p #[.int .i64 r, .int .i64 s, .int .i64 b, .int .i64 o, .int .i64 c, .int .i64 y, .int .i64 z, .slice (some ⟨gl, 0, none⟩) sn cl, .slice (some ⟨gd, 0, none⟩) pg cd, .slice (some ⟨gs, 0, none⟩) ns cs, .int .i64 (((pu + 1) : Nat) : Int), .int .i64 ((0 : Nat) : Int)] 181, .row (.slice (some ⟨gl, 0, none⟩) sn cl) 3 1 sn (List.map (Value.int .i64) (retL ((hn : Nat) : Int) ((sn : Int) + pu) L)), .row (.slice (some ⟨gd, 0, none⟩) pg cd) 4 1 pg (List.map Value.bool (D.set hn true)), .row (.slice (some ⟨gs, 0, none⟩) ns cs) 3 1 ns (List.map (Value.int .i64) (List.replicate ns (-1)))] (by kernel_rfl))) ?_
              rintro _ v22 ⟨g6, c6, rfl, hX⟩
              refine ⟨_, rfl, ?_⟩
              replace H := H.more hX
              clear hX
              replace H : Hs [] w0 _ [.row (.slice (some ⟨g6, 0, none⟩) N c6) 3 1 N (List.map (Value.int .i64) (idxs y r b o (List.replicate ns (-1)) (retL ((hn : Nat) : Int) ((sn : Int) + pu) L) C N)), .row (.slice (some ⟨g5, 0, none⟩) N c5) 3 1 N (List.map (Value.int .i64) (idxs y r b o (List.replicate ns (-1)) (retL ((hn : Nat) : Int) ((sn : Int) + pu) L) C N)), .blk p #[.int .i64 r, .int .i64 s, .int .i64 b, .int .i64 o, .int .i64 c, .int .i64 y, .int .i64 z, .slice (some ⟨gl, 0, none⟩) sn cl, .slice (some ⟨gd, 0, none⟩) pg cd, .slice (some ⟨gs, 0, none⟩) ns cs, .int .i64 (((pu + 1) : Nat) : Int), .int .i64 ((0 : Nat) : Int)] 181, .row (.slice (some ⟨gl, 0, none⟩) sn cl) 3 1 sn (List.map (Value.int .i64) (retL ((hn : Nat) : Int) ((sn : Int) + pu) L)), .row (.slice (some ⟨gd, 0, none⟩) pg cd) 4 1 pg (List.map Value.bool (D.set hn true)), .row (.slice (some ⟨gs, 0, none⟩) ns cs) 3 1 ns (List.map (Value.int .i64) (List.replicate ns (-1))), .row (.slice (some ⟨g2, 0, none⟩) N c2) 3 1 N (List.map (Value.int .i64) (idxs y r b o (List.replicate ns (-1)) L C N)), .blk g1 #[.int .i64 r, .int .i64 s, .int .i64 b, .int .i64 o, .int .i64 c, .int .i64 y, .int .i64 z] 69] := H
              refine x_val (.slice (some ⟨g6, 0, none⟩) N c6) (by kernel_rfl) rfl (by kernel_rfl) ?_
              refine x_nil ?_
              refine x_then ?_
              refine x_seq ?_
              refine x_seq ?_
              refine x_region ?_
              refine x_val (.pointer (some ⟨p, 0, none⟩)) (by kernel_rfl) rfl (by kernel_rfl) ?_
              cases h13 : decide (((0 : Nat) : Int) = s)
              · skip
                have h13p := of_decide_eq_false h13
                refine x_callH (.tuple #[.int .i64 (r + ((0 : Nat) : Int)), .int .i64 0]) [.blk p #[.int .i64 r, .int .i64 s, .int .i64 b, .int .i64 o, .int .i64 c, .int .i64 y, .int .i64 z, .slice (some ⟨gl, 0, none⟩) sn cl, .slice (some ⟨gd, 0, none⟩) pg cd, .slice (some ⟨gs, 0, none⟩) ns cs, .int .i64 (((pu + 1) : Nat) : Int), .int .i64 (((0 + 1) : Nat) : Int)] 181, .row (.slice (some ⟨gl, 0, none⟩) sn cl) 3 1 sn (List.map (Value.int .i64) (retL ((hn : Nat) : Int) ((sn : Int) + pu) L)), .row (.slice (some ⟨gd, 0, none⟩) pg cd) 4 1 pg (List.map Value.bool (D.set hn true)), .row (.slice (some ⟨gs, 0, none⟩) ns cs) 3 1 ns (List.map (Value.int .i64) (List.replicate ns (-1))), .row (.slice (some ⟨g6, 0, none⟩) N c6) 3 1 N (List.map (Value.int .i64) (idxs y r b o (List.replicate ns (-1)) (retL ((hn : Nat) : Int) ((sn : Int) + pu) L) C N)), .row (.slice (some ⟨g5, 0, none⟩) N c5) 3 1 N (List.map (Value.int .i64) (idxs y r b o (List.replicate ns (-1)) (retL ((hn : Nat) : Int) ((sn : Int) + pu) L) C N)), .row (.slice (some ⟨g2, 0, none⟩) N c2) 3 1 N (List.map (Value.int .i64) (idxs y r b o (List.replicate ns (-1)) L C N)), .blk g1 #[.int .i64 r, .int .i64 s, .int .i64 b, .int .i64 o, .int .i64 c, .int .i64 y, .int .i64 z] 69] (by kernel_rfl) rfl (by kernel_rfl) (Hs.use (A := [.blk p #[.int .i64 r, .int .i64 s, .int .i64 b, .int .i64 o, .int .i64 c, .int .i64 y, .int .i64 z, .slice (some ⟨gl, 0, none⟩) sn cl, .slice (some ⟨gd, 0, none⟩) pg cd, .slice (some ⟨gs, 0, none⟩) ns cs, .int .i64 (((pu + 1) : Nat) : Int), .int .i64 ((0 : Nat) : Int)] 181, .row (.slice (some ⟨gl, 0, none⟩) sn cl) 3 1 sn (List.map (Value.int .i64) (retL ((hn : Nat) : Int) ((sn : Int) + pu) L)), .row (.slice (some ⟨gd, 0, none⟩) pg cd) 4 1 pg (List.map Value.bool (D.set hn true)), .row (.slice (some ⟨gs, 0, none⟩) ns cs) 3 1 ns (List.map (Value.int .i64) (List.replicate ns (-1)))]) (R := [.row (.slice (some ⟨g6, 0, none⟩) N c6) 3 1 N (List.map (Value.int .i64) (idxs y r b o (List.replicate ns (-1)) (retL ((hn : Nat) : Int) ((sn : Int) + pu) L) C N)), .row (.slice (some ⟨g5, 0, none⟩) N c5) 3 1 N (List.map (Value.int .i64) (idxs y r b o (List.replicate ns (-1)) (retL ((hn : Nat) : Int) ((sn : Int) + pu) L) C N)), .row (.slice (some ⟨g2, 0, none⟩) N c2) 3 1 N (List.map (Value.int .i64) (idxs y r b o (List.replicate ns (-1)) L C N)), .blk g1 #[.int .i64 r, .int .i64 s, .int .i64 b, .int .i64 o, .int .i64 c, .int .i64 y, .int .i64 z] 69]) (H.pick [2, 3, 4, 5, 0, 1, 6, 7] _ (by decide) (by kernel_rfl)) (fun h => TakeSpare_yes hL (St'.mok (s := s) s0 ns) (by omega) _ h)) ?_
                clear H
                intro v23 H
                refine x_val (.tuple #[.int .i64 (r + ((0 : Nat) : Int)), .int .i64 0]) (by kernel_rfl) rfl (by kernel_rfl) ?_
                refine x_val (.int .i64 (r + ((0 : Nat) : Int))) (by kernel_rfl) rfl (by kernel_rfl) ?_
                refine x_val (.int .i64 0) (by kernel_rfl) rfl (by kernel_rfl) ?_
                refine x_val (.int .i64 (r + ((0 : Nat) : Int))) (by kernel_rfl) rfl (by kernel_rfl) ?_
                refine x_val (.int .i64 0) (by kernel_rfl) rfl (by kernel_rfl) ?_
                refine x_nil ?_
                refine x_then ?_
                refine x_seq ?_
                refine x_region ?_
                refine x_val (.int .i64 0) (by kernel_rfl) rfl (by kernel_rfl) ?_
                refine x_val (.bool true) (by kernel_rfl) rfl (by kernel_rfl) ?_
                refine x_val (.bool true) (by kernel_rfl) rfl (by kernel_rfl) ?_
                refine x_val (.pointer (some ⟨p, 0, none⟩)) (by kernel_rfl) rfl (by kernel_rfl) ?_
                refine x_val (.int .i64 rank) (by kernel_rfl) rfl (by kernel_rfl) ?_
                refine x_val (.int .i64 (r + ((0 : Nat) : Int))) (by kernel_rfl) rfl (by kernel_rfl) ?_
                cases h14 : decide (0 ≤ rank) && decide (rank < ((ns : Nat) : Int))
                · skip
                  have hM1 : MapOk z s sn pg ns _ _ (List.replicate ns (-1)) _ (0 + 1) := ⟨St'.hL, St'.hD, List.length_replicate, St'.hp, by omega⟩
                  refine x_callH (.int .i64 12) [.blk p #[.int .i64 r, .int .i64 s, .int .i64 b, .int .i64 o, .int .i64 c, .int .i64 y, .int .i64 z, .slice (some ⟨gl, 0, none⟩) sn cl, .slice (some ⟨gd, 0, none⟩) pg cd, .slice (some ⟨gs, 0, none⟩) ns cs, .int .i64 (((pu + 1) : Nat) : Int), .int .i64 (((0 + 1) : Nat) : Int)] 181, .row (.slice (some ⟨gl, 0, none⟩) sn cl) 3 1 sn (List.map (Value.int .i64) (retL ((hn : Nat) : Int) ((sn : Int) + pu) L)), .row (.slice (some ⟨gd, 0, none⟩) pg cd) 4 1 pg (List.map Value.bool (D.set hn true)), .row (.slice (some ⟨gs, 0, none⟩) ns cs) 3 1 ns (List.map (Value.int .i64) (List.replicate ns (-1))), .row (.slice (some ⟨g6, 0, none⟩) N c6) 3 1 N (List.map (Value.int .i64) (idxs y r b o (List.replicate ns (-1)) (retL ((hn : Nat) : Int) ((sn : Int) + pu) L) C N)), .row (.slice (some ⟨g5, 0, none⟩) N c5) 3 1 N (List.map (Value.int .i64) (idxs y r b o (List.replicate ns (-1)) (retL ((hn : Nat) : Int) ((sn : Int) + pu) L) C N)), .row (.slice (some ⟨g2, 0, none⟩) N c2) 3 1 N (List.map (Value.int .i64) (idxs y r b o (List.replicate ns (-1)) L C N)), .blk g1 #[.int .i64 r, .int .i64 s, .int .i64 b, .int .i64 o, .int .i64 c, .int .i64 y, .int .i64 z] 69] (by kernel_rfl) rfl (by kernel_rfl) (Hs.use (A := [.blk p #[.int .i64 r, .int .i64 s, .int .i64 b, .int .i64 o, .int .i64 c, .int .i64 y, .int .i64 z, .slice (some ⟨gl, 0, none⟩) sn cl, .slice (some ⟨gd, 0, none⟩) pg cd, .slice (some ⟨gs, 0, none⟩) ns cs, .int .i64 (((pu + 1) : Nat) : Int), .int .i64 (((0 + 1) : Nat) : Int)] 181, .row (.slice (some ⟨gl, 0, none⟩) sn cl) 3 1 sn (List.map (Value.int .i64) (retL ((hn : Nat) : Int) ((sn : Int) + pu) L)), .row (.slice (some ⟨gd, 0, none⟩) pg cd) 4 1 pg (List.map Value.bool (D.set hn true)), .row (.slice (some ⟨gs, 0, none⟩) ns cs) 3 1 ns (List.map (Value.int .i64) (List.replicate ns (-1)))]) (R := [.row (.slice (some ⟨g6, 0, none⟩) N c6) 3 1 N (List.map (Value.int .i64) (idxs y r b o (List.replicate ns (-1)) (retL ((hn : Nat) : Int) ((sn : Int) + pu) L) C N)), .row (.slice (some ⟨g5, 0, none⟩) N c5) 3 1 N (List.map (Value.int .i64) (idxs y r b o (List.replicate ns (-1)) (retL ((hn : Nat) : Int) ((sn : Int) + pu) L) C N)), .row (.slice (some ⟨g2, 0, none⟩) N c2) 3 1 N (List.map (Value.int .i64) (idxs y r b o (List.replicate ns (-1)) L C N)), .blk g1 #[.int .i64 r, .int .i64 s, .int .i64 b, .int .i64 o, .int .i64 c, .int .i64 y, .int .i64 z] 69]) (H.pick [0, 1, 2, 3, 4, 5, 6, 7] _ (by decide) (by kernel_rfl)) (fun h => Replace_out hL hM1 rank (r + ((0 : Nat) : Int)) (by simpa using h14) _ h)) ?_
                  clear H
                  intro v24 H
                  refine x_val (.bool false) (by kernel_rfl) rfl (by kernel_rfl) ?_
                  refine x_val (.bool false) (by kernel_rfl) rfl (by kernel_rfl) ?_
                  refine x_nil ?_
                  refine x_then ?_
                  refine x_f (by kernel_rfl) ?_
                  refine x_skipc ?_
                  refine x_then ?_
                  refine x_seq ?_
                  refine x_region ?_
                  refine x_val (.bool true) (by kernel_rfl) rfl (by kernel_rfl) ?_
                  refine x_nil ?_
                  refine x_then ?_
                  refine x_retc ?_
                  refine x_ret (.bool true) (by kernel_rfl) (by kernel_rfl) ?_
                  exact ⟨rfl, H.below⟩
                · skip
                  have hM1 : MapOk z s sn pg ns _ _ (List.replicate ns (-1)) _ (0 + 1) := ⟨St'.hL, St'.hD, List.length_replicate, St'.hp, by omega⟩
                  simp only [Bool.and_eq_true, decide_eq_true_eq] at h14
                  obtain ⟨qn, eq⟩ := Int.eq_ofNat_of_zero_le h14.1
                  have hqn : qn < ns := by omega
                  refine x_callH (.int .i64 0) [.blk p #[.int .i64 r, .int .i64 s, .int .i64 b, .int .i64 o, .int .i64 c, .int .i64 y, .int .i64 z, .slice (some ⟨gl, 0, none⟩) sn cl, .slice (some ⟨gd, 0, none⟩) pg cd, .slice (some ⟨gs, 0, none⟩) ns cs, .int .i64 (((pu + 1) : Nat) : Int), .int .i64 (((0 + 1) : Nat) : Int)] 181, .row (.slice (some ⟨gl, 0, none⟩) sn cl) 3 1 sn (List.map (Value.int .i64) (retL ((hn : Nat) : Int) ((sn : Int) + pu) L)), .row (.slice (some ⟨gd, 0, none⟩) pg cd) 4 1 pg (List.map Value.bool (D.set hn true)), .row (.slice (some ⟨gs, 0, none⟩) ns cs) 3 1 ns (List.map (Value.int .i64) ((List.replicate ns (-1)).set qn (r + ((0 : Nat) : Int)))), .row (.slice (some ⟨g6, 0, none⟩) N c6) 3 1 N (List.map (Value.int .i64) (idxs y r b o (List.replicate ns (-1)) (retL ((hn : Nat) : Int) ((sn : Int) + pu) L) C N)), .row (.slice (some ⟨g5, 0, none⟩) N c5) 3 1 N (List.map (Value.int .i64) (idxs y r b o (List.replicate ns (-1)) (retL ((hn : Nat) : Int) ((sn : Int) + pu) L) C N)), .row (.slice (some ⟨g2, 0, none⟩) N c2) 3 1 N (List.map (Value.int .i64) (idxs y r b o (List.replicate ns (-1)) L C N)), .blk g1 #[.int .i64 r, .int .i64 s, .int .i64 b, .int .i64 o, .int .i64 c, .int .i64 y, .int .i64 z] 69] (by kernel_rfl) rfl (by kernel_rfl) (Hs.use (A := [.blk p #[.int .i64 r, .int .i64 s, .int .i64 b, .int .i64 o, .int .i64 c, .int .i64 y, .int .i64 z, .slice (some ⟨gl, 0, none⟩) sn cl, .slice (some ⟨gd, 0, none⟩) pg cd, .slice (some ⟨gs, 0, none⟩) ns cs, .int .i64 (((pu + 1) : Nat) : Int), .int .i64 (((0 + 1) : Nat) : Int)] 181, .row (.slice (some ⟨gl, 0, none⟩) sn cl) 3 1 sn (List.map (Value.int .i64) (retL ((hn : Nat) : Int) ((sn : Int) + pu) L)), .row (.slice (some ⟨gd, 0, none⟩) pg cd) 4 1 pg (List.map Value.bool (D.set hn true)), .row (.slice (some ⟨gs, 0, none⟩) ns cs) 3 1 ns (List.map (Value.int .i64) (List.replicate ns (-1)))]) (R := [.row (.slice (some ⟨g6, 0, none⟩) N c6) 3 1 N (List.map (Value.int .i64) (idxs y r b o (List.replicate ns (-1)) (retL ((hn : Nat) : Int) ((sn : Int) + pu) L) C N)), .row (.slice (some ⟨g5, 0, none⟩) N c5) 3 1 N (List.map (Value.int .i64) (idxs y r b o (List.replicate ns (-1)) (retL ((hn : Nat) : Int) ((sn : Int) + pu) L) C N)), .row (.slice (some ⟨g2, 0, none⟩) N c2) 3 1 N (List.map (Value.int .i64) (idxs y r b o (List.replicate ns (-1)) L C N)), .blk g1 #[.int .i64 r, .int .i64 s, .int .i64 b, .int .i64 o, .int .i64 c, .int .i64 y, .int .i64 z] 69]) (H.pick [0, 1, 2, 3, 4, 5, 6, 7] _ (by decide) (by kernel_rfl)) (fun h => Replace_at hL hM1 _ eq (r + ((0 : Nat) : Int)) hqn (by omega) (by omega) (rep_none hqn) _ h)) ?_
                  clear H
                  intro v25 H
                  have hMs : MapOk z s sn pg ns _ _ ((List.replicate ns (-1)).set qn (r + ((0 : Nat) : Int))) _ (0 + 1) := ⟨St'.hL, St'.hD, by simp, St'.hp, by omega⟩
                  have hSv : ∀ q, q < ns → ((List.replicate ns (-1)).set qn (r + ((0 : Nat) : Int))).getD q 0 = -1 ∨ (0 ≤ ((List.replicate ns (-1)).set qn (r + ((0 : Nat) : Int))).getD q 0 ∧ ((List.replicate ns (-1)).set qn (r + ((0 : Nat) : Int))).getD q 0 < r + s) := setv (by omega) (by omega)
                  refine x_val (.bool true) (by kernel_rfl) rfl (by kernel_rfl) ?_
                  refine x_val (.bool true) (by kernel_rfl) rfl (by kernel_rfl) ?_
                  refine x_nil ?_
                  refine x_then ?_
                  refine x_t (by kernel_rfl) ?_
                  refine x_seq ?_
                  refine x_region ?_
                  refine x_val (.pointer (some ⟨p, 0, none⟩)) (by kernel_rfl) rfl (by kernel_rfl) ?_
                  refine x_call (by kernel_rfl) rfl (by kernel_rfl) (indices_w hL hMs hC hN (fun k hk => by have := St'.lv k hk; have := St'.hp; omega) hSv _ (H.roOf [0, 1, 2, 3] [.blk p #[.int .i64 r, .int .i64 s, .int .i64 b, .int .i64 o, .int .i64 c, .int .i64 y, .int .i64 z, .slice (some ⟨gl, 0, none⟩) sn cl, .slice (some ⟨gd, 0, none⟩) pg cd, .slice (some ⟨gs, 0, none⟩) ns cs, .int .i64 (((pu + 1) : Nat) : Int), .int .i64 (((0 + 1) : Nat) : Int)] 181, .row (.slice (some ⟨gl, 0, none⟩) sn cl) 3 1 sn (List.map (Value.int .i64) (retL ((hn : Nat) : Int) ((sn : Int) + pu) L)), .row (.slice (some ⟨gd, 0, none⟩) pg cd) 4 1 pg (List.map Value.bool (D.set hn true)), .row (.slice (some ⟨gs, 0, none⟩) ns cs) 3 1 ns (List.map (Value.int .i64) ((List.replicate ns (-1)).set qn (r + ((0 : Nat) : Int))))] (by kernel_rfl))) ?_
                  rintro _ v26 ⟨g7, c7, rfl, hX⟩
                  refine ⟨_, rfl, ?_⟩
                  replace H := H.more hX
                  clear hX
                  replace H : Hs [] w0 _ [.row (.slice (some ⟨g7, 0, none⟩) N c7) 3 1 N (List.map (Value.int .i64) (idxs y r b o ((List.replicate ns (-1)).set qn (r + ((0 : Nat) : Int))) (retL ((hn : Nat) : Int) ((sn : Int) + pu) L) C N)), .blk p #[.int .i64 r, .int .i64 s, .int .i64 b, .int .i64 o, .int .i64 c, .int .i64 y, .int .i64 z, .slice (some ⟨gl, 0, none⟩) sn cl, .slice (some ⟨gd, 0, none⟩) pg cd, .slice (some ⟨gs, 0, none⟩) ns cs, .int .i64 (((pu + 1) : Nat) : Int), .int .i64 (((0 + 1) : Nat) : Int)] 181, .row (.slice (some ⟨gl, 0, none⟩) sn cl) 3 1 sn (List.map (Value.int .i64) (retL ((hn : Nat) : Int) ((sn : Int) + pu) L)), .row (.slice (some ⟨gd, 0, none⟩) pg cd) 4 1 pg (List.map Value.bool (D.set hn true)), .row (.slice (some ⟨gs, 0, none⟩) ns cs) 3 1 ns (List.map (Value.int .i64) ((List.replicate ns (-1)).set qn (r + ((0 : Nat) : Int)))), .row (.slice (some ⟨g6, 0, none⟩) N c6) 3 1 N (List.map (Value.int .i64) (idxs y r b o (List.replicate ns (-1)) (retL ((hn : Nat) : Int) ((sn : Int) + pu) L) C N)), .row (.slice (some ⟨g5, 0, none⟩) N c5) 3 1 N (List.map (Value.int .i64) (idxs y r b o (List.replicate ns (-1)) (retL ((hn : Nat) : Int) ((sn : Int) + pu) L) C N)), .row (.slice (some ⟨g2, 0, none⟩) N c2) 3 1 N (List.map (Value.int .i64) (idxs y r b o (List.replicate ns (-1)) L C N)), .blk g1 #[.int .i64 r, .int .i64 s, .int .i64 b, .int .i64 o, .int .i64 c, .int .i64 y, .int .i64 z] 69] := H
                  refine x_val (.int .i64 ((N : Nat) : Int)) (by kernel_rfl) rfl (by kernel_rfl) ?_
                  refine x_val (.int .i64 0) (by kernel_rfl) rfl (by kernel_rfl) ?_
                  refine x_nil ?_
                  refine x_then ?_
                  refine x_block ?_
                  refine x_loop (G := Nat) (fun (m : Nat) a w' => ∃ u8 : Value, ∃ u26 : Value, ∃ u27 : Value, ∃ u28 : Value, ∃ u161 : Value, ∃ u162 : Value, ∃ u163 : Value, ∃ u164 : Value, ∃ u165 : Value, ∃ u166 : Value, ∃ u167 : Value, ∃ u168 : Value, ∃ u169 : Value, ∃ u170 : Value, ∃ u171 : Value, ∃ u172 : Value, ∃ u173 : Value, ∃ u174 : Value, ∃ u175 : Value, ∃ u176 : Value, ∃ u177 : Value, ∃ u178 : Value, ∃ u179 : Value, ∃ u180 : Value, ∃ u181 : Value, ∃ u182 : Value, ∃ u183 : Value, ∃ u184 : Value, ∃ u185 : Value, ∃ u186 : Value, ∃ u187 : Value, ∃ u188 : Value, ∃ u189 : Value, ∃ u190 : Value, ∃ u191 : Value, ∃ u192 : Value, ∃ u193 : Value, ∃ u194 : Value, ∃ u195 : Value, ∃ u196 : Value, ∃ u197 : Value, ∃ u198 : Value, a = { tmps := #[.agg #[.int .i64 r, .int .i64 s, .int .i64 b, .int .i64 o, .int .i64 c, .int .i64 y, .int .i64 z], .slice ad nA cA, .int .i64 home, .int .i64 rank, .pointer (some ⟨g1, 0, none⟩), undef, undef, undef, u8, .pointer (some ⟨p, 0, none⟩), .int .i64 0, undef, u12, u13, u14, .slice (some ⟨g6, 0, none⟩) N c6, .int .i64 (((sn : Nat) : Int) + ((pu : Nat) : Int)), .bool true, u18, u19, u20, u21, u22, u23, .int .i64 (r + ((0 : Nat) : Int)), .int .i64 0, u26, u27, u28, .bool true, .bool false, .agg #[.int .i64 r, .int .i64 s, .int .i64 b, .int .i64 o, .int .i64 c, .int .i64 y, .int .i64 z], .bool true, .bool false, .bool false, .slice ad nA cA, .int .i64 ((nA : Nat) : Int), .bool false, .bool false, .tuple #[.pointer (some ⟨p, 0, none⟩), .int .i64 0], .agg #[.int .i64 r, .int .i64 s, .int .i64 b, .int .i64 o, .int .i64 c, .int .i64 y, .int .i64 z], .tuple #[.pointer (some ⟨p, 0, none⟩), .int .i64 0], .pointer (some ⟨p, 0, none⟩), .int .i64 0, .int .i64 0, .bool false, .bool false, .pointer (some ⟨p, 0, none⟩), .bool false, .bool false, undef, undef, .slice ad nA cA, .int .i64 ((nA : Nat) : Int), .int .i64 ((k : Nat) : Int), .bool false, u56, u57, u58, u59, u60, u61, u62, u63, u64, u65, u66, u67, u68, u69, u70, u71, u72, u73, u74, u75, u76, u77, u78, u79, u80, u81, u82, .pointer (some ⟨p, 0, none⟩), .slice (some ⟨g2, 0, none⟩) N c2, .tuple #[.int .i64 (((sn : Nat) : Int) + ((pu : Nat) : Int)), .bool true], .pointer (some ⟨p, 0, none⟩), .tuple #[.int .i64 (((sn : Nat) : Int) + ((pu : Nat) : Int)), .bool true], .int .i64 (((sn : Nat) : Int) + ((pu : Nat) : Int)), .bool true, .bool true, .bool true, .pointer (some ⟨p, 0, none⟩), .int .i64 home, .bool true, .bool true, .pointer (some ⟨p, 0, none⟩), .tuple #[.int .i64 (((sn : Nat) : Int) + ((pu : Nat) : Int)), .int .i64 0], .pointer (some ⟨p, 0, none⟩), .int .i64 home, .int .i64 (((sn : Nat) : Int) + ((pu : Nat) : Int)), .int .i64 0, .bool false, .bool false, .pointer (some ⟨p, 0, none⟩), .int .i64 home, .bool false, .bool false, .bool false, .pointer (some ⟨p, 0, none⟩), .int .i64 (((sn : Nat) : Int) + ((pu : Nat) : Int)), .bool true, .bool false, .bool false, .pointer (some ⟨p, 0, none⟩), .slice (some ⟨g5, 0, none⟩) N c5, .int .i64 ((N : Nat) : Int), .int .i64 ((n : Nat) : Int), .bool false, u119, u120, u121, u122, u123, u124, u125, u126, u127, u128, u129, u130, u131, u132, u133, u134, u135, u136, u137, u138, u139, u140, .pointer (some ⟨p, 0, none⟩), .slice (some ⟨g6, 0, none⟩) N c6, .tuple #[.int .i64 (r + ((0 : Nat) : Int)), .int .i64 0], .pointer (some ⟨p, 0, none⟩), .tuple #[.int .i64 (r + ((0 : Nat) : Int)), .int .i64 0], .int .i64 (r + ((0 : Nat) : Int)), .int .i64 0, .int .i64 0, .bool true, .bool true, .pointer (some ⟨p, 0, none⟩), .int .i64 rank, .int .i64 (r + ((0 : Nat) : Int)), .int .i64 0, .bool true, .bool true, .pointer (some ⟨p, 0, none⟩), .slice (some ⟨g7, 0, none⟩) N c7, .int .i64 ((N : Nat) : Int), .int .i64 ((m : Nat) : Int), u161, u162, u163, u164, u165, u166, u167, u168, u169, u170, u171, u172, u173, u174, u175, u176, u177, u178, u179, u180, u181, u182, u183, u184, u185, u186, u187, u188, u189, u190, u191, u192, u193, u194, u195, u196, u197, u198], defers := [] } ∧ Hs [] w0 w' [.row (.slice (some ⟨g7, 0, none⟩) N c7) 3 1 N (List.map (Value.int .i64) (idxs y r b o ((List.replicate ns (-1)).set qn (r + ((0 : Nat) : Int))) (retL ((hn : Nat) : Int) ((sn : Int) + pu) L) C N)), .blk p #[.int .i64 r, .int .i64 s, .int .i64 b, .int .i64 o, .int .i64 c, .int .i64 y, .int .i64 z, .slice (some ⟨gl, 0, none⟩) sn cl, .slice (some ⟨gd, 0, none⟩) pg cd, .slice (some ⟨gs, 0, none⟩) ns cs, .int .i64 (((pu + 1) : Nat) : Int), .int .i64 (((0 + 1) : Nat) : Int)] 181, .row (.slice (some ⟨gl, 0, none⟩) sn cl) 3 1 sn (List.map (Value.int .i64) (retL ((hn : Nat) : Int) ((sn : Int) + pu) L)), .row (.slice (some ⟨gd, 0, none⟩) pg cd) 4 1 pg (List.map Value.bool (D.set hn true)), .row (.slice (some ⟨gs, 0, none⟩) ns cs) 3 1 ns (List.map (Value.int .i64) ((List.replicate ns (-1)).set qn (r + ((0 : Nat) : Int)))), .row (.slice (some ⟨g6, 0, none⟩) N c6) 3 1 N (List.map (Value.int .i64) (idxs y r b o (List.replicate ns (-1)) (retL ((hn : Nat) : Int) ((sn : Int) + pu) L) C N)), .row (.slice (some ⟨g5, 0, none⟩) N c5) 3 1 N (List.map (Value.int .i64) (idxs y r b o (List.replicate ns (-1)) (retL ((hn : Nat) : Int) ((sn : Int) + pu) L) C N)), .row (.slice (some ⟨g2, 0, none⟩) N c2) 3 1 N (List.map (Value.int .i64) (idxs y r b o (List.replicate ns (-1)) L C N)), .blk g1 #[.int .i64 r, .int .i64 s, .int .i64 b, .int .i64 o, .int .i64 c, .int .i64 y, .int .i64 z] 69] ∧ (m ≤ N)) (fun (m : Nat) => N - m) 0 ⟨u8, undef, undef, undef, undef, undef, undef, undef, undef, undef, undef, undef, undef, undef, undef, undef, undef, undef, undef, undef, undef, undef, undef, undef, undef, undef, undef, undef, undef, undef, undef, undef, undef, undef, undef, undef, undef, undef, undef, undef, undef, undef, (by kernel_rfl), H, (Nat.zero_le _)⟩ ?_
                  clear H
                  rintro m _ v27 ⟨u8, u26, u27, u28, u161, u162, u163, u164, u165, u166, u167, u168, u169, u170, u171, u172, u173, u174, u175, u176, u177, u178, u179, u180, u181, u182, u183, u184, u185, u186, u187, u188, u189, u190, u191, u192, u193, u194, u195, u196, u197, u198, rfl, H, r1⟩
                  have hl0 := idxs_len y r b o ((List.replicate ns (-1)).set qn (r + ((0 : Nat) : Int))) (retL ((hn : Nat) : Int) ((sn : Int) + pu) L) C N
                  have hl5 := idxs_len y r b o (List.replicate ns (-1)) (retL ((hn : Nat) : Int) ((sn : Int) + pu) L) C N
                  have hl6 := idxs_len y r b o (List.replicate ns (-1)) (retL ((hn : Nat) : Int) ((sn : Int) + pu) L) C N
                  have hl7 := idxs_len y r b o (List.replicate ns (-1)) L C N
                  refine x_seq ?_
                  refine x_region ?_
                  refine x_val (.bool (decide (((m : Nat) : Int) < ((N : Nat) : Int)))) (by kernel_rfl) rfl (by kernel_rfl) ?_
                  refine x_nil ?_
                  refine x_then ?_
                  refine x_seq ?_
                  cases h15 : decide (((m : Nat) : Int) < ((N : Nat) : Int))
                  · skip
                    have h15p := of_decide_eq_false h15
                    refine x_f (by kernel_rfl) ?_
                    refine x_exit ?_
                    refine x_then_exit ?_
                    refine x_then_exit ?_
                    refine x_blk_exit ?_
                    refine x_then ?_
                    refine x_seq ?_
                    refine x_region ?_
                    refine x_val (.bool true) (by kernel_rfl) rfl (by kernel_rfl) ?_
                    refine x_nil ?_
                    refine x_then ?_
                    refine x_retc ?_
                    refine x_ret (.bool true) (by kernel_rfl) (by kernel_rfl) ?_
                    exact ⟨rfl, H.below⟩
                  · skip
                    have h15p := of_decide_eq_true h15
                    refine x_t (by kernel_rfl) ?_
                    refine x_skipc ?_
                    refine x_then ?_
                    refine x_seq ?_
                    refine x_block ?_
                    refine x_seq ?_
                    refine x_region ?_
                    refine x_val (.int .i64 ((m : Nat) : Int)) (by kernel_rfl) rfl (by kernel_rfl) ?_
                    refine x_ix (t := 106) g7 0 m N c7 3 1 m (by omega) (by omega) (by kernel_rfl) (by kernel_rfl) (by kernel_rfl) rfl (by kernel_rfl) ?_
                    refine x_loadc g7 m (.int .i64 ((idxs y r b o ((List.replicate ns (-1)).set qn (r + ((0 : Nat) : Int))) (retL ((hn : Nat) : Int) ((sn : Int) + pu) L) C N).getD m 0)) (H.rowCell 0 rfl m (mapAt 0 (by omega))) (by kernel_rfl) rfl (by kernel_rfl) ?_
                    refine x_val (.int .i64 ((m : Nat) : Int)) (by kernel_rfl) rfl (by kernel_rfl) ?_
                    refine x_val (.int .i64 ((idxs y r b o ((List.replicate ns (-1)).set qn (r + ((0 : Nat) : Int))) (retL ((hn : Nat) : Int) ((sn : Int) + pu) L) C N).getD m 0)) (by kernel_rfl) rfl (by kernel_rfl) ?_
                    refine x_nil ?_
                    refine x_then ?_
                    refine x_seq ?_
                    refine x_region ?_
                    refine x_val (.slice (some ⟨g6, 0, none⟩) N c6) (by kernel_rfl) rfl (by kernel_rfl) ?_
                    refine x_val (.int .i64 ((m : Nat) : Int)) (by kernel_rfl) rfl (by kernel_rfl) ?_
                    refine x_ix (t := 106) g6 0 m N c6 3 1 m (by omega) (by omega) (by kernel_rfl) (by kernel_rfl) (by kernel_rfl) rfl (by kernel_rfl) ?_
                    refine x_loadc g6 m (.int .i64 ((idxs y r b o (List.replicate ns (-1)) (retL ((hn : Nat) : Int) ((sn : Int) + pu) L) C N).getD m 0)) (H.rowCell 5 rfl m (mapAt 0 (by omega))) (by kernel_rfl) rfl (by kernel_rfl) ?_
                    refine x_eq (.int .i64 (((idxs y r b o (List.replicate ns (-1)) (retL ((hn : Nat) : Int) ((sn : Int) + pu) L) C N).getD m 0) / 1048576)) (e_shr ((idxs y r b o (List.replicate ns (-1)) (retL ((hn : Nat) : Int) ((sn : Int) + pu) L) C N).getD m 0) 1048576 (by decide)) (by kernel_rfl) rfl (by kernel_rfl) ?_
                    refine x_val (.int .i64 rank) (by kernel_rfl) rfl (by kernel_rfl) ?_
                    refine x_val (.bool (decide ((((idxs y r b o (List.replicate ns (-1)) (retL ((hn : Nat) : Int) ((sn : Int) + pu) L) C N).getD m 0) / 1048576) = rank))) (by kernel_rfl) rfl (by kernel_rfl) ?_
                    refine x_val (.bool (decide ((((idxs y r b o (List.replicate ns (-1)) (retL ((hn : Nat) : Int) ((sn : Int) + pu) L) C N).getD m 0) / 1048576) = rank))) (by kernel_rfl) rfl (by kernel_rfl) ?_
                    refine x_nil ?_
                    refine x_then ?_
                    refine x_seq ?_
                    refine x_region ?_
                    refine x_val (.bool (decide ((((idxs y r b o (List.replicate ns (-1)) (retL ((hn : Nat) : Int) ((sn : Int) + pu) L) C N).getD m 0) / 1048576) = rank))) (by kernel_rfl) rfl (by kernel_rfl) ?_
                    refine x_val (.bool (decide ((((idxs y r b o (List.replicate ns (-1)) (retL ((hn : Nat) : Int) ((sn : Int) + pu) L) C N).getD m 0) / 1048576) = rank))) (by kernel_rfl) rfl (by kernel_rfl) ?_
                    cases h16 : decide ((((idxs y r b o (List.replicate ns (-1)) (retL ((hn : Nat) : Int) ((sn : Int) + pu) L) C N).getD m 0) / 1048576) = rank)
                    · skip
                      have h16p := of_decide_eq_false h16
                      refine x_skip (by kernel_rfl) ?_
                      refine x_skip (by kernel_rfl) ?_
                      refine x_skip (by kernel_rfl) ?_
                      refine x_skip (by kernel_rfl) ?_
                      refine x_skip (by kernel_rfl) ?_
                      refine x_skip (by kernel_rfl) ?_
                      refine x_skip (by kernel_rfl) ?_
                      refine x_skip (by kernel_rfl) ?_
                      refine x_skip (by kernel_rfl) ?_
                      have hW := stay_bd hL hC hN (n := m) (L := (retL ((hn : Nat) : Int) ((sn : Int) + pu) L)) (by omega) (fun q hq => .inl (rep_none hq)) (fun k hk => by have := St'.lv k hk; have := St'.hp; omega)
                      refine x_skip (by kernel_rfl) ?_
                      refine x_skip (by kernel_rfl) ?_
                      refine x_val (.bool false) (by kernel_rfl) rfl (by kernel_rfl) ?_
                      refine x_val (.bool false) (by kernel_rfl) rfl (by kernel_rfl) ?_
                      refine x_val (.bool false) (by kernel_rfl) rfl (by kernel_rfl) ?_
                      refine x_val (.bool true) (by kernel_rfl) rfl (by kernel_rfl) ?_
                      refine x_val (.bool true) (by kernel_rfl) rfl (by kernel_rfl) ?_
                      refine x_val (.int .i64 ((idxs y r b o ((List.replicate ns (-1)).set qn (r + ((0 : Nat) : Int))) (retL ((hn : Nat) : Int) ((sn : Int) + pu) L) C N).getD m 0)) (by kernel_rfl) rfl (by kernel_rfl) ?_
                      refine x_val (.slice (some ⟨g6, 0, none⟩) N c6) (by kernel_rfl) rfl (by kernel_rfl) ?_
                      refine x_val (.int .i64 ((m : Nat) : Int)) (by kernel_rfl) rfl (by kernel_rfl) ?_
                      refine x_ix (t := 106) g6 0 m N c6 3 1 m (by omega) (by omega) (by kernel_rfl) (by kernel_rfl) (by kernel_rfl) rfl (by kernel_rfl) ?_
                      refine x_loadc g6 m (.int .i64 ((idxs y r b o (List.replicate ns (-1)) (retL ((hn : Nat) : Int) ((sn : Int) + pu) L) C N).getD m 0)) (H.rowCell 5 rfl m (mapAt 0 (by omega))) (by kernel_rfl) rfl (by kernel_rfl) ?_
                      refine x_val (.bool (!(decide (((idxs y r b o ((List.replicate ns (-1)).set qn (r + ((0 : Nat) : Int))) (retL ((hn : Nat) : Int) ((sn : Int) + pu) L) C N).getD m 0) = ((idxs y r b o (List.replicate ns (-1)) (retL ((hn : Nat) : Int) ((sn : Int) + pu) L) C N).getD m 0))))) (by kernel_rfl) rfl (by kernel_rfl) ?_
                      refine x_val (.bool (!(decide (((idxs y r b o ((List.replicate ns (-1)).set qn (r + ((0 : Nat) : Int))) (retL ((hn : Nat) : Int) ((sn : Int) + pu) L) C N).getD m 0) = ((idxs y r b o (List.replicate ns (-1)) (retL ((hn : Nat) : Int) ((sn : Int) + pu) L) C N).getD m 0))))) (by kernel_rfl) rfl (by kernel_rfl) ?_
                      refine x_val (.bool (!(decide (((idxs y r b o ((List.replicate ns (-1)).set qn (r + ((0 : Nat) : Int))) (retL ((hn : Nat) : Int) ((sn : Int) + pu) L) C N).getD m 0) = ((idxs y r b o (List.replicate ns (-1)) (retL ((hn : Nat) : Int) ((sn : Int) + pu) L) C N).getD m 0))))) (by kernel_rfl) rfl (by kernel_rfl) ?_
                      refine x_nil ?_
                      refine x_frame' { tmps := #[.agg #[.int .i64 r, .int .i64 s, .int .i64 b, .int .i64 o, .int .i64 c, .int .i64 y, .int .i64 z], .slice ad nA cA, .int .i64 home, .int .i64 rank, .pointer (some ⟨g1, 0, none⟩), undef, undef, undef, u8, .pointer (some ⟨p, 0, none⟩), .int .i64 0, undef, u12, u13, u14, .slice (some ⟨g6, 0, none⟩) N c6, .int .i64 (((sn : Nat) : Int) + ((pu : Nat) : Int)), .bool true, u18, u19, u20, u21, u22, u23, .int .i64 (r + ((0 : Nat) : Int)), .int .i64 0, .int .i64 ((m : Nat) : Int), .int .i64 ((idxs y r b o ((List.replicate ns (-1)).set qn (r + ((0 : Nat) : Int))) (retL ((hn : Nat) : Int) ((sn : Int) + pu) L) C N).getD m 0), .bool false, .bool true, .bool false, .agg #[.int .i64 r, .int .i64 s, .int .i64 b, .int .i64 o, .int .i64 c, .int .i64 y, .int .i64 z], .bool true, .bool false, .bool false, .slice ad nA cA, .int .i64 ((nA : Nat) : Int), .bool false, .bool false, .tuple #[.pointer (some ⟨p, 0, none⟩), .int .i64 0], .agg #[.int .i64 r, .int .i64 s, .int .i64 b, .int .i64 o, .int .i64 c, .int .i64 y, .int .i64 z], .tuple #[.pointer (some ⟨p, 0, none⟩), .int .i64 0], .pointer (some ⟨p, 0, none⟩), .int .i64 0, .int .i64 0, .bool false, .bool false, .pointer (some ⟨p, 0, none⟩), .bool false, .bool false, undef, undef, .slice ad nA cA, .int .i64 ((nA : Nat) : Int), .int .i64 ((k : Nat) : Int), .bool false, u56, u57, u58, u59, u60, u61, u62, u63, u64, u65, u66, u67, u68, u69, u70, u71, u72, u73, u74, u75, u76, u77, u78, u79, u80, u81, u82, .pointer (some ⟨p, 0, none⟩), .slice (some ⟨g2, 0, none⟩) N c2, .tuple #[.int .i64 (((sn : Nat) : Int) + ((pu : Nat) : Int)), .bool true], .pointer (some ⟨p, 0, none⟩), .tuple #[.int .i64 (((sn : Nat) : Int) + ((pu : Nat) : Int)), .bool true], .int .i64 (((sn : Nat) : Int) + ((pu : Nat) : Int)), .bool true, .bool true, .bool true, .pointer (some ⟨p, 0, none⟩), .int .i64 home, .bool true, .bool true, .pointer (some ⟨p, 0, none⟩), .tuple #[.int .i64 (((sn : Nat) : Int) + ((pu : Nat) : Int)), .int .i64 0], .pointer (some ⟨p, 0, none⟩), .int .i64 home, .int .i64 (((sn : Nat) : Int) + ((pu : Nat) : Int)), .int .i64 0, .bool false, .bool false, .pointer (some ⟨p, 0, none⟩), .int .i64 home, .bool false, .bool false, .bool false, .pointer (some ⟨p, 0, none⟩), .int .i64 (((sn : Nat) : Int) + ((pu : Nat) : Int)), .bool true, .bool false, .bool false, .pointer (some ⟨p, 0, none⟩), .slice (some ⟨g5, 0, none⟩) N c5, .int .i64 ((N : Nat) : Int), .int .i64 ((n : Nat) : Int), .bool false, u119, u120, u121, u122, u123, u124, u125, u126, u127, u128, u129, u130, u131, u132, u133, u134, u135, u136, u137, u138, u139, u140, .pointer (some ⟨p, 0, none⟩), .slice (some ⟨g6, 0, none⟩) N c6, .tuple #[.int .i64 (r + ((0 : Nat) : Int)), .int .i64 0], .pointer (some ⟨p, 0, none⟩), .tuple #[.int .i64 (r + ((0 : Nat) : Int)), .int .i64 0], .int .i64 (r + ((0 : Nat) : Int)), .int .i64 0, .int .i64 0, .bool true, .bool true, .pointer (some ⟨p, 0, none⟩), .int .i64 rank, .int .i64 (r + ((0 : Nat) : Int)), .int .i64 0, .bool true, .bool true, .pointer (some ⟨p, 0, none⟩), .slice (some ⟨g7, 0, none⟩) N c7, .int .i64 ((N : Nat) : Int), .int .i64 ((m : Nat) : Int), .bool true, .int .i64 ((m : Nat) : Int), .pointer (some ⟨g7, m, none⟩), .int .i64 ((idxs y r b o ((List.replicate ns (-1)).set qn (r + ((0 : Nat) : Int))) (retL ((hn : Nat) : Int) ((sn : Int) + pu) L) C N).getD m 0), .slice (some ⟨g6, 0, none⟩) N c6, .int .i64 ((m : Nat) : Int), .pointer (some ⟨g6, m, none⟩), .int .i64 ((idxs y r b o (List.replicate ns (-1)) (retL ((hn : Nat) : Int) ((sn : Int) + pu) L) C N).getD m 0), .int .i64 (((idxs y r b o (List.replicate ns (-1)) (retL ((hn : Nat) : Int) ((sn : Int) + pu) L) C N).getD m 0) / 1048576), .int .i64 rank, .bool false, .bool false, .bool false, undef, undef, undef, undef, undef, undef, undef, undef, undef, undef, undef, .bool false, .bool false, .bool false, .bool true, .bool true, .int .i64 ((idxs y r b o ((List.replicate ns (-1)).set qn (r + ((0 : Nat) : Int))) (retL ((hn : Nat) : Int) ((sn : Int) + pu) L) C N).getD m 0), .slice (some ⟨g6, 0, none⟩) N c6, .int .i64 ((m : Nat) : Int), .pointer (some ⟨g6, m, none⟩), .int .i64 ((idxs y r b o (List.replicate ns (-1)) (retL ((hn : Nat) : Int) ((sn : Int) + pu) L) C N).getD m 0), .bool (!(decide (((idxs y r b o ((List.replicate ns (-1)).set qn (r + ((0 : Nat) : Int))) (retL ((hn : Nat) : Int) ((sn : Int) + pu) L) C N).getD m 0) = ((idxs y r b o (List.replicate ns (-1)) (retL ((hn : Nat) : Int) ((sn : Int) + pu) L) C N).getD m 0)))), .bool (!(decide (((idxs y r b o ((List.replicate ns (-1)).set qn (r + ((0 : Nat) : Int))) (retL ((hn : Nat) : Int) ((sn : Int) + pu) L) C N).getD m 0) = ((idxs y r b o (List.replicate ns (-1)) (retL ((hn : Nat) : Int) ((sn : Int) + pu) L) C N).getD m 0)))), .bool (!(decide (((idxs y r b o ((List.replicate ns (-1)).set qn (r + ((0 : Nat) : Int))) (retL ((hn : Nat) : Int) ((sn : Int) + pu) L) C N).getD m 0) = ((idxs y r b o (List.replicate ns (-1)) (retL ((hn : Nat) : Int) ((sn : Int) + pu) L) C N).getD m 0)))), u198], defers := [] } (by kernel_rfl) ?_
                      refine x_then ?_
                      cases h17 : decide (((idxs y r b o ((List.replicate ns (-1)).set qn (r + ((0 : Nat) : Int))) (retL ((hn : Nat) : Int) ((sn : Int) + pu) L) C N).getD m 0) = ((idxs y r b o (List.replicate ns (-1)) (retL ((hn : Nat) : Int) ((sn : Int) + pu) L) C N).getD m 0))
                      · skip
                        have h17p := of_decide_eq_false h17
                        exact absurd (by rw [stay_rank hL hC hN (n := m) (by omega) hqn (by omega) (fun k hk => by have := St'.lv k hk; have := St'.hp; omega), if_neg (by rw [← eq]; exact h16p)]) (of_decide_eq_false h17)
                      · skip
                        have h17p := of_decide_eq_true h17
                        refine x_f (by kernel_rfl) ?_
                        refine x_skipc ?_
                        refine x_blk ?_
                        refine x_then ?_
                        refine x_region ?_
                        refine x_ar (((m : Nat) : Int) + 1) ⟨by omega, by omega⟩ (by kernel_rfl) rfl (by kernel_rfl) ?_
                        refine x_val (.int .i64 (((m : Nat) : Int) + 1)) (by kernel_rfl) rfl (by kernel_rfl) ?_
                        refine x_nil ?_
                        refine x_then ?_
                        exact ⟨(m + 1), (by omega), u8, (.int .i64 ((m : Nat) : Int)), (.int .i64 ((idxs y r b o ((List.replicate ns (-1)).set qn (r + ((0 : Nat) : Int))) (retL ((hn : Nat) : Int) ((sn : Int) + pu) L) C N).getD m 0)), (.bool false), (.bool true), (.int .i64 ((m : Nat) : Int)), (.pointer (some ⟨g7, m, none⟩)), (.int .i64 ((idxs y r b o ((List.replicate ns (-1)).set qn (r + ((0 : Nat) : Int))) (retL ((hn : Nat) : Int) ((sn : Int) + pu) L) C N).getD m 0)), (.slice (some ⟨g6, 0, none⟩) N c6), (.int .i64 ((m : Nat) : Int)), (.pointer (some ⟨g6, m, none⟩)), (.int .i64 ((idxs y r b o (List.replicate ns (-1)) (retL ((hn : Nat) : Int) ((sn : Int) + pu) L) C N).getD m 0)), (.int .i64 (((idxs y r b o (List.replicate ns (-1)) (retL ((hn : Nat) : Int) ((sn : Int) + pu) L) C N).getD m 0) / 1048576)), (.int .i64 rank), (.bool false), (.bool false), (.bool false), undef, undef, undef, undef, undef, undef, undef, undef, undef, undef, undef, (.bool false), (.bool false), (.bool false), (.bool true), (.bool true), (.int .i64 ((idxs y r b o ((List.replicate ns (-1)).set qn (r + ((0 : Nat) : Int))) (retL ((hn : Nat) : Int) ((sn : Int) + pu) L) C N).getD m 0)), (.slice (some ⟨g6, 0, none⟩) N c6), (.int .i64 ((m : Nat) : Int)), (.pointer (some ⟨g6, m, none⟩)), (.int .i64 ((idxs y r b o (List.replicate ns (-1)) (retL ((hn : Nat) : Int) ((sn : Int) + pu) L) C N).getD m 0)), (.bool false), (.bool false), (.bool false), (.int .i64 (((m : Nat) : Int) + 1)), (by kernel_rfl), H, (by omega)⟩
                    · skip
                      have h16p := of_decide_eq_true h16
                      refine x_val (.int .i64 ((idxs y r b o ((List.replicate ns (-1)).set qn (r + ((0 : Nat) : Int))) (retL ((hn : Nat) : Int) ((sn : Int) + pu) L) C N).getD m 0)) (by kernel_rfl) rfl (by kernel_rfl) ?_
                      refine x_val (.slice (some ⟨g6, 0, none⟩) N c6) (by kernel_rfl) rfl (by kernel_rfl) ?_
                      refine x_val (.int .i64 ((m : Nat) : Int)) (by kernel_rfl) rfl (by kernel_rfl) ?_
                      refine x_ix (t := 106) g6 0 m N c6 3 1 m (by omega) (by omega) (by kernel_rfl) (by kernel_rfl) (by kernel_rfl) rfl (by kernel_rfl) ?_
                      refine x_loadc g6 m (.int .i64 ((idxs y r b o (List.replicate ns (-1)) (retL ((hn : Nat) : Int) ((sn : Int) + pu) L) C N).getD m 0)) (H.rowCell 5 rfl m (mapAt 0 (by omega))) (by kernel_rfl) rfl (by kernel_rfl) ?_
                      refine x_val (.int .i64 (r + ((0 : Nat) : Int))) (by kernel_rfl) rfl (by kernel_rfl) ?_
                      refine x_val (.int .i64 rank) (by kernel_rfl) rfl (by kernel_rfl) ?_
                      refine x_ar ((r + ((0 : Nat) : Int)) - rank) ⟨by omega, by omega⟩ (by kernel_rfl) rfl (by kernel_rfl) ?_
                      refine x_ar (((r + ((0 : Nat) : Int)) - rank) * 1048576) ⟨by omega, by omega⟩ (by kernel_rfl) rfl (by kernel_rfl) ?_
                      have hW := stay_bd hL hC hN (n := m) (L := (retL ((hn : Nat) : Int) ((sn : Int) + pu) L)) (by omega) (fun q hq => .inl (rep_none hq)) (fun k hk => by have := St'.lv k hk; have := St'.hp; omega)
                      refine x_ar (((idxs y r b o (List.replicate ns (-1)) (retL ((hn : Nat) : Int) ((sn : Int) + pu) L) C N).getD m 0) + (((r + ((0 : Nat) : Int)) - rank) * 1048576)) ⟨by omega, by omega⟩ (by kernel_rfl) rfl (by kernel_rfl) ?_
                      refine x_val (.bool (!(decide (((idxs y r b o ((List.replicate ns (-1)).set qn (r + ((0 : Nat) : Int))) (retL ((hn : Nat) : Int) ((sn : Int) + pu) L) C N).getD m 0) = (((idxs y r b o (List.replicate ns (-1)) (retL ((hn : Nat) : Int) ((sn : Int) + pu) L) C N).getD m 0) + (((r + ((0 : Nat) : Int)) - rank) * 1048576)))))) (by kernel_rfl) rfl (by kernel_rfl) ?_
                      refine x_val (.bool (!(decide (((idxs y r b o ((List.replicate ns (-1)).set qn (r + ((0 : Nat) : Int))) (retL ((hn : Nat) : Int) ((sn : Int) + pu) L) C N).getD m 0) = (((idxs y r b o (List.replicate ns (-1)) (retL ((hn : Nat) : Int) ((sn : Int) + pu) L) C N).getD m 0) + (((r + ((0 : Nat) : Int)) - rank) * 1048576)))))) (by kernel_rfl) rfl (by kernel_rfl) ?_
                      refine x_val (.bool (!(decide (((idxs y r b o ((List.replicate ns (-1)).set qn (r + ((0 : Nat) : Int))) (retL ((hn : Nat) : Int) ((sn : Int) + pu) L) C N).getD m 0) = (((idxs y r b o (List.replicate ns (-1)) (retL ((hn : Nat) : Int) ((sn : Int) + pu) L) C N).getD m 0) + (((r + ((0 : Nat) : Int)) - rank) * 1048576)))))) (by kernel_rfl) rfl (by kernel_rfl) ?_
                      cases h18 : decide (((idxs y r b o ((List.replicate ns (-1)).set qn (r + ((0 : Nat) : Int))) (retL ((hn : Nat) : Int) ((sn : Int) + pu) L) C N).getD m 0) = (((idxs y r b o (List.replicate ns (-1)) (retL ((hn : Nat) : Int) ((sn : Int) + pu) L) C N).getD m 0) + (((r + ((0 : Nat) : Int)) - rank) * 1048576)))
                      · skip
                        have h18p := of_decide_eq_false h18
                        exact absurd (by rw [stay_rank hL hC hN (n := m) (by omega) hqn (by omega) (fun k hk => by have := St'.lv k hk; have := St'.hp; omega), if_pos (by rw [← eq]; exact h16p), ← eq]) (of_decide_eq_false h18)
                      · skip
                        have h18p := of_decide_eq_true h18
                        refine x_val (.bool true) (by kernel_rfl) rfl (by kernel_rfl) ?_
                        refine x_val (.bool false) (by kernel_rfl) rfl (by kernel_rfl) ?_
                        refine x_val (.bool false) (by kernel_rfl) rfl (by kernel_rfl) ?_
                        refine x_skip (by kernel_rfl) ?_
                        refine x_skip (by kernel_rfl) ?_
                        refine x_skip (by kernel_rfl) ?_
                        refine x_skip (by kernel_rfl) ?_
                        refine x_skip (by kernel_rfl) ?_
                        refine x_skip (by kernel_rfl) ?_
                        refine x_val (.bool false) (by kernel_rfl) rfl (by kernel_rfl) ?_
                        refine x_val (.bool false) (by kernel_rfl) rfl (by kernel_rfl) ?_
                        refine x_nil ?_
                        refine x_frame' { tmps := #[.agg #[.int .i64 r, .int .i64 s, .int .i64 b, .int .i64 o, .int .i64 c, .int .i64 y, .int .i64 z], .slice ad nA cA, .int .i64 home, .int .i64 rank, .pointer (some ⟨g1, 0, none⟩), undef, undef, undef, u8, .pointer (some ⟨p, 0, none⟩), .int .i64 0, undef, u12, u13, u14, .slice (some ⟨g6, 0, none⟩) N c6, .int .i64 (((sn : Nat) : Int) + ((pu : Nat) : Int)), .bool true, u18, u19, u20, u21, u22, u23, .int .i64 (r + ((0 : Nat) : Int)), .int .i64 0, .int .i64 ((m : Nat) : Int), .int .i64 ((idxs y r b o ((List.replicate ns (-1)).set qn (r + ((0 : Nat) : Int))) (retL ((hn : Nat) : Int) ((sn : Int) + pu) L) C N).getD m 0), .bool true, .bool true, .bool false, .agg #[.int .i64 r, .int .i64 s, .int .i64 b, .int .i64 o, .int .i64 c, .int .i64 y, .int .i64 z], .bool true, .bool false, .bool false, .slice ad nA cA, .int .i64 ((nA : Nat) : Int), .bool false, .bool false, .tuple #[.pointer (some ⟨p, 0, none⟩), .int .i64 0], .agg #[.int .i64 r, .int .i64 s, .int .i64 b, .int .i64 o, .int .i64 c, .int .i64 y, .int .i64 z], .tuple #[.pointer (some ⟨p, 0, none⟩), .int .i64 0], .pointer (some ⟨p, 0, none⟩), .int .i64 0, .int .i64 0, .bool false, .bool false, .pointer (some ⟨p, 0, none⟩), .bool false, .bool false, undef, undef, .slice ad nA cA, .int .i64 ((nA : Nat) : Int), .int .i64 ((k : Nat) : Int), .bool false, u56, u57, u58, u59, u60, u61, u62, u63, u64, u65, u66, u67, u68, u69, u70, u71, u72, u73, u74, u75, u76, u77, u78, u79, u80, u81, u82, .pointer (some ⟨p, 0, none⟩), .slice (some ⟨g2, 0, none⟩) N c2, .tuple #[.int .i64 (((sn : Nat) : Int) + ((pu : Nat) : Int)), .bool true], .pointer (some ⟨p, 0, none⟩), .tuple #[.int .i64 (((sn : Nat) : Int) + ((pu : Nat) : Int)), .bool true], .int .i64 (((sn : Nat) : Int) + ((pu : Nat) : Int)), .bool true, .bool true, .bool true, .pointer (some ⟨p, 0, none⟩), .int .i64 home, .bool true, .bool true, .pointer (some ⟨p, 0, none⟩), .tuple #[.int .i64 (((sn : Nat) : Int) + ((pu : Nat) : Int)), .int .i64 0], .pointer (some ⟨p, 0, none⟩), .int .i64 home, .int .i64 (((sn : Nat) : Int) + ((pu : Nat) : Int)), .int .i64 0, .bool false, .bool false, .pointer (some ⟨p, 0, none⟩), .int .i64 home, .bool false, .bool false, .bool false, .pointer (some ⟨p, 0, none⟩), .int .i64 (((sn : Nat) : Int) + ((pu : Nat) : Int)), .bool true, .bool false, .bool false, .pointer (some ⟨p, 0, none⟩), .slice (some ⟨g5, 0, none⟩) N c5, .int .i64 ((N : Nat) : Int), .int .i64 ((n : Nat) : Int), .bool false, u119, u120, u121, u122, u123, u124, u125, u126, u127, u128, u129, u130, u131, u132, u133, u134, u135, u136, u137, u138, u139, u140, .pointer (some ⟨p, 0, none⟩), .slice (some ⟨g6, 0, none⟩) N c6, .tuple #[.int .i64 (r + ((0 : Nat) : Int)), .int .i64 0], .pointer (some ⟨p, 0, none⟩), .tuple #[.int .i64 (r + ((0 : Nat) : Int)), .int .i64 0], .int .i64 (r + ((0 : Nat) : Int)), .int .i64 0, .int .i64 0, .bool true, .bool true, .pointer (some ⟨p, 0, none⟩), .int .i64 rank, .int .i64 (r + ((0 : Nat) : Int)), .int .i64 0, .bool true, .bool true, .pointer (some ⟨p, 0, none⟩), .slice (some ⟨g7, 0, none⟩) N c7, .int .i64 ((N : Nat) : Int), .int .i64 ((m : Nat) : Int), .bool true, .int .i64 ((m : Nat) : Int), .pointer (some ⟨g7, m, none⟩), .int .i64 ((idxs y r b o ((List.replicate ns (-1)).set qn (r + ((0 : Nat) : Int))) (retL ((hn : Nat) : Int) ((sn : Int) + pu) L) C N).getD m 0), .slice (some ⟨g6, 0, none⟩) N c6, .int .i64 ((m : Nat) : Int), .pointer (some ⟨g6, m, none⟩), .int .i64 ((idxs y r b o (List.replicate ns (-1)) (retL ((hn : Nat) : Int) ((sn : Int) + pu) L) C N).getD m 0), .int .i64 (((idxs y r b o (List.replicate ns (-1)) (retL ((hn : Nat) : Int) ((sn : Int) + pu) L) C N).getD m 0) / 1048576), .int .i64 rank, .bool true, .bool true, .bool true, .int .i64 ((idxs y r b o ((List.replicate ns (-1)).set qn (r + ((0 : Nat) : Int))) (retL ((hn : Nat) : Int) ((sn : Int) + pu) L) C N).getD m 0), .slice (some ⟨g6, 0, none⟩) N c6, .int .i64 ((m : Nat) : Int), .pointer (some ⟨g6, m, none⟩), .int .i64 ((idxs y r b o (List.replicate ns (-1)) (retL ((hn : Nat) : Int) ((sn : Int) + pu) L) C N).getD m 0), .int .i64 (r + ((0 : Nat) : Int)), .int .i64 rank, .int .i64 ((r + ((0 : Nat) : Int)) - rank), .int .i64 (((r + ((0 : Nat) : Int)) - rank) * 1048576), .int .i64 (((idxs y r b o (List.replicate ns (-1)) (retL ((hn : Nat) : Int) ((sn : Int) + pu) L) C N).getD m 0) + (((r + ((0 : Nat) : Int)) - rank) * 1048576)), .bool false, .bool false, .bool false, .bool true, .bool false, .bool false, undef, undef, undef, undef, undef, undef, .bool false, .bool false, u198], defers := [] } (by kernel_rfl) ?_
                        refine x_then ?_
                        refine x_f (by kernel_rfl) ?_
                        refine x_skipc ?_
                        refine x_blk ?_
                        refine x_then ?_
                        refine x_region ?_
                        refine x_ar (((m : Nat) : Int) + 1) ⟨by omega, by omega⟩ (by kernel_rfl) rfl (by kernel_rfl) ?_
                        refine x_val (.int .i64 (((m : Nat) : Int) + 1)) (by kernel_rfl) rfl (by kernel_rfl) ?_
                        refine x_nil ?_
                        refine x_then ?_
                        exact ⟨(m + 1), (by omega), u8, (.int .i64 ((m : Nat) : Int)), (.int .i64 ((idxs y r b o ((List.replicate ns (-1)).set qn (r + ((0 : Nat) : Int))) (retL ((hn : Nat) : Int) ((sn : Int) + pu) L) C N).getD m 0)), (.bool true), (.bool true), (.int .i64 ((m : Nat) : Int)), (.pointer (some ⟨g7, m, none⟩)), (.int .i64 ((idxs y r b o ((List.replicate ns (-1)).set qn (r + ((0 : Nat) : Int))) (retL ((hn : Nat) : Int) ((sn : Int) + pu) L) C N).getD m 0)), (.slice (some ⟨g6, 0, none⟩) N c6), (.int .i64 ((m : Nat) : Int)), (.pointer (some ⟨g6, m, none⟩)), (.int .i64 ((idxs y r b o (List.replicate ns (-1)) (retL ((hn : Nat) : Int) ((sn : Int) + pu) L) C N).getD m 0)), (.int .i64 (((idxs y r b o (List.replicate ns (-1)) (retL ((hn : Nat) : Int) ((sn : Int) + pu) L) C N).getD m 0) / 1048576)), (.int .i64 rank), (.bool true), (.bool true), (.bool true), (.int .i64 ((idxs y r b o ((List.replicate ns (-1)).set qn (r + ((0 : Nat) : Int))) (retL ((hn : Nat) : Int) ((sn : Int) + pu) L) C N).getD m 0)), (.slice (some ⟨g6, 0, none⟩) N c6), (.int .i64 ((m : Nat) : Int)), (.pointer (some ⟨g6, m, none⟩)), (.int .i64 ((idxs y r b o (List.replicate ns (-1)) (retL ((hn : Nat) : Int) ((sn : Int) + pu) L) C N).getD m 0)), (.int .i64 (r + ((0 : Nat) : Int))), (.int .i64 rank), (.int .i64 ((r + ((0 : Nat) : Int)) - rank)), (.int .i64 (((r + ((0 : Nat) : Int)) - rank) * 1048576)), (.int .i64 (((idxs y r b o (List.replicate ns (-1)) (retL ((hn : Nat) : Int) ((sn : Int) + pu) L) C N).getD m 0) + (((r + ((0 : Nat) : Int)) - rank) * 1048576))), (.bool false), (.bool false), (.bool false), (.bool true), (.bool false), (.bool false), undef, undef, undef, undef, undef, undef, (.bool false), (.bool false), (.int .i64 (((m : Nat) : Int) + 1)), (by kernel_rfl), H, (by omega)⟩
              · skip
                have h13p := of_decide_eq_true h13
                refine x_callH (.tuple #[.int .i64 0, .int .i64 52]) [.blk p #[.int .i64 r, .int .i64 s, .int .i64 b, .int .i64 o, .int .i64 c, .int .i64 y, .int .i64 z, .slice (some ⟨gl, 0, none⟩) sn cl, .slice (some ⟨gd, 0, none⟩) pg cd, .slice (some ⟨gs, 0, none⟩) ns cs, .int .i64 (((pu + 1) : Nat) : Int), .int .i64 ((0 : Nat) : Int)] 181, .row (.slice (some ⟨gl, 0, none⟩) sn cl) 3 1 sn (List.map (Value.int .i64) (retL ((hn : Nat) : Int) ((sn : Int) + pu) L)), .row (.slice (some ⟨gd, 0, none⟩) pg cd) 4 1 pg (List.map Value.bool (D.set hn true)), .row (.slice (some ⟨gs, 0, none⟩) ns cs) 3 1 ns (List.map (Value.int .i64) (List.replicate ns (-1))), .row (.slice (some ⟨g6, 0, none⟩) N c6) 3 1 N (List.map (Value.int .i64) (idxs y r b o (List.replicate ns (-1)) (retL ((hn : Nat) : Int) ((sn : Int) + pu) L) C N)), .row (.slice (some ⟨g5, 0, none⟩) N c5) 3 1 N (List.map (Value.int .i64) (idxs y r b o (List.replicate ns (-1)) (retL ((hn : Nat) : Int) ((sn : Int) + pu) L) C N)), .row (.slice (some ⟨g2, 0, none⟩) N c2) 3 1 N (List.map (Value.int .i64) (idxs y r b o (List.replicate ns (-1)) L C N)), .blk g1 #[.int .i64 r, .int .i64 s, .int .i64 b, .int .i64 o, .int .i64 c, .int .i64 y, .int .i64 z] 69] (by kernel_rfl) rfl (by kernel_rfl) (Hs.use (A := [.blk p #[.int .i64 r, .int .i64 s, .int .i64 b, .int .i64 o, .int .i64 c, .int .i64 y, .int .i64 z, .slice (some ⟨gl, 0, none⟩) sn cl, .slice (some ⟨gd, 0, none⟩) pg cd, .slice (some ⟨gs, 0, none⟩) ns cs, .int .i64 (((pu + 1) : Nat) : Int), .int .i64 ((0 : Nat) : Int)] 181, .row (.slice (some ⟨gl, 0, none⟩) sn cl) 3 1 sn (List.map (Value.int .i64) (retL ((hn : Nat) : Int) ((sn : Int) + pu) L)), .row (.slice (some ⟨gd, 0, none⟩) pg cd) 4 1 pg (List.map Value.bool (D.set hn true)), .row (.slice (some ⟨gs, 0, none⟩) ns cs) 3 1 ns (List.map (Value.int .i64) (List.replicate ns (-1)))]) (R := [.row (.slice (some ⟨g6, 0, none⟩) N c6) 3 1 N (List.map (Value.int .i64) (idxs y r b o (List.replicate ns (-1)) (retL ((hn : Nat) : Int) ((sn : Int) + pu) L) C N)), .row (.slice (some ⟨g5, 0, none⟩) N c5) 3 1 N (List.map (Value.int .i64) (idxs y r b o (List.replicate ns (-1)) (retL ((hn : Nat) : Int) ((sn : Int) + pu) L) C N)), .row (.slice (some ⟨g2, 0, none⟩) N c2) 3 1 N (List.map (Value.int .i64) (idxs y r b o (List.replicate ns (-1)) L C N)), .blk g1 #[.int .i64 r, .int .i64 s, .int .i64 b, .int .i64 o, .int .i64 c, .int .i64 y, .int .i64 z] 69]) (H.pick [2, 3, 4, 5, 0, 1, 6, 7] _ (by decide) (by kernel_rfl)) (fun h => TakeSpare_no hL (St'.mok (s := s) s0 ns) (by omega) _ h)) ?_
                clear H
                intro v28 H
                refine x_val (.tuple #[.int .i64 0, .int .i64 52]) (by kernel_rfl) rfl (by kernel_rfl) ?_
                refine x_val (.int .i64 0) (by kernel_rfl) rfl (by kernel_rfl) ?_
                refine x_val (.int .i64 52) (by kernel_rfl) rfl (by kernel_rfl) ?_
                refine x_val (.int .i64 0) (by kernel_rfl) rfl (by kernel_rfl) ?_
                refine x_val (.int .i64 52) (by kernel_rfl) rfl (by kernel_rfl) ?_
                refine x_nil ?_
                refine x_then ?_
                refine x_seq ?_
                refine x_region ?_
                refine x_val (.int .i64 52) (by kernel_rfl) rfl (by kernel_rfl) ?_
                refine x_val (.bool false) (by kernel_rfl) rfl (by kernel_rfl) ?_
                refine x_val (.bool false) (by kernel_rfl) rfl (by kernel_rfl) ?_
                refine x_skip (by kernel_rfl) ?_
                refine x_skip (by kernel_rfl) ?_
                refine x_skip (by kernel_rfl) ?_
                refine x_skip (by kernel_rfl) ?_
                refine x_skip (by kernel_rfl) ?_
                refine x_val (.bool false) (by kernel_rfl) rfl (by kernel_rfl) ?_
                refine x_nil ?_
                refine x_then ?_
                refine x_f (by kernel_rfl) ?_
                refine x_skipc ?_
                refine x_then ?_
                refine x_seq ?_
                refine x_region ?_
                refine x_val (.bool true) (by kernel_rfl) rfl (by kernel_rfl) ?_
                refine x_nil ?_
                refine x_then ?_
                refine x_retc ?_
                refine x_ret (.bool true) (by kernel_rfl) (by kernel_rfl) ?_
                exact ⟨rfl, H.below⟩
            · skip
              have h12p := of_decide_eq_true h12
              refine x_t (by kernel_rfl) ?_
              refine x_skipc ?_
              refine x_then ?_
              refine x_seq ?_
              refine x_block ?_
              refine x_seq ?_
              refine x_region ?_
              refine x_val (.int .i64 ((n : Nat) : Int)) (by kernel_rfl) rfl (by kernel_rfl) ?_
              refine x_ix (t := 106) g5 0 n N c5 3 1 n (by omega) (by omega) (by kernel_rfl) (by kernel_rfl) (by kernel_rfl) rfl (by kernel_rfl) ?_
              refine x_loadc g5 n (.int .i64 ((idxs y r b o (List.replicate ns (-1)) (retL ((hn : Nat) : Int) ((sn : Int) + pu) L) C N).getD n 0)) (H.rowCell 0 rfl n (mapAt 0 (by omega))) (by kernel_rfl) rfl (by kernel_rfl) ?_
              refine x_val (.int .i64 ((n : Nat) : Int)) (by kernel_rfl) rfl (by kernel_rfl) ?_
              refine x_val (.int .i64 ((idxs y r b o (List.replicate ns (-1)) (retL ((hn : Nat) : Int) ((sn : Int) + pu) L) C N).getD n 0)) (by kernel_rfl) rfl (by kernel_rfl) ?_
              refine x_nil ?_
              refine x_then ?_
              refine x_seq ?_
              refine x_region ?_
              refine x_val (.pointer (some ⟨p, 0, none⟩)) (by kernel_rfl) rfl (by kernel_rfl) ?_
              refine x_val (.int .i64 ((n : Nat) : Int)) (by kernel_rfl) rfl (by kernel_rfl) ?_
              refine x_callB (.tuple #[.int .i64 (idxP y r b o (List.replicate ns (-1)) ((retL ((hn : Nat) : Int) ((sn : Int) + pu) L).getD (n / C) 0) * 64 + ((n % C : Nat) : Int)), .int .i64 ((retL ((hn : Nat) : Int) ((sn : Int) + pu) L).getD (n / C) 0), .int .i64 (pgAt y r b o ((retL ((hn : Nat) : Int) ((sn : Int) + pu) L).getD (n / C) 0) / 16384), .int .i64 0]) H (by kernel_rfl) rfl (by kernel_rfl) (Index_at hL (St'.mok (s := s) s0 ns) hC (fun k hk => by have := St'.lv k hk; have := St'.hp; omega) (fun q hq => .inl (rep_none hq)) n (by omega) _ (H.roOf [1, 2, 3, 4] [.blk p #[.int .i64 r, .int .i64 s, .int .i64 b, .int .i64 o, .int .i64 c, .int .i64 y, .int .i64 z, .slice (some ⟨gl, 0, none⟩) sn cl, .slice (some ⟨gd, 0, none⟩) pg cd, .slice (some ⟨gs, 0, none⟩) ns cs, .int .i64 (((pu + 1) : Nat) : Int), .int .i64 ((0 : Nat) : Int)] 181, .row (.slice (some ⟨gl, 0, none⟩) sn cl) 3 1 sn (List.map (Value.int .i64) (retL ((hn : Nat) : Int) ((sn : Int) + pu) L)), .row (.slice (some ⟨gd, 0, none⟩) pg cd) 4 1 pg (List.map Value.bool (D.set hn true)), .row (.slice (some ⟨gs, 0, none⟩) ns cs) 3 1 ns (List.map (Value.int .i64) (List.replicate ns (-1)))] (by kernel_rfl))) ?_
              clear H
              intro v29 H
              refine x_val (.tuple #[.int .i64 (idxP y r b o (List.replicate ns (-1)) ((retL ((hn : Nat) : Int) ((sn : Int) + pu) L).getD (n / C) 0) * 64 + ((n % C : Nat) : Int)), .int .i64 ((retL ((hn : Nat) : Int) ((sn : Int) + pu) L).getD (n / C) 0), .int .i64 (pgAt y r b o ((retL ((hn : Nat) : Int) ((sn : Int) + pu) L).getD (n / C) 0) / 16384), .int .i64 0]) (by kernel_rfl) rfl (by kernel_rfl) ?_
              refine x_val (.int .i64 (idxP y r b o (List.replicate ns (-1)) ((retL ((hn : Nat) : Int) ((sn : Int) + pu) L).getD (n / C) 0) * 64 + ((n % C : Nat) : Int))) (by kernel_rfl) rfl (by kernel_rfl) ?_
              refine x_val (.int .i64 ((retL ((hn : Nat) : Int) ((sn : Int) + pu) L).getD (n / C) 0)) (by kernel_rfl) rfl (by kernel_rfl) ?_
              refine x_val (.int .i64 (pgAt y r b o ((retL ((hn : Nat) : Int) ((sn : Int) + pu) L).getD (n / C) 0) / 16384)) (by kernel_rfl) rfl (by kernel_rfl) ?_
              refine x_val (.int .i64 0) (by kernel_rfl) rfl (by kernel_rfl) ?_
              refine x_val (.int .i64 (idxP y r b o (List.replicate ns (-1)) ((retL ((hn : Nat) : Int) ((sn : Int) + pu) L).getD (n / C) 0) * 64 + ((n % C : Nat) : Int))) (by kernel_rfl) rfl (by kernel_rfl) ?_
              refine x_val (.int .i64 ((retL ((hn : Nat) : Int) ((sn : Int) + pu) L).getD (n / C) 0)) (by kernel_rfl) rfl (by kernel_rfl) ?_
              refine x_val (.int .i64 (pgAt y r b o ((retL ((hn : Nat) : Int) ((sn : Int) + pu) L).getD (n / C) 0) / 16384)) (by kernel_rfl) rfl (by kernel_rfl) ?_
              refine x_val (.int .i64 0) (by kernel_rfl) rfl (by kernel_rfl) ?_
              refine x_nil ?_
              refine x_then ?_
              refine x_seq ?_
              refine x_region ?_
              refine x_val (.int .i64 ((idxs y r b o (List.replicate ns (-1)) (retL ((hn : Nat) : Int) ((sn : Int) + pu) L) C N).getD n 0)) (by kernel_rfl) rfl (by kernel_rfl) ?_
              refine x_val (.slice (some ⟨g2, 0, none⟩) N c2) (by kernel_rfl) rfl (by kernel_rfl) ?_
              refine x_val (.int .i64 ((n : Nat) : Int)) (by kernel_rfl) rfl (by kernel_rfl) ?_
              refine x_ix (t := 106) g2 0 n N c2 3 1 n (by omega) (by omega) (by kernel_rfl) (by kernel_rfl) (by kernel_rfl) rfl (by kernel_rfl) ?_
              refine x_loadc g2 n (.int .i64 ((idxs y r b o (List.replicate ns (-1)) L C N).getD n 0)) (H.rowCell 5 rfl n (mapAt 0 (by omega))) (by kernel_rfl) rfl (by kernel_rfl) ?_
              refine x_val (.bool (!(decide (((idxs y r b o (List.replicate ns (-1)) (retL ((hn : Nat) : Int) ((sn : Int) + pu) L) C N).getD n 0) = ((idxs y r b o (List.replicate ns (-1)) L C N).getD n 0))))) (by kernel_rfl) rfl (by kernel_rfl) ?_
              refine x_val (.int .i64 ((retL ((hn : Nat) : Int) ((sn : Int) + pu) L).getD (n / C) 0)) (by kernel_rfl) rfl (by kernel_rfl) ?_
              refine x_val (.int .i64 (((sn : Nat) : Int) + ((pu : Nat) : Int))) (by kernel_rfl) rfl (by kernel_rfl) ?_
              refine x_val (.bool (decide (((retL ((hn : Nat) : Int) ((sn : Int) + pu) L).getD (n / C) 0) = (((sn : Nat) : Int) + ((pu : Nat) : Int))))) (by kernel_rfl) rfl (by kernel_rfl) ?_
              refine x_val (.bool ((!(decide (((idxs y r b o (List.replicate ns (-1)) (retL ((hn : Nat) : Int) ((sn : Int) + pu) L) C N).getD n 0) = ((idxs y r b o (List.replicate ns (-1)) L C N).getD n 0)))) != (decide (((retL ((hn : Nat) : Int) ((sn : Int) + pu) L).getD (n / C) 0) = (((sn : Nat) : Int) + ((pu : Nat) : Int)))))) (by kernel_rfl) rfl (by kernel_rfl) ?_
              refine x_nil ?_
              refine x_then ?_
              cases h19 : (!(decide (((idxs y r b o (List.replicate ns (-1)) (retL ((hn : Nat) : Int) ((sn : Int) + pu) L) C N).getD n 0) = ((idxs y r b o (List.replicate ns (-1)) L C N).getD n 0)))) != (decide (((retL ((hn : Nat) : Int) ((sn : Int) + pu) L).getD (n / C) 0) = (((sn : Nat) : Int) + ((pu : Nat) : Int))))
              · skip
                refine x_f (by kernel_rfl) ?_
                refine x_skipc ?_
                refine x_blk ?_
                refine x_then ?_
                refine x_region ?_
                refine x_ar (((n : Nat) : Int) + 1) ⟨by omega, by omega⟩ (by kernel_rfl) rfl (by kernel_rfl) ?_
                refine x_val (.int .i64 (((n : Nat) : Int) + 1)) (by kernel_rfl) rfl (by kernel_rfl) ?_
                refine x_nil ?_
                refine x_frame' { tmps := #[.agg #[.int .i64 r, .int .i64 s, .int .i64 b, .int .i64 o, .int .i64 c, .int .i64 y, .int .i64 z], .slice ad nA cA, .int .i64 home, .int .i64 rank, .pointer (some ⟨g1, 0, none⟩), undef, undef, undef, u8, .pointer (some ⟨p, 0, none⟩), .int .i64 0, undef, u12, u13, u14, .slice (some ⟨g2, 0, none⟩) N c2, .int .i64 (((sn : Nat) : Int) + ((pu : Nat) : Int)), .bool true, .int .i64 ((n : Nat) : Int), .int .i64 ((idxs y r b o (List.replicate ns (-1)) (retL ((hn : Nat) : Int) ((sn : Int) + pu) L) C N).getD n 0), .int .i64 (idxP y r b o (List.replicate ns (-1)) ((retL ((hn : Nat) : Int) ((sn : Int) + pu) L).getD (n / C) 0) * 64 + ((n % C : Nat) : Int)), .int .i64 ((retL ((hn : Nat) : Int) ((sn : Int) + pu) L).getD (n / C) 0), .int .i64 (pgAt y r b o ((retL ((hn : Nat) : Int) ((sn : Int) + pu) L).getD (n / C) 0) / 16384), .int .i64 0, undef, undef, undef, undef, undef, .bool true, .bool false, .agg #[.int .i64 r, .int .i64 s, .int .i64 b, .int .i64 o, .int .i64 c, .int .i64 y, .int .i64 z], .bool true, .bool false, .bool false, .slice ad nA cA, .int .i64 ((nA : Nat) : Int), .bool false, .bool false, .tuple #[.pointer (some ⟨p, 0, none⟩), .int .i64 0], .agg #[.int .i64 r, .int .i64 s, .int .i64 b, .int .i64 o, .int .i64 c, .int .i64 y, .int .i64 z], .tuple #[.pointer (some ⟨p, 0, none⟩), .int .i64 0], .pointer (some ⟨p, 0, none⟩), .int .i64 0, .int .i64 0, .bool false, .bool false, .pointer (some ⟨p, 0, none⟩), .bool false, .bool false, undef, undef, .slice ad nA cA, .int .i64 ((nA : Nat) : Int), .int .i64 ((k : Nat) : Int), .bool false, u56, u57, u58, u59, u60, u61, u62, u63, u64, u65, u66, u67, u68, u69, u70, u71, u72, u73, u74, u75, u76, u77, u78, u79, u80, u81, u82, .pointer (some ⟨p, 0, none⟩), .slice (some ⟨g2, 0, none⟩) N c2, .tuple #[.int .i64 (((sn : Nat) : Int) + ((pu : Nat) : Int)), .bool true], .pointer (some ⟨p, 0, none⟩), .tuple #[.int .i64 (((sn : Nat) : Int) + ((pu : Nat) : Int)), .bool true], .int .i64 (((sn : Nat) : Int) + ((pu : Nat) : Int)), .bool true, .bool true, .bool true, .pointer (some ⟨p, 0, none⟩), .int .i64 home, .bool true, .bool true, .pointer (some ⟨p, 0, none⟩), .tuple #[.int .i64 (((sn : Nat) : Int) + ((pu : Nat) : Int)), .int .i64 0], .pointer (some ⟨p, 0, none⟩), .int .i64 home, .int .i64 (((sn : Nat) : Int) + ((pu : Nat) : Int)), .int .i64 0, .bool false, .bool false, .pointer (some ⟨p, 0, none⟩), .int .i64 home, .bool false, .bool false, .bool false, .pointer (some ⟨p, 0, none⟩), .int .i64 (((sn : Nat) : Int) + ((pu : Nat) : Int)), .bool true, .bool false, .bool false, .pointer (some ⟨p, 0, none⟩), .slice (some ⟨g5, 0, none⟩) N c5, .int .i64 ((N : Nat) : Int), .int .i64 (((n : Nat) : Int) + 1), .bool true, .int .i64 ((n : Nat) : Int), .pointer (some ⟨g5, n, none⟩), .int .i64 ((idxs y r b o (List.replicate ns (-1)) (retL ((hn : Nat) : Int) ((sn : Int) + pu) L) C N).getD n 0), .tuple #[.int .i64 (idxP y r b o (List.replicate ns (-1)) ((retL ((hn : Nat) : Int) ((sn : Int) + pu) L).getD (n / C) 0) * 64 + ((n % C : Nat) : Int)), .int .i64 ((retL ((hn : Nat) : Int) ((sn : Int) + pu) L).getD (n / C) 0), .int .i64 (pgAt y r b o ((retL ((hn : Nat) : Int) ((sn : Int) + pu) L).getD (n / C) 0) / 16384), .int .i64 0], .pointer (some ⟨p, 0, none⟩), .int .i64 ((n : Nat) : Int), .tuple #[.int .i64 (idxP y r b o (List.replicate ns (-1)) ((retL ((hn : Nat) : Int) ((sn : Int) + pu) L).getD (n / C) 0) * 64 + ((n % C : Nat) : Int)), .int .i64 ((retL ((hn : Nat) : Int) ((sn : Int) + pu) L).getD (n / C) 0), .int .i64 (pgAt y r b o ((retL ((hn : Nat) : Int) ((sn : Int) + pu) L).getD (n / C) 0) / 16384), .int .i64 0], .int .i64 (idxP y r b o (List.replicate ns (-1)) ((retL ((hn : Nat) : Int) ((sn : Int) + pu) L).getD (n / C) 0) * 64 + ((n % C : Nat) : Int)), .int .i64 ((retL ((hn : Nat) : Int) ((sn : Int) + pu) L).getD (n / C) 0), .int .i64 (pgAt y r b o ((retL ((hn : Nat) : Int) ((sn : Int) + pu) L).getD (n / C) 0) / 16384), .int .i64 0, .int .i64 ((idxs y r b o (List.replicate ns (-1)) (retL ((hn : Nat) : Int) ((sn : Int) + pu) L) C N).getD n 0), .slice (some ⟨g2, 0, none⟩) N c2, .int .i64 ((n : Nat) : Int), .pointer (some ⟨g2, n, none⟩), .int .i64 ((idxs y r b o (List.replicate ns (-1)) L C N).getD n 0), .bool (!(decide (((idxs y r b o (List.replicate ns (-1)) (retL ((hn : Nat) : Int) ((sn : Int) + pu) L) C N).getD n 0) = ((idxs y r b o (List.replicate ns (-1)) L C N).getD n 0)))), .int .i64 ((retL ((hn : Nat) : Int) ((sn : Int) + pu) L).getD (n / C) 0), .int .i64 (((sn : Nat) : Int) + ((pu : Nat) : Int)), .bool (decide (((retL ((hn : Nat) : Int) ((sn : Int) + pu) L).getD (n / C) 0) = (((sn : Nat) : Int) + ((pu : Nat) : Int)))), .bool false, .int .i64 (((n : Nat) : Int) + 1), undef, undef, undef, undef, undef, undef, undef, undef, undef, undef, undef, undef, undef, undef, undef, undef, undef, undef, undef, undef, undef, undef, undef, undef, undef, undef, undef, undef, undef, undef, undef, undef, undef, undef, undef, undef, undef, undef, undef, undef, undef, undef, undef, undef, undef, undef, undef, undef, undef, undef, undef, undef, undef, undef, undef, undef, undef, undef], defers := [] } (by kernel_rfl) ?_
                refine x_then ?_
                exact ⟨(n + 1), (by omega), u8, (.int .i64 ((n : Nat) : Int)), (.int .i64 ((idxs y r b o (List.replicate ns (-1)) (retL ((hn : Nat) : Int) ((sn : Int) + pu) L) C N).getD n 0)), (.int .i64 (idxP y r b o (List.replicate ns (-1)) ((retL ((hn : Nat) : Int) ((sn : Int) + pu) L).getD (n / C) 0) * 64 + ((n % C : Nat) : Int))), (.int .i64 ((retL ((hn : Nat) : Int) ((sn : Int) + pu) L).getD (n / C) 0)), (.int .i64 (pgAt y r b o ((retL ((hn : Nat) : Int) ((sn : Int) + pu) L).getD (n / C) 0) / 16384)), (.int .i64 0), (.bool true), (.int .i64 ((n : Nat) : Int)), (.pointer (some ⟨g5, n, none⟩)), (.int .i64 ((idxs y r b o (List.replicate ns (-1)) (retL ((hn : Nat) : Int) ((sn : Int) + pu) L) C N).getD n 0)), (.tuple #[.int .i64 (idxP y r b o (List.replicate ns (-1)) ((retL ((hn : Nat) : Int) ((sn : Int) + pu) L).getD (n / C) 0) * 64 + ((n % C : Nat) : Int)), .int .i64 ((retL ((hn : Nat) : Int) ((sn : Int) + pu) L).getD (n / C) 0), .int .i64 (pgAt y r b o ((retL ((hn : Nat) : Int) ((sn : Int) + pu) L).getD (n / C) 0) / 16384), .int .i64 0]), (.pointer (some ⟨p, 0, none⟩)), (.int .i64 ((n : Nat) : Int)), (.tuple #[.int .i64 (idxP y r b o (List.replicate ns (-1)) ((retL ((hn : Nat) : Int) ((sn : Int) + pu) L).getD (n / C) 0) * 64 + ((n % C : Nat) : Int)), .int .i64 ((retL ((hn : Nat) : Int) ((sn : Int) + pu) L).getD (n / C) 0), .int .i64 (pgAt y r b o ((retL ((hn : Nat) : Int) ((sn : Int) + pu) L).getD (n / C) 0) / 16384), .int .i64 0]), (.int .i64 (idxP y r b o (List.replicate ns (-1)) ((retL ((hn : Nat) : Int) ((sn : Int) + pu) L).getD (n / C) 0) * 64 + ((n % C : Nat) : Int))), (.int .i64 ((retL ((hn : Nat) : Int) ((sn : Int) + pu) L).getD (n / C) 0)), (.int .i64 (pgAt y r b o ((retL ((hn : Nat) : Int) ((sn : Int) + pu) L).getD (n / C) 0) / 16384)), (.int .i64 0), (.int .i64 ((idxs y r b o (List.replicate ns (-1)) (retL ((hn : Nat) : Int) ((sn : Int) + pu) L) C N).getD n 0)), (.slice (some ⟨g2, 0, none⟩) N c2), (.int .i64 ((n : Nat) : Int)), (.pointer (some ⟨g2, n, none⟩)), (.int .i64 ((idxs y r b o (List.replicate ns (-1)) L C N).getD n 0)), (.bool (!(decide (((idxs y r b o (List.replicate ns (-1)) (retL ((hn : Nat) : Int) ((sn : Int) + pu) L) C N).getD n 0) = ((idxs y r b o (List.replicate ns (-1)) L C N).getD n 0))))), (.int .i64 ((retL ((hn : Nat) : Int) ((sn : Int) + pu) L).getD (n / C) 0)), (.int .i64 (((sn : Nat) : Int) + ((pu : Nat) : Int))), (.bool (decide (((retL ((hn : Nat) : Int) ((sn : Int) + pu) L).getD (n / C) 0) = (((sn : Nat) : Int) + ((pu : Nat) : Int))))), (.bool false), (.int .i64 (((n : Nat) : Int) + 1)), (by kernel_rfl), H, (by omega)⟩
              · skip
                exact (bne_absurd (stay_page hL hC hN St hh (by have := St.hp; omega) (n := n) (by omega)) h19).elim
        · skip
          have h4p := of_decide_eq_true h4
          refine x_callB (.tuple #[.int .i64 0, .bool false]) H (by kernel_rfl) rfl (by kernel_rfl) (FreePage_no hL (St.mok (s := s) s0 ns) (by omega) _ (H.roOf [1, 2, 3, 4] [.blk p #[.int .i64 r, .int .i64 s, .int .i64 b, .int .i64 o, .int .i64 c, .int .i64 y, .int .i64 z, .slice (some ⟨gl, 0, none⟩) sn cl, .slice (some ⟨gd, 0, none⟩) pg cd, .slice (some ⟨gs, 0, none⟩) ns cs, .int .i64 ((pu : Nat) : Int), .int .i64 ((0 : Nat) : Int)] 181, .row (.slice (some ⟨gl, 0, none⟩) sn cl) 3 1 sn (List.map (Value.int .i64) L), .row (.slice (some ⟨gd, 0, none⟩) pg cd) 4 1 pg (List.map Value.bool D), .row (.slice (some ⟨gs, 0, none⟩) ns cs) 3 1 ns (List.map (Value.int .i64) (List.replicate ns (-1)))] (by kernel_rfl))) ?_
          clear H
          intro v30 H
          refine x_val (.tuple #[.int .i64 0, .bool false]) (by kernel_rfl) rfl (by kernel_rfl) ?_
          refine x_val (.int .i64 0) (by kernel_rfl) rfl (by kernel_rfl) ?_
          refine x_val (.bool false) (by kernel_rfl) rfl (by kernel_rfl) ?_
          refine x_val (.int .i64 0) (by kernel_rfl) rfl (by kernel_rfl) ?_
          refine x_val (.bool false) (by kernel_rfl) rfl (by kernel_rfl) ?_
          refine x_nil ?_
          refine x_then ?_
          refine x_seq ?_
          refine x_seq ?_
          refine x_region ?_
          refine x_val (.bool false) (by kernel_rfl) rfl (by kernel_rfl) ?_
          refine x_val (.bool false) (by kernel_rfl) rfl (by kernel_rfl) ?_
          refine x_skip (by kernel_rfl) ?_
          refine x_skip (by kernel_rfl) ?_
          refine x_skip (by kernel_rfl) ?_
          refine x_val (.bool false) (by kernel_rfl) rfl (by kernel_rfl) ?_
          refine x_nil ?_
          refine x_then ?_
          refine x_f (by kernel_rfl) ?_
          refine x_skipc ?_
          refine x_then ?_
          refine x_seq ?_
          refine x_region ?_
          refine x_val (.pointer (some ⟨p, 0, none⟩)) (by kernel_rfl) rfl (by kernel_rfl) ?_
          refine x_call (by kernel_rfl) rfl (by kernel_rfl) (indices_w hL (St.mok (s := s) s0 ns) hC hN (fun k hk => by have := St.lv k hk; have := St.hp; omega) (fun q hq => .inl (rep_none hq)) _ (H.roOf [1, 2, 3, 4] [.blk p #[.int .i64 r, .int .i64 s, .int .i64 b, .int .i64 o, .int .i64 c, .int .i64 y, .int .i64 z, .slice (some ⟨gl, 0, none⟩) sn cl, .slice (some ⟨gd, 0, none⟩) pg cd, .slice (some ⟨gs, 0, none⟩) ns cs, .int .i64 ((pu : Nat) : Int), .int .i64 ((0 : Nat) : Int)] 181, .row (.slice (some ⟨gl, 0, none⟩) sn cl) 3 1 sn (List.map (Value.int .i64) L), .row (.slice (some ⟨gd, 0, none⟩) pg cd) 4 1 pg (List.map Value.bool D), .row (.slice (some ⟨gs, 0, none⟩) ns cs) 3 1 ns (List.map (Value.int .i64) (List.replicate ns (-1)))] (by kernel_rfl))) ?_
          rintro _ v31 ⟨g8, c8, rfl, hX⟩
          refine ⟨_, rfl, ?_⟩
          replace H := H.more hX
          clear hX
          replace H : Hs [] w0 _ [.row (.slice (some ⟨g8, 0, none⟩) N c8) 3 1 N (List.map (Value.int .i64) (idxs y r b o (List.replicate ns (-1)) L C N)), .row (.slice (some ⟨g2, 0, none⟩) N c2) 3 1 N (List.map (Value.int .i64) (idxs y r b o (List.replicate ns (-1)) L C N)), .blk p #[.int .i64 r, .int .i64 s, .int .i64 b, .int .i64 o, .int .i64 c, .int .i64 y, .int .i64 z, .slice (some ⟨gl, 0, none⟩) sn cl, .slice (some ⟨gd, 0, none⟩) pg cd, .slice (some ⟨gs, 0, none⟩) ns cs, .int .i64 ((pu : Nat) : Int), .int .i64 ((0 : Nat) : Int)] 181, .row (.slice (some ⟨gl, 0, none⟩) sn cl) 3 1 sn (List.map (Value.int .i64) L), .row (.slice (some ⟨gd, 0, none⟩) pg cd) 4 1 pg (List.map Value.bool D), .row (.slice (some ⟨gs, 0, none⟩) ns cs) 3 1 ns (List.map (Value.int .i64) (List.replicate ns (-1))), .blk g1 #[.int .i64 r, .int .i64 s, .int .i64 b, .int .i64 o, .int .i64 c, .int .i64 y, .int .i64 z] 69] := H
          refine x_val (.slice (some ⟨g8, 0, none⟩) N c8) (by kernel_rfl) rfl (by kernel_rfl) ?_
          refine x_nil ?_
          refine x_then ?_
          refine x_seq ?_
          refine x_seq ?_
          refine x_region ?_
          refine x_val (.pointer (some ⟨p, 0, none⟩)) (by kernel_rfl) rfl (by kernel_rfl) ?_
          cases h20 : decide (((0 : Nat) : Int) = s)
          · skip
            have h20p := of_decide_eq_false h20
            refine x_callH (.tuple #[.int .i64 (r + ((0 : Nat) : Int)), .int .i64 0]) [.blk p #[.int .i64 r, .int .i64 s, .int .i64 b, .int .i64 o, .int .i64 c, .int .i64 y, .int .i64 z, .slice (some ⟨gl, 0, none⟩) sn cl, .slice (some ⟨gd, 0, none⟩) pg cd, .slice (some ⟨gs, 0, none⟩) ns cs, .int .i64 ((pu : Nat) : Int), .int .i64 (((0 + 1) : Nat) : Int)] 181, .row (.slice (some ⟨gl, 0, none⟩) sn cl) 3 1 sn (List.map (Value.int .i64) L), .row (.slice (some ⟨gd, 0, none⟩) pg cd) 4 1 pg (List.map Value.bool D), .row (.slice (some ⟨gs, 0, none⟩) ns cs) 3 1 ns (List.map (Value.int .i64) (List.replicate ns (-1))), .row (.slice (some ⟨g8, 0, none⟩) N c8) 3 1 N (List.map (Value.int .i64) (idxs y r b o (List.replicate ns (-1)) L C N)), .row (.slice (some ⟨g2, 0, none⟩) N c2) 3 1 N (List.map (Value.int .i64) (idxs y r b o (List.replicate ns (-1)) L C N)), .blk g1 #[.int .i64 r, .int .i64 s, .int .i64 b, .int .i64 o, .int .i64 c, .int .i64 y, .int .i64 z] 69] (by kernel_rfl) rfl (by kernel_rfl) (Hs.use (A := [.blk p #[.int .i64 r, .int .i64 s, .int .i64 b, .int .i64 o, .int .i64 c, .int .i64 y, .int .i64 z, .slice (some ⟨gl, 0, none⟩) sn cl, .slice (some ⟨gd, 0, none⟩) pg cd, .slice (some ⟨gs, 0, none⟩) ns cs, .int .i64 ((pu : Nat) : Int), .int .i64 ((0 : Nat) : Int)] 181, .row (.slice (some ⟨gl, 0, none⟩) sn cl) 3 1 sn (List.map (Value.int .i64) L), .row (.slice (some ⟨gd, 0, none⟩) pg cd) 4 1 pg (List.map Value.bool D), .row (.slice (some ⟨gs, 0, none⟩) ns cs) 3 1 ns (List.map (Value.int .i64) (List.replicate ns (-1)))]) (R := [.row (.slice (some ⟨g8, 0, none⟩) N c8) 3 1 N (List.map (Value.int .i64) (idxs y r b o (List.replicate ns (-1)) L C N)), .row (.slice (some ⟨g2, 0, none⟩) N c2) 3 1 N (List.map (Value.int .i64) (idxs y r b o (List.replicate ns (-1)) L C N)), .blk g1 #[.int .i64 r, .int .i64 s, .int .i64 b, .int .i64 o, .int .i64 c, .int .i64 y, .int .i64 z] 69]) (H.pick [2, 3, 4, 5, 0, 1, 6] _ (by decide) (by kernel_rfl)) (fun h => TakeSpare_yes hL (St.mok (s := s) s0 ns) (by omega) _ h)) ?_
            clear H
            intro v32 H
            refine x_val (.tuple #[.int .i64 (r + ((0 : Nat) : Int)), .int .i64 0]) (by kernel_rfl) rfl (by kernel_rfl) ?_
            refine x_val (.int .i64 (r + ((0 : Nat) : Int))) (by kernel_rfl) rfl (by kernel_rfl) ?_
            refine x_val (.int .i64 0) (by kernel_rfl) rfl (by kernel_rfl) ?_
            refine x_val (.int .i64 (r + ((0 : Nat) : Int))) (by kernel_rfl) rfl (by kernel_rfl) ?_
            refine x_val (.int .i64 0) (by kernel_rfl) rfl (by kernel_rfl) ?_
            refine x_nil ?_
            refine x_then ?_
            refine x_seq ?_
            refine x_region ?_
            refine x_val (.int .i64 0) (by kernel_rfl) rfl (by kernel_rfl) ?_
            refine x_val (.bool true) (by kernel_rfl) rfl (by kernel_rfl) ?_
            refine x_val (.bool true) (by kernel_rfl) rfl (by kernel_rfl) ?_
            refine x_val (.pointer (some ⟨p, 0, none⟩)) (by kernel_rfl) rfl (by kernel_rfl) ?_
            refine x_val (.int .i64 rank) (by kernel_rfl) rfl (by kernel_rfl) ?_
            refine x_val (.int .i64 (r + ((0 : Nat) : Int))) (by kernel_rfl) rfl (by kernel_rfl) ?_
            cases h21 : decide (0 ≤ rank) && decide (rank < ((ns : Nat) : Int))
            · skip
              have hM1 : MapOk z s sn pg ns _ _ (List.replicate ns (-1)) _ (0 + 1) := ⟨St.hL, St.hD, List.length_replicate, St.hp, by omega⟩
              refine x_callH (.int .i64 12) [.blk p #[.int .i64 r, .int .i64 s, .int .i64 b, .int .i64 o, .int .i64 c, .int .i64 y, .int .i64 z, .slice (some ⟨gl, 0, none⟩) sn cl, .slice (some ⟨gd, 0, none⟩) pg cd, .slice (some ⟨gs, 0, none⟩) ns cs, .int .i64 ((pu : Nat) : Int), .int .i64 (((0 + 1) : Nat) : Int)] 181, .row (.slice (some ⟨gl, 0, none⟩) sn cl) 3 1 sn (List.map (Value.int .i64) L), .row (.slice (some ⟨gd, 0, none⟩) pg cd) 4 1 pg (List.map Value.bool D), .row (.slice (some ⟨gs, 0, none⟩) ns cs) 3 1 ns (List.map (Value.int .i64) (List.replicate ns (-1))), .row (.slice (some ⟨g8, 0, none⟩) N c8) 3 1 N (List.map (Value.int .i64) (idxs y r b o (List.replicate ns (-1)) L C N)), .row (.slice (some ⟨g2, 0, none⟩) N c2) 3 1 N (List.map (Value.int .i64) (idxs y r b o (List.replicate ns (-1)) L C N)), .blk g1 #[.int .i64 r, .int .i64 s, .int .i64 b, .int .i64 o, .int .i64 c, .int .i64 y, .int .i64 z] 69] (by kernel_rfl) rfl (by kernel_rfl) (Hs.use (A := [.blk p #[.int .i64 r, .int .i64 s, .int .i64 b, .int .i64 o, .int .i64 c, .int .i64 y, .int .i64 z, .slice (some ⟨gl, 0, none⟩) sn cl, .slice (some ⟨gd, 0, none⟩) pg cd, .slice (some ⟨gs, 0, none⟩) ns cs, .int .i64 ((pu : Nat) : Int), .int .i64 (((0 + 1) : Nat) : Int)] 181, .row (.slice (some ⟨gl, 0, none⟩) sn cl) 3 1 sn (List.map (Value.int .i64) L), .row (.slice (some ⟨gd, 0, none⟩) pg cd) 4 1 pg (List.map Value.bool D), .row (.slice (some ⟨gs, 0, none⟩) ns cs) 3 1 ns (List.map (Value.int .i64) (List.replicate ns (-1)))]) (R := [.row (.slice (some ⟨g8, 0, none⟩) N c8) 3 1 N (List.map (Value.int .i64) (idxs y r b o (List.replicate ns (-1)) L C N)), .row (.slice (some ⟨g2, 0, none⟩) N c2) 3 1 N (List.map (Value.int .i64) (idxs y r b o (List.replicate ns (-1)) L C N)), .blk g1 #[.int .i64 r, .int .i64 s, .int .i64 b, .int .i64 o, .int .i64 c, .int .i64 y, .int .i64 z] 69]) (H.pick [0, 1, 2, 3, 4, 5, 6] _ (by decide) (by kernel_rfl)) (fun h => Replace_out hL hM1 rank (r + ((0 : Nat) : Int)) (by simpa using h21) _ h)) ?_
              clear H
              intro v33 H
              refine x_val (.bool false) (by kernel_rfl) rfl (by kernel_rfl) ?_
              refine x_val (.bool false) (by kernel_rfl) rfl (by kernel_rfl) ?_
              refine x_nil ?_
              refine x_frame' { tmps := #[.agg #[.int .i64 r, .int .i64 s, .int .i64 b, .int .i64 o, .int .i64 c, .int .i64 y, .int .i64 z], .slice ad nA cA, .int .i64 home, .int .i64 rank, .pointer (some ⟨g1, 0, none⟩), undef, undef, undef, .bool false, .pointer (some ⟨p, 0, none⟩), .int .i64 0, undef, u12, u13, u14, .slice (some ⟨g8, 0, none⟩) N c8, .int .i64 0, .bool false, undef, undef, undef, undef, undef, undef, .int .i64 (r + ((0 : Nat) : Int)), .int .i64 0, undef, undef, undef, .bool true, .bool false, .agg #[.int .i64 r, .int .i64 s, .int .i64 b, .int .i64 o, .int .i64 c, .int .i64 y, .int .i64 z], .bool true, .bool false, .bool false, .slice ad nA cA, .int .i64 ((nA : Nat) : Int), .bool false, .bool false, .tuple #[.pointer (some ⟨p, 0, none⟩), .int .i64 0], .agg #[.int .i64 r, .int .i64 s, .int .i64 b, .int .i64 o, .int .i64 c, .int .i64 y, .int .i64 z], .tuple #[.pointer (some ⟨p, 0, none⟩), .int .i64 0], .pointer (some ⟨p, 0, none⟩), .int .i64 0, .int .i64 0, .bool false, .bool false, .pointer (some ⟨p, 0, none⟩), .bool false, .bool false, undef, undef, .slice ad nA cA, .int .i64 ((nA : Nat) : Int), .int .i64 ((k : Nat) : Int), .bool false, u56, u57, u58, u59, u60, u61, u62, u63, u64, u65, u66, u67, u68, u69, u70, u71, u72, u73, u74, u75, u76, u77, u78, u79, u80, u81, u82, .pointer (some ⟨p, 0, none⟩), .slice (some ⟨g2, 0, none⟩) N c2, .tuple #[.int .i64 0, .bool false], .pointer (some ⟨p, 0, none⟩), .tuple #[.int .i64 0, .bool false], .int .i64 0, .bool false, .bool false, .bool false, undef, undef, undef, .bool false, undef, undef, undef, undef, undef, undef, undef, undef, undef, undef, undef, undef, undef, undef, undef, undef, undef, undef, undef, undef, undef, undef, undef, undef, undef, undef, undef, undef, undef, undef, undef, undef, undef, undef, undef, undef, undef, undef, undef, undef, undef, undef, undef, undef, undef, .pointer (some ⟨p, 0, none⟩), .slice (some ⟨g8, 0, none⟩) N c8, .tuple #[.int .i64 (r + ((0 : Nat) : Int)), .int .i64 0], .pointer (some ⟨p, 0, none⟩), .tuple #[.int .i64 (r + ((0 : Nat) : Int)), .int .i64 0], .int .i64 (r + ((0 : Nat) : Int)), .int .i64 0, .int .i64 0, .bool true, .bool true, .pointer (some ⟨p, 0, none⟩), .int .i64 rank, .int .i64 (r + ((0 : Nat) : Int)), .int .i64 12, .bool false, .bool false, undef, undef, undef, undef, undef, undef, undef, undef, undef, undef, undef, undef, undef, undef, undef, undef, undef, undef, undef, undef, undef, undef, undef, undef, undef, undef, undef, undef, undef, undef, undef, undef, undef, undef, undef, undef, undef, undef, undef, undef, undef, undef], defers := [] } (by kernel_rfl) ?_
              refine x_then ?_
              refine x_f (by kernel_rfl) ?_
              refine x_skipc ?_
              refine x_then ?_
              refine x_seq ?_
              refine x_region ?_
              refine x_val (.bool true) (by kernel_rfl) rfl (by kernel_rfl) ?_
              refine x_nil ?_
              refine x_then ?_
              refine x_retc ?_
              refine x_ret (.bool true) (by kernel_rfl) (by kernel_rfl) ?_
              exact ⟨rfl, H.below⟩
            · skip
              have hM1 : MapOk z s sn pg ns _ _ (List.replicate ns (-1)) _ (0 + 1) := ⟨St.hL, St.hD, List.length_replicate, St.hp, by omega⟩
              simp only [Bool.and_eq_true, decide_eq_true_eq] at h21
              obtain ⟨qn, eq⟩ := Int.eq_ofNat_of_zero_le h21.1
              have hqn : qn < ns := by omega
              refine x_callH (.int .i64 0) [.blk p #[.int .i64 r, .int .i64 s, .int .i64 b, .int .i64 o, .int .i64 c, .int .i64 y, .int .i64 z, .slice (some ⟨gl, 0, none⟩) sn cl, .slice (some ⟨gd, 0, none⟩) pg cd, .slice (some ⟨gs, 0, none⟩) ns cs, .int .i64 ((pu : Nat) : Int), .int .i64 (((0 + 1) : Nat) : Int)] 181, .row (.slice (some ⟨gl, 0, none⟩) sn cl) 3 1 sn (List.map (Value.int .i64) L), .row (.slice (some ⟨gd, 0, none⟩) pg cd) 4 1 pg (List.map Value.bool D), .row (.slice (some ⟨gs, 0, none⟩) ns cs) 3 1 ns (List.map (Value.int .i64) ((List.replicate ns (-1)).set qn (r + ((0 : Nat) : Int)))), .row (.slice (some ⟨g8, 0, none⟩) N c8) 3 1 N (List.map (Value.int .i64) (idxs y r b o (List.replicate ns (-1)) L C N)), .row (.slice (some ⟨g2, 0, none⟩) N c2) 3 1 N (List.map (Value.int .i64) (idxs y r b o (List.replicate ns (-1)) L C N)), .blk g1 #[.int .i64 r, .int .i64 s, .int .i64 b, .int .i64 o, .int .i64 c, .int .i64 y, .int .i64 z] 69] (by kernel_rfl) rfl (by kernel_rfl) (Hs.use (A := [.blk p #[.int .i64 r, .int .i64 s, .int .i64 b, .int .i64 o, .int .i64 c, .int .i64 y, .int .i64 z, .slice (some ⟨gl, 0, none⟩) sn cl, .slice (some ⟨gd, 0, none⟩) pg cd, .slice (some ⟨gs, 0, none⟩) ns cs, .int .i64 ((pu : Nat) : Int), .int .i64 (((0 + 1) : Nat) : Int)] 181, .row (.slice (some ⟨gl, 0, none⟩) sn cl) 3 1 sn (List.map (Value.int .i64) L), .row (.slice (some ⟨gd, 0, none⟩) pg cd) 4 1 pg (List.map Value.bool D), .row (.slice (some ⟨gs, 0, none⟩) ns cs) 3 1 ns (List.map (Value.int .i64) (List.replicate ns (-1)))]) (R := [.row (.slice (some ⟨g8, 0, none⟩) N c8) 3 1 N (List.map (Value.int .i64) (idxs y r b o (List.replicate ns (-1)) L C N)), .row (.slice (some ⟨g2, 0, none⟩) N c2) 3 1 N (List.map (Value.int .i64) (idxs y r b o (List.replicate ns (-1)) L C N)), .blk g1 #[.int .i64 r, .int .i64 s, .int .i64 b, .int .i64 o, .int .i64 c, .int .i64 y, .int .i64 z] 69]) (H.pick [0, 1, 2, 3, 4, 5, 6] _ (by decide) (by kernel_rfl)) (fun h => Replace_at hL hM1 _ eq (r + ((0 : Nat) : Int)) hqn (by omega) (by omega) (rep_none hqn) _ h)) ?_
              clear H
              intro v34 H
              have hMs : MapOk z s sn pg ns _ _ ((List.replicate ns (-1)).set qn (r + ((0 : Nat) : Int))) _ (0 + 1) := ⟨St.hL, St.hD, by simp, St.hp, by omega⟩
              have hSv : ∀ q, q < ns → ((List.replicate ns (-1)).set qn (r + ((0 : Nat) : Int))).getD q 0 = -1 ∨ (0 ≤ ((List.replicate ns (-1)).set qn (r + ((0 : Nat) : Int))).getD q 0 ∧ ((List.replicate ns (-1)).set qn (r + ((0 : Nat) : Int))).getD q 0 < r + s) := setv (by omega) (by omega)
              refine x_val (.bool true) (by kernel_rfl) rfl (by kernel_rfl) ?_
              refine x_val (.bool true) (by kernel_rfl) rfl (by kernel_rfl) ?_
              refine x_nil ?_
              refine x_frame' { tmps := #[.agg #[.int .i64 r, .int .i64 s, .int .i64 b, .int .i64 o, .int .i64 c, .int .i64 y, .int .i64 z], .slice ad nA cA, .int .i64 home, .int .i64 rank, .pointer (some ⟨g1, 0, none⟩), undef, undef, undef, .bool false, .pointer (some ⟨p, 0, none⟩), .int .i64 0, undef, u12, u13, u14, .slice (some ⟨g8, 0, none⟩) N c8, .int .i64 0, .bool false, undef, undef, undef, undef, undef, undef, .int .i64 (r + ((0 : Nat) : Int)), .int .i64 0, undef, undef, undef, .bool true, .bool false, .agg #[.int .i64 r, .int .i64 s, .int .i64 b, .int .i64 o, .int .i64 c, .int .i64 y, .int .i64 z], .bool true, .bool false, .bool false, .slice ad nA cA, .int .i64 ((nA : Nat) : Int), .bool false, .bool false, .tuple #[.pointer (some ⟨p, 0, none⟩), .int .i64 0], .agg #[.int .i64 r, .int .i64 s, .int .i64 b, .int .i64 o, .int .i64 c, .int .i64 y, .int .i64 z], .tuple #[.pointer (some ⟨p, 0, none⟩), .int .i64 0], .pointer (some ⟨p, 0, none⟩), .int .i64 0, .int .i64 0, .bool false, .bool false, .pointer (some ⟨p, 0, none⟩), .bool false, .bool false, undef, undef, .slice ad nA cA, .int .i64 ((nA : Nat) : Int), .int .i64 ((k : Nat) : Int), .bool false, u56, u57, u58, u59, u60, u61, u62, u63, u64, u65, u66, u67, u68, u69, u70, u71, u72, u73, u74, u75, u76, u77, u78, u79, u80, u81, u82, .pointer (some ⟨p, 0, none⟩), .slice (some ⟨g2, 0, none⟩) N c2, .tuple #[.int .i64 0, .bool false], .pointer (some ⟨p, 0, none⟩), .tuple #[.int .i64 0, .bool false], .int .i64 0, .bool false, .bool false, .bool false, undef, undef, undef, .bool false, undef, undef, undef, undef, undef, undef, undef, undef, undef, undef, undef, undef, undef, undef, undef, undef, undef, undef, undef, undef, undef, undef, undef, undef, undef, undef, undef, undef, undef, undef, undef, undef, undef, undef, undef, undef, undef, undef, undef, undef, undef, undef, undef, undef, undef, .pointer (some ⟨p, 0, none⟩), .slice (some ⟨g8, 0, none⟩) N c8, .tuple #[.int .i64 (r + ((0 : Nat) : Int)), .int .i64 0], .pointer (some ⟨p, 0, none⟩), .tuple #[.int .i64 (r + ((0 : Nat) : Int)), .int .i64 0], .int .i64 (r + ((0 : Nat) : Int)), .int .i64 0, .int .i64 0, .bool true, .bool true, .pointer (some ⟨p, 0, none⟩), .int .i64 rank, .int .i64 (r + ((0 : Nat) : Int)), .int .i64 0, .bool true, .bool true, undef, undef, undef, undef, undef, undef, undef, undef, undef, undef, undef, undef, undef, undef, undef, undef, undef, undef, undef, undef, undef, undef, undef, undef, undef, undef, undef, undef, undef, undef, undef, undef, undef, undef, undef, undef, undef, undef, undef, undef, undef, undef], defers := [] } (by kernel_rfl) ?_
              refine x_then ?_
              refine x_t (by kernel_rfl) ?_
              refine x_seq ?_
              refine x_region ?_
              refine x_val (.pointer (some ⟨p, 0, none⟩)) (by kernel_rfl) rfl (by kernel_rfl) ?_
              refine x_call (by kernel_rfl) rfl (by kernel_rfl) (indices_w hL hMs hC hN (fun k hk => by have := St.lv k hk; have := St.hp; omega) hSv _ (H.roOf [0, 1, 2, 3] [.blk p #[.int .i64 r, .int .i64 s, .int .i64 b, .int .i64 o, .int .i64 c, .int .i64 y, .int .i64 z, .slice (some ⟨gl, 0, none⟩) sn cl, .slice (some ⟨gd, 0, none⟩) pg cd, .slice (some ⟨gs, 0, none⟩) ns cs, .int .i64 ((pu : Nat) : Int), .int .i64 (((0 + 1) : Nat) : Int)] 181, .row (.slice (some ⟨gl, 0, none⟩) sn cl) 3 1 sn (List.map (Value.int .i64) L), .row (.slice (some ⟨gd, 0, none⟩) pg cd) 4 1 pg (List.map Value.bool D), .row (.slice (some ⟨gs, 0, none⟩) ns cs) 3 1 ns (List.map (Value.int .i64) ((List.replicate ns (-1)).set qn (r + ((0 : Nat) : Int))))] (by kernel_rfl))) ?_
              rintro _ v35 ⟨g9, c9, rfl, hX⟩
              refine ⟨_, rfl, ?_⟩
              replace H := H.more hX
              clear hX
              replace H : Hs [] w0 _ [.row (.slice (some ⟨g9, 0, none⟩) N c9) 3 1 N (List.map (Value.int .i64) (idxs y r b o ((List.replicate ns (-1)).set qn (r + ((0 : Nat) : Int))) L C N)), .blk p #[.int .i64 r, .int .i64 s, .int .i64 b, .int .i64 o, .int .i64 c, .int .i64 y, .int .i64 z, .slice (some ⟨gl, 0, none⟩) sn cl, .slice (some ⟨gd, 0, none⟩) pg cd, .slice (some ⟨gs, 0, none⟩) ns cs, .int .i64 ((pu : Nat) : Int), .int .i64 (((0 + 1) : Nat) : Int)] 181, .row (.slice (some ⟨gl, 0, none⟩) sn cl) 3 1 sn (List.map (Value.int .i64) L), .row (.slice (some ⟨gd, 0, none⟩) pg cd) 4 1 pg (List.map Value.bool D), .row (.slice (some ⟨gs, 0, none⟩) ns cs) 3 1 ns (List.map (Value.int .i64) ((List.replicate ns (-1)).set qn (r + ((0 : Nat) : Int)))), .row (.slice (some ⟨g8, 0, none⟩) N c8) 3 1 N (List.map (Value.int .i64) (idxs y r b o (List.replicate ns (-1)) L C N)), .row (.slice (some ⟨g2, 0, none⟩) N c2) 3 1 N (List.map (Value.int .i64) (idxs y r b o (List.replicate ns (-1)) L C N)), .blk g1 #[.int .i64 r, .int .i64 s, .int .i64 b, .int .i64 o, .int .i64 c, .int .i64 y, .int .i64 z] 69] := H
              refine x_val (.int .i64 ((N : Nat) : Int)) (by kernel_rfl) rfl (by kernel_rfl) ?_
              refine x_val (.int .i64 0) (by kernel_rfl) rfl (by kernel_rfl) ?_
              refine x_nil ?_
              refine x_then ?_
              refine x_block ?_
              refine x_loop (G := Nat) (fun (m : Nat) a w' => ∃ u8 : Value, ∃ u26 : Value, ∃ u27 : Value, ∃ u28 : Value, ∃ u161 : Value, ∃ u162 : Value, ∃ u163 : Value, ∃ u164 : Value, ∃ u165 : Value, ∃ u166 : Value, ∃ u167 : Value, ∃ u168 : Value, ∃ u169 : Value, ∃ u170 : Value, ∃ u171 : Value, ∃ u172 : Value, ∃ u173 : Value, ∃ u174 : Value, ∃ u175 : Value, ∃ u176 : Value, ∃ u177 : Value, ∃ u178 : Value, ∃ u179 : Value, ∃ u180 : Value, ∃ u181 : Value, ∃ u182 : Value, ∃ u183 : Value, ∃ u184 : Value, ∃ u185 : Value, ∃ u186 : Value, ∃ u187 : Value, ∃ u188 : Value, ∃ u189 : Value, ∃ u190 : Value, ∃ u191 : Value, ∃ u192 : Value, ∃ u193 : Value, ∃ u194 : Value, ∃ u195 : Value, ∃ u196 : Value, ∃ u197 : Value, ∃ u198 : Value, a = { tmps := #[.agg #[.int .i64 r, .int .i64 s, .int .i64 b, .int .i64 o, .int .i64 c, .int .i64 y, .int .i64 z], .slice ad nA cA, .int .i64 home, .int .i64 rank, .pointer (some ⟨g1, 0, none⟩), undef, undef, undef, u8, .pointer (some ⟨p, 0, none⟩), .int .i64 0, undef, u12, u13, u14, .slice (some ⟨g8, 0, none⟩) N c8, .int .i64 0, .bool false, undef, undef, undef, undef, undef, undef, .int .i64 (r + ((0 : Nat) : Int)), .int .i64 0, u26, u27, u28, .bool true, .bool false, .agg #[.int .i64 r, .int .i64 s, .int .i64 b, .int .i64 o, .int .i64 c, .int .i64 y, .int .i64 z], .bool true, .bool false, .bool false, .slice ad nA cA, .int .i64 ((nA : Nat) : Int), .bool false, .bool false, .tuple #[.pointer (some ⟨p, 0, none⟩), .int .i64 0], .agg #[.int .i64 r, .int .i64 s, .int .i64 b, .int .i64 o, .int .i64 c, .int .i64 y, .int .i64 z], .tuple #[.pointer (some ⟨p, 0, none⟩), .int .i64 0], .pointer (some ⟨p, 0, none⟩), .int .i64 0, .int .i64 0, .bool false, .bool false, .pointer (some ⟨p, 0, none⟩), .bool false, .bool false, undef, undef, .slice ad nA cA, .int .i64 ((nA : Nat) : Int), .int .i64 ((k : Nat) : Int), .bool false, u56, u57, u58, u59, u60, u61, u62, u63, u64, u65, u66, u67, u68, u69, u70, u71, u72, u73, u74, u75, u76, u77, u78, u79, u80, u81, u82, .pointer (some ⟨p, 0, none⟩), .slice (some ⟨g2, 0, none⟩) N c2, .tuple #[.int .i64 0, .bool false], .pointer (some ⟨p, 0, none⟩), .tuple #[.int .i64 0, .bool false], .int .i64 0, .bool false, .bool false, .bool false, undef, undef, undef, .bool false, undef, undef, undef, undef, undef, undef, undef, undef, undef, undef, undef, undef, undef, undef, undef, undef, undef, undef, undef, undef, undef, undef, undef, undef, undef, undef, undef, undef, undef, undef, undef, undef, undef, undef, undef, undef, undef, undef, undef, undef, undef, undef, undef, undef, undef, .pointer (some ⟨p, 0, none⟩), .slice (some ⟨g8, 0, none⟩) N c8, .tuple #[.int .i64 (r + ((0 : Nat) : Int)), .int .i64 0], .pointer (some ⟨p, 0, none⟩), .tuple #[.int .i64 (r + ((0 : Nat) : Int)), .int .i64 0], .int .i64 (r + ((0 : Nat) : Int)), .int .i64 0, .int .i64 0, .bool true, .bool true, .pointer (some ⟨p, 0, none⟩), .int .i64 rank, .int .i64 (r + ((0 : Nat) : Int)), .int .i64 0, .bool true, .bool true, .pointer (some ⟨p, 0, none⟩), .slice (some ⟨g9, 0, none⟩) N c9, .int .i64 ((N : Nat) : Int), .int .i64 ((m : Nat) : Int), u161, u162, u163, u164, u165, u166, u167, u168, u169, u170, u171, u172, u173, u174, u175, u176, u177, u178, u179, u180, u181, u182, u183, u184, u185, u186, u187, u188, u189, u190, u191, u192, u193, u194, u195, u196, u197, u198], defers := [] } ∧ Hs [] w0 w' [.row (.slice (some ⟨g9, 0, none⟩) N c9) 3 1 N (List.map (Value.int .i64) (idxs y r b o ((List.replicate ns (-1)).set qn (r + ((0 : Nat) : Int))) L C N)), .blk p #[.int .i64 r, .int .i64 s, .int .i64 b, .int .i64 o, .int .i64 c, .int .i64 y, .int .i64 z, .slice (some ⟨gl, 0, none⟩) sn cl, .slice (some ⟨gd, 0, none⟩) pg cd, .slice (some ⟨gs, 0, none⟩) ns cs, .int .i64 ((pu : Nat) : Int), .int .i64 (((0 + 1) : Nat) : Int)] 181, .row (.slice (some ⟨gl, 0, none⟩) sn cl) 3 1 sn (List.map (Value.int .i64) L), .row (.slice (some ⟨gd, 0, none⟩) pg cd) 4 1 pg (List.map Value.bool D), .row (.slice (some ⟨gs, 0, none⟩) ns cs) 3 1 ns (List.map (Value.int .i64) ((List.replicate ns (-1)).set qn (r + ((0 : Nat) : Int)))), .row (.slice (some ⟨g8, 0, none⟩) N c8) 3 1 N (List.map (Value.int .i64) (idxs y r b o (List.replicate ns (-1)) L C N)), .row (.slice (some ⟨g2, 0, none⟩) N c2) 3 1 N (List.map (Value.int .i64) (idxs y r b o (List.replicate ns (-1)) L C N)), .blk g1 #[.int .i64 r, .int .i64 s, .int .i64 b, .int .i64 o, .int .i64 c, .int .i64 y, .int .i64 z] 69] ∧ (m ≤ N)) (fun (m : Nat) => N - m) 0 ⟨.bool false, undef, undef, undef, undef, undef, undef, undef, undef, undef, undef, undef, undef, undef, undef, undef, undef, undef, undef, undef, undef, undef, undef, undef, undef, undef, undef, undef, undef, undef, undef, undef, undef, undef, undef, undef, undef, undef, undef, undef, undef, undef, (by kernel_rfl), H, (Nat.zero_le _)⟩ ?_
              clear H
              rintro m _ v36 ⟨u8, u26, u27, u28, u161, u162, u163, u164, u165, u166, u167, u168, u169, u170, u171, u172, u173, u174, u175, u176, u177, u178, u179, u180, u181, u182, u183, u184, u185, u186, u187, u188, u189, u190, u191, u192, u193, u194, u195, u196, u197, u198, rfl, H, r1⟩
              have hl0 := idxs_len y r b o ((List.replicate ns (-1)).set qn (r + ((0 : Nat) : Int))) L C N
              have hl5 := idxs_len y r b o (List.replicate ns (-1)) L C N
              have hl6 := idxs_len y r b o (List.replicate ns (-1)) L C N
              refine x_seq ?_
              refine x_region ?_
              refine x_val (.bool (decide (((m : Nat) : Int) < ((N : Nat) : Int)))) (by kernel_rfl) rfl (by kernel_rfl) ?_
              refine x_nil ?_
              refine x_then ?_
              refine x_seq ?_
              cases h22 : decide (((m : Nat) : Int) < ((N : Nat) : Int))
              · skip
                have h22p := of_decide_eq_false h22
                refine x_f (by kernel_rfl) ?_
                refine x_exit ?_
                refine x_then_exit ?_
                refine x_then_exit ?_
                refine x_blk_exit ?_
                refine x_then ?_
                refine x_seq ?_
                refine x_region ?_
                refine x_val (.bool true) (by kernel_rfl) rfl (by kernel_rfl) ?_
                refine x_nil ?_
                refine x_then ?_
                refine x_retc ?_
                refine x_ret (.bool true) (by kernel_rfl) (by kernel_rfl) ?_
                exact ⟨rfl, H.below⟩
              · skip
                have h22p := of_decide_eq_true h22
                refine x_t (by kernel_rfl) ?_
                refine x_skipc ?_
                refine x_then ?_
                refine x_seq ?_
                refine x_block ?_
                refine x_seq ?_
                refine x_region ?_
                refine x_val (.int .i64 ((m : Nat) : Int)) (by kernel_rfl) rfl (by kernel_rfl) ?_
                refine x_ix (t := 106) g9 0 m N c9 3 1 m (by omega) (by omega) (by kernel_rfl) (by kernel_rfl) (by kernel_rfl) rfl (by kernel_rfl) ?_
                refine x_loadc g9 m (.int .i64 ((idxs y r b o ((List.replicate ns (-1)).set qn (r + ((0 : Nat) : Int))) L C N).getD m 0)) (H.rowCell 0 rfl m (mapAt 0 (by omega))) (by kernel_rfl) rfl (by kernel_rfl) ?_
                refine x_val (.int .i64 ((m : Nat) : Int)) (by kernel_rfl) rfl (by kernel_rfl) ?_
                refine x_val (.int .i64 ((idxs y r b o ((List.replicate ns (-1)).set qn (r + ((0 : Nat) : Int))) L C N).getD m 0)) (by kernel_rfl) rfl (by kernel_rfl) ?_
                refine x_nil ?_
                refine x_then ?_
                refine x_seq ?_
                refine x_region ?_
                refine x_val (.slice (some ⟨g8, 0, none⟩) N c8) (by kernel_rfl) rfl (by kernel_rfl) ?_
                refine x_val (.int .i64 ((m : Nat) : Int)) (by kernel_rfl) rfl (by kernel_rfl) ?_
                refine x_ix (t := 106) g8 0 m N c8 3 1 m (by omega) (by omega) (by kernel_rfl) (by kernel_rfl) (by kernel_rfl) rfl (by kernel_rfl) ?_
                refine x_loadc g8 m (.int .i64 ((idxs y r b o (List.replicate ns (-1)) L C N).getD m 0)) (H.rowCell 5 rfl m (mapAt 0 (by omega))) (by kernel_rfl) rfl (by kernel_rfl) ?_
                refine x_eq (.int .i64 (((idxs y r b o (List.replicate ns (-1)) L C N).getD m 0) / 1048576)) (e_shr ((idxs y r b o (List.replicate ns (-1)) L C N).getD m 0) 1048576 (by decide)) (by kernel_rfl) rfl (by kernel_rfl) ?_
                refine x_val (.int .i64 rank) (by kernel_rfl) rfl (by kernel_rfl) ?_
                refine x_val (.bool (decide ((((idxs y r b o (List.replicate ns (-1)) L C N).getD m 0) / 1048576) = rank))) (by kernel_rfl) rfl (by kernel_rfl) ?_
                refine x_val (.bool (decide ((((idxs y r b o (List.replicate ns (-1)) L C N).getD m 0) / 1048576) = rank))) (by kernel_rfl) rfl (by kernel_rfl) ?_
                refine x_nil ?_
                refine x_then ?_
                refine x_seq ?_
                refine x_region ?_
                refine x_val (.bool (decide ((((idxs y r b o (List.replicate ns (-1)) L C N).getD m 0) / 1048576) = rank))) (by kernel_rfl) rfl (by kernel_rfl) ?_
                refine x_val (.bool (decide ((((idxs y r b o (List.replicate ns (-1)) L C N).getD m 0) / 1048576) = rank))) (by kernel_rfl) rfl (by kernel_rfl) ?_
                cases h23 : decide ((((idxs y r b o (List.replicate ns (-1)) L C N).getD m 0) / 1048576) = rank)
                · skip
                  have h23p := of_decide_eq_false h23
                  refine x_skip (by kernel_rfl) ?_
                  refine x_skip (by kernel_rfl) ?_
                  refine x_skip (by kernel_rfl) ?_
                  refine x_skip (by kernel_rfl) ?_
                  refine x_skip (by kernel_rfl) ?_
                  refine x_skip (by kernel_rfl) ?_
                  refine x_skip (by kernel_rfl) ?_
                  refine x_skip (by kernel_rfl) ?_
                  refine x_skip (by kernel_rfl) ?_
                  have hW := stay_bd hL hC hN (n := m) (L := L) (by omega) (fun q hq => .inl (rep_none hq)) (fun k hk => by have := St.lv k hk; have := St.hp; omega)
                  refine x_skip (by kernel_rfl) ?_
                  refine x_skip (by kernel_rfl) ?_
                  refine x_val (.bool false) (by kernel_rfl) rfl (by kernel_rfl) ?_
                  refine x_val (.bool false) (by kernel_rfl) rfl (by kernel_rfl) ?_
                  refine x_val (.bool false) (by kernel_rfl) rfl (by kernel_rfl) ?_
                  refine x_val (.bool true) (by kernel_rfl) rfl (by kernel_rfl) ?_
                  refine x_val (.bool true) (by kernel_rfl) rfl (by kernel_rfl) ?_
                  refine x_val (.int .i64 ((idxs y r b o ((List.replicate ns (-1)).set qn (r + ((0 : Nat) : Int))) L C N).getD m 0)) (by kernel_rfl) rfl (by kernel_rfl) ?_
                  refine x_val (.slice (some ⟨g8, 0, none⟩) N c8) (by kernel_rfl) rfl (by kernel_rfl) ?_
                  refine x_val (.int .i64 ((m : Nat) : Int)) (by kernel_rfl) rfl (by kernel_rfl) ?_
                  refine x_ix (t := 106) g8 0 m N c8 3 1 m (by omega) (by omega) (by kernel_rfl) (by kernel_rfl) (by kernel_rfl) rfl (by kernel_rfl) ?_
                  refine x_loadc g8 m (.int .i64 ((idxs y r b o (List.replicate ns (-1)) L C N).getD m 0)) (H.rowCell 5 rfl m (mapAt 0 (by omega))) (by kernel_rfl) rfl (by kernel_rfl) ?_
                  refine x_val (.bool (!(decide (((idxs y r b o ((List.replicate ns (-1)).set qn (r + ((0 : Nat) : Int))) L C N).getD m 0) = ((idxs y r b o (List.replicate ns (-1)) L C N).getD m 0))))) (by kernel_rfl) rfl (by kernel_rfl) ?_
                  refine x_val (.bool (!(decide (((idxs y r b o ((List.replicate ns (-1)).set qn (r + ((0 : Nat) : Int))) L C N).getD m 0) = ((idxs y r b o (List.replicate ns (-1)) L C N).getD m 0))))) (by kernel_rfl) rfl (by kernel_rfl) ?_
                  refine x_val (.bool (!(decide (((idxs y r b o ((List.replicate ns (-1)).set qn (r + ((0 : Nat) : Int))) L C N).getD m 0) = ((idxs y r b o (List.replicate ns (-1)) L C N).getD m 0))))) (by kernel_rfl) rfl (by kernel_rfl) ?_
                  refine x_nil ?_
                  refine x_frame' { tmps := #[.agg #[.int .i64 r, .int .i64 s, .int .i64 b, .int .i64 o, .int .i64 c, .int .i64 y, .int .i64 z], .slice ad nA cA, .int .i64 home, .int .i64 rank, .pointer (some ⟨g1, 0, none⟩), undef, undef, undef, u8, .pointer (some ⟨p, 0, none⟩), .int .i64 0, undef, u12, u13, u14, .slice (some ⟨g8, 0, none⟩) N c8, .int .i64 0, .bool false, undef, undef, undef, undef, undef, undef, .int .i64 (r + ((0 : Nat) : Int)), .int .i64 0, .int .i64 ((m : Nat) : Int), .int .i64 ((idxs y r b o ((List.replicate ns (-1)).set qn (r + ((0 : Nat) : Int))) L C N).getD m 0), .bool false, .bool true, .bool false, .agg #[.int .i64 r, .int .i64 s, .int .i64 b, .int .i64 o, .int .i64 c, .int .i64 y, .int .i64 z], .bool true, .bool false, .bool false, .slice ad nA cA, .int .i64 ((nA : Nat) : Int), .bool false, .bool false, .tuple #[.pointer (some ⟨p, 0, none⟩), .int .i64 0], .agg #[.int .i64 r, .int .i64 s, .int .i64 b, .int .i64 o, .int .i64 c, .int .i64 y, .int .i64 z], .tuple #[.pointer (some ⟨p, 0, none⟩), .int .i64 0], .pointer (some ⟨p, 0, none⟩), .int .i64 0, .int .i64 0, .bool false, .bool false, .pointer (some ⟨p, 0, none⟩), .bool false, .bool false, undef, undef, .slice ad nA cA, .int .i64 ((nA : Nat) : Int), .int .i64 ((k : Nat) : Int), .bool false, u56, u57, u58, u59, u60, u61, u62, u63, u64, u65, u66, u67, u68, u69, u70, u71, u72, u73, u74, u75, u76, u77, u78, u79, u80, u81, u82, .pointer (some ⟨p, 0, none⟩), .slice (some ⟨g2, 0, none⟩) N c2, .tuple #[.int .i64 0, .bool false], .pointer (some ⟨p, 0, none⟩), .tuple #[.int .i64 0, .bool false], .int .i64 0, .bool false, .bool false, .bool false, undef, undef, undef, .bool false, undef, undef, undef, undef, undef, undef, undef, undef, undef, undef, undef, undef, undef, undef, undef, undef, undef, undef, undef, undef, undef, undef, undef, undef, undef, undef, undef, undef, undef, undef, undef, undef, undef, undef, undef, undef, undef, undef, undef, undef, undef, undef, undef, undef, undef, .pointer (some ⟨p, 0, none⟩), .slice (some ⟨g8, 0, none⟩) N c8, .tuple #[.int .i64 (r + ((0 : Nat) : Int)), .int .i64 0], .pointer (some ⟨p, 0, none⟩), .tuple #[.int .i64 (r + ((0 : Nat) : Int)), .int .i64 0], .int .i64 (r + ((0 : Nat) : Int)), .int .i64 0, .int .i64 0, .bool true, .bool true, .pointer (some ⟨p, 0, none⟩), .int .i64 rank, .int .i64 (r + ((0 : Nat) : Int)), .int .i64 0, .bool true, .bool true, .pointer (some ⟨p, 0, none⟩), .slice (some ⟨g9, 0, none⟩) N c9, .int .i64 ((N : Nat) : Int), .int .i64 ((m : Nat) : Int), .bool true, .int .i64 ((m : Nat) : Int), .pointer (some ⟨g9, m, none⟩), .int .i64 ((idxs y r b o ((List.replicate ns (-1)).set qn (r + ((0 : Nat) : Int))) L C N).getD m 0), .slice (some ⟨g8, 0, none⟩) N c8, .int .i64 ((m : Nat) : Int), .pointer (some ⟨g8, m, none⟩), .int .i64 ((idxs y r b o (List.replicate ns (-1)) L C N).getD m 0), .int .i64 (((idxs y r b o (List.replicate ns (-1)) L C N).getD m 0) / 1048576), .int .i64 rank, .bool false, .bool false, .bool false, undef, undef, undef, undef, undef, undef, undef, undef, undef, undef, undef, .bool false, .bool false, .bool false, .bool true, .bool true, .int .i64 ((idxs y r b o ((List.replicate ns (-1)).set qn (r + ((0 : Nat) : Int))) L C N).getD m 0), .slice (some ⟨g8, 0, none⟩) N c8, .int .i64 ((m : Nat) : Int), .pointer (some ⟨g8, m, none⟩), .int .i64 ((idxs y r b o (List.replicate ns (-1)) L C N).getD m 0), .bool (!(decide (((idxs y r b o ((List.replicate ns (-1)).set qn (r + ((0 : Nat) : Int))) L C N).getD m 0) = ((idxs y r b o (List.replicate ns (-1)) L C N).getD m 0)))), .bool (!(decide (((idxs y r b o ((List.replicate ns (-1)).set qn (r + ((0 : Nat) : Int))) L C N).getD m 0) = ((idxs y r b o (List.replicate ns (-1)) L C N).getD m 0)))), .bool (!(decide (((idxs y r b o ((List.replicate ns (-1)).set qn (r + ((0 : Nat) : Int))) L C N).getD m 0) = ((idxs y r b o (List.replicate ns (-1)) L C N).getD m 0)))), u198], defers := [] } (by kernel_rfl) ?_
                  refine x_then ?_
                  cases h24 : decide (((idxs y r b o ((List.replicate ns (-1)).set qn (r + ((0 : Nat) : Int))) L C N).getD m 0) = ((idxs y r b o (List.replicate ns (-1)) L C N).getD m 0))
                  · skip
                    have h24p := of_decide_eq_false h24
                    exact absurd (by rw [stay_rank hL hC hN (n := m) (by omega) hqn (by omega) (fun k hk => by have := St.lv k hk; have := St.hp; omega), if_neg (by rw [← eq]; exact h23p)]) (of_decide_eq_false h24)
                  · skip
                    have h24p := of_decide_eq_true h24
                    refine x_f (by kernel_rfl) ?_
                    refine x_skipc ?_
                    refine x_blk ?_
                    refine x_then ?_
                    refine x_region ?_
                    refine x_ar (((m : Nat) : Int) + 1) ⟨by omega, by omega⟩ (by kernel_rfl) rfl (by kernel_rfl) ?_
                    refine x_val (.int .i64 (((m : Nat) : Int) + 1)) (by kernel_rfl) rfl (by kernel_rfl) ?_
                    refine x_nil ?_
                    refine x_then ?_
                    exact ⟨(m + 1), (by omega), u8, (.int .i64 ((m : Nat) : Int)), (.int .i64 ((idxs y r b o ((List.replicate ns (-1)).set qn (r + ((0 : Nat) : Int))) L C N).getD m 0)), (.bool false), (.bool true), (.int .i64 ((m : Nat) : Int)), (.pointer (some ⟨g9, m, none⟩)), (.int .i64 ((idxs y r b o ((List.replicate ns (-1)).set qn (r + ((0 : Nat) : Int))) L C N).getD m 0)), (.slice (some ⟨g8, 0, none⟩) N c8), (.int .i64 ((m : Nat) : Int)), (.pointer (some ⟨g8, m, none⟩)), (.int .i64 ((idxs y r b o (List.replicate ns (-1)) L C N).getD m 0)), (.int .i64 (((idxs y r b o (List.replicate ns (-1)) L C N).getD m 0) / 1048576)), (.int .i64 rank), (.bool false), (.bool false), (.bool false), undef, undef, undef, undef, undef, undef, undef, undef, undef, undef, undef, (.bool false), (.bool false), (.bool false), (.bool true), (.bool true), (.int .i64 ((idxs y r b o ((List.replicate ns (-1)).set qn (r + ((0 : Nat) : Int))) L C N).getD m 0)), (.slice (some ⟨g8, 0, none⟩) N c8), (.int .i64 ((m : Nat) : Int)), (.pointer (some ⟨g8, m, none⟩)), (.int .i64 ((idxs y r b o (List.replicate ns (-1)) L C N).getD m 0)), (.bool false), (.bool false), (.bool false), (.int .i64 (((m : Nat) : Int) + 1)), (by kernel_rfl), H, (by omega)⟩
                · skip
                  have h23p := of_decide_eq_true h23
                  refine x_val (.int .i64 ((idxs y r b o ((List.replicate ns (-1)).set qn (r + ((0 : Nat) : Int))) L C N).getD m 0)) (by kernel_rfl) rfl (by kernel_rfl) ?_
                  refine x_val (.slice (some ⟨g8, 0, none⟩) N c8) (by kernel_rfl) rfl (by kernel_rfl) ?_
                  refine x_val (.int .i64 ((m : Nat) : Int)) (by kernel_rfl) rfl (by kernel_rfl) ?_
                  refine x_ix (t := 106) g8 0 m N c8 3 1 m (by omega) (by omega) (by kernel_rfl) (by kernel_rfl) (by kernel_rfl) rfl (by kernel_rfl) ?_
                  refine x_loadc g8 m (.int .i64 ((idxs y r b o (List.replicate ns (-1)) L C N).getD m 0)) (H.rowCell 5 rfl m (mapAt 0 (by omega))) (by kernel_rfl) rfl (by kernel_rfl) ?_
                  refine x_val (.int .i64 (r + ((0 : Nat) : Int))) (by kernel_rfl) rfl (by kernel_rfl) ?_
                  refine x_val (.int .i64 rank) (by kernel_rfl) rfl (by kernel_rfl) ?_
                  refine x_ar ((r + ((0 : Nat) : Int)) - rank) ⟨by omega, by omega⟩ (by kernel_rfl) rfl (by kernel_rfl) ?_
                  refine x_ar (((r + ((0 : Nat) : Int)) - rank) * 1048576) ⟨by omega, by omega⟩ (by kernel_rfl) rfl (by kernel_rfl) ?_
                  have hW := stay_bd hL hC hN (n := m) (L := L) (by omega) (fun q hq => .inl (rep_none hq)) (fun k hk => by have := St.lv k hk; have := St.hp; omega)
                  refine x_ar (((idxs y r b o (List.replicate ns (-1)) L C N).getD m 0) + (((r + ((0 : Nat) : Int)) - rank) * 1048576)) ⟨by omega, by omega⟩ (by kernel_rfl) rfl (by kernel_rfl) ?_
                  refine x_val (.bool (!(decide (((idxs y r b o ((List.replicate ns (-1)).set qn (r + ((0 : Nat) : Int))) L C N).getD m 0) = (((idxs y r b o (List.replicate ns (-1)) L C N).getD m 0) + (((r + ((0 : Nat) : Int)) - rank) * 1048576)))))) (by kernel_rfl) rfl (by kernel_rfl) ?_
                  refine x_val (.bool (!(decide (((idxs y r b o ((List.replicate ns (-1)).set qn (r + ((0 : Nat) : Int))) L C N).getD m 0) = (((idxs y r b o (List.replicate ns (-1)) L C N).getD m 0) + (((r + ((0 : Nat) : Int)) - rank) * 1048576)))))) (by kernel_rfl) rfl (by kernel_rfl) ?_
                  refine x_val (.bool (!(decide (((idxs y r b o ((List.replicate ns (-1)).set qn (r + ((0 : Nat) : Int))) L C N).getD m 0) = (((idxs y r b o (List.replicate ns (-1)) L C N).getD m 0) + (((r + ((0 : Nat) : Int)) - rank) * 1048576)))))) (by kernel_rfl) rfl (by kernel_rfl) ?_
                  cases h25 : decide (((idxs y r b o ((List.replicate ns (-1)).set qn (r + ((0 : Nat) : Int))) L C N).getD m 0) = (((idxs y r b o (List.replicate ns (-1)) L C N).getD m 0) + (((r + ((0 : Nat) : Int)) - rank) * 1048576)))
                  · skip
                    have h25p := of_decide_eq_false h25
                    exact absurd (by rw [stay_rank hL hC hN (n := m) (by omega) hqn (by omega) (fun k hk => by have := St.lv k hk; have := St.hp; omega), if_pos (by rw [← eq]; exact h23p), ← eq]) (of_decide_eq_false h25)
                  · skip
                    have h25p := of_decide_eq_true h25
                    refine x_val (.bool true) (by kernel_rfl) rfl (by kernel_rfl) ?_
                    refine x_val (.bool false) (by kernel_rfl) rfl (by kernel_rfl) ?_
                    refine x_val (.bool false) (by kernel_rfl) rfl (by kernel_rfl) ?_
                    refine x_skip (by kernel_rfl) ?_
                    refine x_skip (by kernel_rfl) ?_
                    refine x_skip (by kernel_rfl) ?_
                    refine x_skip (by kernel_rfl) ?_
                    refine x_skip (by kernel_rfl) ?_
                    refine x_skip (by kernel_rfl) ?_
                    refine x_val (.bool false) (by kernel_rfl) rfl (by kernel_rfl) ?_
                    refine x_val (.bool false) (by kernel_rfl) rfl (by kernel_rfl) ?_
                    refine x_nil ?_
                    refine x_frame' { tmps := #[.agg #[.int .i64 r, .int .i64 s, .int .i64 b, .int .i64 o, .int .i64 c, .int .i64 y, .int .i64 z], .slice ad nA cA, .int .i64 home, .int .i64 rank, .pointer (some ⟨g1, 0, none⟩), undef, undef, undef, u8, .pointer (some ⟨p, 0, none⟩), .int .i64 0, undef, u12, u13, u14, .slice (some ⟨g8, 0, none⟩) N c8, .int .i64 0, .bool false, undef, undef, undef, undef, undef, undef, .int .i64 (r + ((0 : Nat) : Int)), .int .i64 0, .int .i64 ((m : Nat) : Int), .int .i64 ((idxs y r b o ((List.replicate ns (-1)).set qn (r + ((0 : Nat) : Int))) L C N).getD m 0), .bool true, .bool true, .bool false, .agg #[.int .i64 r, .int .i64 s, .int .i64 b, .int .i64 o, .int .i64 c, .int .i64 y, .int .i64 z], .bool true, .bool false, .bool false, .slice ad nA cA, .int .i64 ((nA : Nat) : Int), .bool false, .bool false, .tuple #[.pointer (some ⟨p, 0, none⟩), .int .i64 0], .agg #[.int .i64 r, .int .i64 s, .int .i64 b, .int .i64 o, .int .i64 c, .int .i64 y, .int .i64 z], .tuple #[.pointer (some ⟨p, 0, none⟩), .int .i64 0], .pointer (some ⟨p, 0, none⟩), .int .i64 0, .int .i64 0, .bool false, .bool false, .pointer (some ⟨p, 0, none⟩), .bool false, .bool false, undef, undef, .slice ad nA cA, .int .i64 ((nA : Nat) : Int), .int .i64 ((k : Nat) : Int), .bool false, u56, u57, u58, u59, u60, u61, u62, u63, u64, u65, u66, u67, u68, u69, u70, u71, u72, u73, u74, u75, u76, u77, u78, u79, u80, u81, u82, .pointer (some ⟨p, 0, none⟩), .slice (some ⟨g2, 0, none⟩) N c2, .tuple #[.int .i64 0, .bool false], .pointer (some ⟨p, 0, none⟩), .tuple #[.int .i64 0, .bool false], .int .i64 0, .bool false, .bool false, .bool false, undef, undef, undef, .bool false, undef, undef, undef, undef, undef, undef, undef, undef, undef, undef, undef, undef, undef, undef, undef, undef, undef, undef, undef, undef, undef, undef, undef, undef, undef, undef, undef, undef, undef, undef, undef, undef, undef, undef, undef, undef, undef, undef, undef, undef, undef, undef, undef, undef, undef, .pointer (some ⟨p, 0, none⟩), .slice (some ⟨g8, 0, none⟩) N c8, .tuple #[.int .i64 (r + ((0 : Nat) : Int)), .int .i64 0], .pointer (some ⟨p, 0, none⟩), .tuple #[.int .i64 (r + ((0 : Nat) : Int)), .int .i64 0], .int .i64 (r + ((0 : Nat) : Int)), .int .i64 0, .int .i64 0, .bool true, .bool true, .pointer (some ⟨p, 0, none⟩), .int .i64 rank, .int .i64 (r + ((0 : Nat) : Int)), .int .i64 0, .bool true, .bool true, .pointer (some ⟨p, 0, none⟩), .slice (some ⟨g9, 0, none⟩) N c9, .int .i64 ((N : Nat) : Int), .int .i64 ((m : Nat) : Int), .bool true, .int .i64 ((m : Nat) : Int), .pointer (some ⟨g9, m, none⟩), .int .i64 ((idxs y r b o ((List.replicate ns (-1)).set qn (r + ((0 : Nat) : Int))) L C N).getD m 0), .slice (some ⟨g8, 0, none⟩) N c8, .int .i64 ((m : Nat) : Int), .pointer (some ⟨g8, m, none⟩), .int .i64 ((idxs y r b o (List.replicate ns (-1)) L C N).getD m 0), .int .i64 (((idxs y r b o (List.replicate ns (-1)) L C N).getD m 0) / 1048576), .int .i64 rank, .bool true, .bool true, .bool true, .int .i64 ((idxs y r b o ((List.replicate ns (-1)).set qn (r + ((0 : Nat) : Int))) L C N).getD m 0), .slice (some ⟨g8, 0, none⟩) N c8, .int .i64 ((m : Nat) : Int), .pointer (some ⟨g8, m, none⟩), .int .i64 ((idxs y r b o (List.replicate ns (-1)) L C N).getD m 0), .int .i64 (r + ((0 : Nat) : Int)), .int .i64 rank, .int .i64 ((r + ((0 : Nat) : Int)) - rank), .int .i64 (((r + ((0 : Nat) : Int)) - rank) * 1048576), .int .i64 (((idxs y r b o (List.replicate ns (-1)) L C N).getD m 0) + (((r + ((0 : Nat) : Int)) - rank) * 1048576)), .bool false, .bool false, .bool false, .bool true, .bool false, .bool false, undef, undef, undef, undef, undef, undef, .bool false, .bool false, u198], defers := [] } (by kernel_rfl) ?_
                    refine x_then ?_
                    refine x_f (by kernel_rfl) ?_
                    refine x_skipc ?_
                    refine x_blk ?_
                    refine x_then ?_
                    refine x_region ?_
                    refine x_ar (((m : Nat) : Int) + 1) ⟨by omega, by omega⟩ (by kernel_rfl) rfl (by kernel_rfl) ?_
                    refine x_val (.int .i64 (((m : Nat) : Int) + 1)) (by kernel_rfl) rfl (by kernel_rfl) ?_
                    refine x_nil ?_
                    refine x_then ?_
                    exact ⟨(m + 1), (by omega), u8, (.int .i64 ((m : Nat) : Int)), (.int .i64 ((idxs y r b o ((List.replicate ns (-1)).set qn (r + ((0 : Nat) : Int))) L C N).getD m 0)), (.bool true), (.bool true), (.int .i64 ((m : Nat) : Int)), (.pointer (some ⟨g9, m, none⟩)), (.int .i64 ((idxs y r b o ((List.replicate ns (-1)).set qn (r + ((0 : Nat) : Int))) L C N).getD m 0)), (.slice (some ⟨g8, 0, none⟩) N c8), (.int .i64 ((m : Nat) : Int)), (.pointer (some ⟨g8, m, none⟩)), (.int .i64 ((idxs y r b o (List.replicate ns (-1)) L C N).getD m 0)), (.int .i64 (((idxs y r b o (List.replicate ns (-1)) L C N).getD m 0) / 1048576)), (.int .i64 rank), (.bool true), (.bool true), (.bool true), (.int .i64 ((idxs y r b o ((List.replicate ns (-1)).set qn (r + ((0 : Nat) : Int))) L C N).getD m 0)), (.slice (some ⟨g8, 0, none⟩) N c8), (.int .i64 ((m : Nat) : Int)), (.pointer (some ⟨g8, m, none⟩)), (.int .i64 ((idxs y r b o (List.replicate ns (-1)) L C N).getD m 0)), (.int .i64 (r + ((0 : Nat) : Int))), (.int .i64 rank), (.int .i64 ((r + ((0 : Nat) : Int)) - rank)), (.int .i64 (((r + ((0 : Nat) : Int)) - rank) * 1048576)), (.int .i64 (((idxs y r b o (List.replicate ns (-1)) L C N).getD m 0) + (((r + ((0 : Nat) : Int)) - rank) * 1048576))), (.bool false), (.bool false), (.bool false), (.bool true), (.bool false), (.bool false), undef, undef, undef, undef, undef, undef, (.bool false), (.bool false), (.int .i64 (((m : Nat) : Int) + 1)), (by kernel_rfl), H, (by omega)⟩
          · skip
            have h20p := of_decide_eq_true h20
            refine x_callH (.tuple #[.int .i64 0, .int .i64 52]) [.blk p #[.int .i64 r, .int .i64 s, .int .i64 b, .int .i64 o, .int .i64 c, .int .i64 y, .int .i64 z, .slice (some ⟨gl, 0, none⟩) sn cl, .slice (some ⟨gd, 0, none⟩) pg cd, .slice (some ⟨gs, 0, none⟩) ns cs, .int .i64 ((pu : Nat) : Int), .int .i64 ((0 : Nat) : Int)] 181, .row (.slice (some ⟨gl, 0, none⟩) sn cl) 3 1 sn (List.map (Value.int .i64) L), .row (.slice (some ⟨gd, 0, none⟩) pg cd) 4 1 pg (List.map Value.bool D), .row (.slice (some ⟨gs, 0, none⟩) ns cs) 3 1 ns (List.map (Value.int .i64) (List.replicate ns (-1))), .row (.slice (some ⟨g8, 0, none⟩) N c8) 3 1 N (List.map (Value.int .i64) (idxs y r b o (List.replicate ns (-1)) L C N)), .row (.slice (some ⟨g2, 0, none⟩) N c2) 3 1 N (List.map (Value.int .i64) (idxs y r b o (List.replicate ns (-1)) L C N)), .blk g1 #[.int .i64 r, .int .i64 s, .int .i64 b, .int .i64 o, .int .i64 c, .int .i64 y, .int .i64 z] 69] (by kernel_rfl) rfl (by kernel_rfl) (Hs.use (A := [.blk p #[.int .i64 r, .int .i64 s, .int .i64 b, .int .i64 o, .int .i64 c, .int .i64 y, .int .i64 z, .slice (some ⟨gl, 0, none⟩) sn cl, .slice (some ⟨gd, 0, none⟩) pg cd, .slice (some ⟨gs, 0, none⟩) ns cs, .int .i64 ((pu : Nat) : Int), .int .i64 ((0 : Nat) : Int)] 181, .row (.slice (some ⟨gl, 0, none⟩) sn cl) 3 1 sn (List.map (Value.int .i64) L), .row (.slice (some ⟨gd, 0, none⟩) pg cd) 4 1 pg (List.map Value.bool D), .row (.slice (some ⟨gs, 0, none⟩) ns cs) 3 1 ns (List.map (Value.int .i64) (List.replicate ns (-1)))]) (R := [.row (.slice (some ⟨g8, 0, none⟩) N c8) 3 1 N (List.map (Value.int .i64) (idxs y r b o (List.replicate ns (-1)) L C N)), .row (.slice (some ⟨g2, 0, none⟩) N c2) 3 1 N (List.map (Value.int .i64) (idxs y r b o (List.replicate ns (-1)) L C N)), .blk g1 #[.int .i64 r, .int .i64 s, .int .i64 b, .int .i64 o, .int .i64 c, .int .i64 y, .int .i64 z] 69]) (H.pick [2, 3, 4, 5, 0, 1, 6] _ (by decide) (by kernel_rfl)) (fun h => TakeSpare_no hL (St.mok (s := s) s0 ns) (by omega) _ h)) ?_
            clear H
            intro v37 H
            refine x_val (.tuple #[.int .i64 0, .int .i64 52]) (by kernel_rfl) rfl (by kernel_rfl) ?_
            refine x_val (.int .i64 0) (by kernel_rfl) rfl (by kernel_rfl) ?_
            refine x_val (.int .i64 52) (by kernel_rfl) rfl (by kernel_rfl) ?_
            refine x_val (.int .i64 0) (by kernel_rfl) rfl (by kernel_rfl) ?_
            refine x_val (.int .i64 52) (by kernel_rfl) rfl (by kernel_rfl) ?_
            refine x_nil ?_
            refine x_then ?_
            refine x_seq ?_
            refine x_region ?_
            refine x_val (.int .i64 52) (by kernel_rfl) rfl (by kernel_rfl) ?_
            refine x_val (.bool false) (by kernel_rfl) rfl (by kernel_rfl) ?_
            refine x_val (.bool false) (by kernel_rfl) rfl (by kernel_rfl) ?_
            refine x_skip (by kernel_rfl) ?_
            refine x_skip (by kernel_rfl) ?_
            refine x_skip (by kernel_rfl) ?_
            refine x_skip (by kernel_rfl) ?_
            refine x_skip (by kernel_rfl) ?_
            refine x_val (.bool false) (by kernel_rfl) rfl (by kernel_rfl) ?_
            refine x_nil ?_
            refine x_frame' { tmps := #[.agg #[.int .i64 r, .int .i64 s, .int .i64 b, .int .i64 o, .int .i64 c, .int .i64 y, .int .i64 z], .slice ad nA cA, .int .i64 home, .int .i64 rank, .pointer (some ⟨g1, 0, none⟩), undef, undef, undef, .bool false, .pointer (some ⟨p, 0, none⟩), .int .i64 0, undef, u12, u13, u14, .slice (some ⟨g8, 0, none⟩) N c8, .int .i64 0, .bool false, undef, undef, undef, undef, undef, undef, .int .i64 0, .int .i64 52, undef, undef, undef, .bool true, .bool false, .agg #[.int .i64 r, .int .i64 s, .int .i64 b, .int .i64 o, .int .i64 c, .int .i64 y, .int .i64 z], .bool true, .bool false, .bool false, .slice ad nA cA, .int .i64 ((nA : Nat) : Int), .bool false, .bool false, .tuple #[.pointer (some ⟨p, 0, none⟩), .int .i64 0], .agg #[.int .i64 r, .int .i64 s, .int .i64 b, .int .i64 o, .int .i64 c, .int .i64 y, .int .i64 z], .tuple #[.pointer (some ⟨p, 0, none⟩), .int .i64 0], .pointer (some ⟨p, 0, none⟩), .int .i64 0, .int .i64 0, .bool false, .bool false, .pointer (some ⟨p, 0, none⟩), .bool false, .bool false, undef, undef, .slice ad nA cA, .int .i64 ((nA : Nat) : Int), .int .i64 ((k : Nat) : Int), .bool false, u56, u57, u58, u59, u60, u61, u62, u63, u64, u65, u66, u67, u68, u69, u70, u71, u72, u73, u74, u75, u76, u77, u78, u79, u80, u81, u82, .pointer (some ⟨p, 0, none⟩), .slice (some ⟨g2, 0, none⟩) N c2, .tuple #[.int .i64 0, .bool false], .pointer (some ⟨p, 0, none⟩), .tuple #[.int .i64 0, .bool false], .int .i64 0, .bool false, .bool false, .bool false, undef, undef, undef, .bool false, undef, undef, undef, undef, undef, undef, undef, undef, undef, undef, undef, undef, undef, undef, undef, undef, undef, undef, undef, undef, undef, undef, undef, undef, undef, undef, undef, undef, undef, undef, undef, undef, undef, undef, undef, undef, undef, undef, undef, undef, undef, undef, undef, undef, undef, .pointer (some ⟨p, 0, none⟩), .slice (some ⟨g8, 0, none⟩) N c8, .tuple #[.int .i64 0, .int .i64 52], .pointer (some ⟨p, 0, none⟩), .tuple #[.int .i64 0, .int .i64 52], .int .i64 0, .int .i64 52, .int .i64 52, .bool false, .bool false, undef, undef, undef, undef, undef, .bool false, undef, undef, undef, undef, undef, undef, undef, undef, undef, undef, undef, undef, undef, undef, undef, undef, undef, undef, undef, undef, undef, undef, undef, undef, undef, undef, undef, undef, undef, undef, undef, undef, undef, undef, undef, undef, undef, undef, undef, undef, undef, undef], defers := [] } (by kernel_rfl) ?_
            refine x_then ?_
            refine x_f (by kernel_rfl) ?_
            refine x_skipc ?_
            refine x_then ?_
            refine x_seq ?_
            refine x_region ?_
            refine x_val (.bool true) (by kernel_rfl) rfl (by kernel_rfl) ?_
            refine x_nil ?_
            refine x_then ?_
            refine x_retc ?_
            refine x_ret (.bool true) (by kernel_rfl) (by kernel_rfl) ?_
            exact ⟨rfl, H.below⟩
      · skip
        have h3p := of_decide_eq_true h3
        refine x_t (by kernel_rfl) ?_
        refine x_skipc ?_
        refine x_then ?_
        refine x_seq ?_
        refine x_block ?_
        refine x_seq ?_
        refine x_region ?_
        obtain ⟨ga, oa, had, hcell⟩ := hO (by omega)
        refine x_ixO (t := 100) had k nA cA 103 3 (oa + k * 3) (by omega) (by omega) (by kernel_rfl) (by kernel_rfl) (by kernel_rfl) rfl (by kernel_rfl) ?_
        refine x_loadcn (t := 103) ga (oa + k * 3) [.int .i64 ((O.getD k (0, 0, 0)).1), .int .i64 ((O.getD k (0, 0, 0)).2.1), .int .i64 ((O.getD k (0, 0, 0)).2.2)] (hcell _ H.below k (by omega)) (by kernel_rfl) rfl (by kernel_rfl) (by kernel_rfl) ?_
        refine x_box H #[.int .i64 0, .int .i64 0, .int .i64 0] 103 (by kernel_rfl) rfl (by kernel_rfl) ?_
        clear H
        intro v38 g10 H
        refine x_store (t := 103) (v := .agg #[.int .i64 ((O.getD k (0, 0, 0)).1), .int .i64 ((O.getD k (0, 0, 0)).2.1), .int .i64 ((O.getD k (0, 0, 0)).2.2)]) H 0 g10 0 #[.int .i64 0, .int .i64 0, .int .i64 0] #[.int .i64 ((O.getD k (0, 0, 0)).1), .int .i64 ((O.getD k (0, 0, 0)).2.1), .int .i64 ((O.getD k (0, 0, 0)).2.2)] 103 [.int .i64 ((O.getD k (0, 0, 0)).1), .int .i64 ((O.getD k (0, 0, 0)).2.1), .int .i64 ((O.getD k (0, 0, 0)).2.2)] [.blk g10 #[.int .i64 ((O.getD k (0, 0, 0)).1), .int .i64 ((O.getD k (0, 0, 0)).2.1), .int .i64 ((O.getD k (0, 0, 0)).2.2)] 103, .blk p #[.int .i64 r, .int .i64 s, .int .i64 b, .int .i64 o, .int .i64 c, .int .i64 y, .int .i64 z, .slice (some ⟨gl, 0, none⟩) sn cl, .slice (some ⟨gd, 0, none⟩) pg cd, .slice (some ⟨gs, 0, none⟩) ns cs, .int .i64 ((pu : Nat) : Int), .int .i64 ((0 : Nat) : Int)] 181, .row (.slice (some ⟨gl, 0, none⟩) sn cl) 3 1 sn (List.map (Value.int .i64) L), .row (.slice (some ⟨gd, 0, none⟩) pg cd) 4 1 pg (List.map Value.bool D), .row (.slice (some ⟨gs, 0, none⟩) ns cs) 3 1 ns (List.map (Value.int .i64) (List.replicate ns (-1))), .blk g1 #[.int .i64 r, .int .i64 s, .int .i64 b, .int .i64 o, .int .i64 c, .int .i64 y, .int .i64 z] 69] (by kernel_rfl) rfl (by kernel_rfl) (by kernel_rfl) (by kernel_rfl) (by kernel_rfl) (by kernel_rfl) (by kernel_rfl) (by kernel_rfl) (by kernel_rfl) ?_
        clear H
        intro v39 H
        refine x_nil ?_
        refine x_then ?_
        refine x_seq ?_
        refine x_region ?_
        refine x_val (.pointer (some ⟨p, 0, none⟩)) (by kernel_rfl) rfl (by kernel_rfl) ?_
        cases h26 : decide (((pu : Nat) : Int) = z)
        · skip
          have h26p := of_decide_eq_false h26
          refine x_callB (.tuple #[.int .i64 (((sn : Nat) : Int) + ((pu : Nat) : Int)), .bool true]) H (by kernel_rfl) rfl (by kernel_rfl) (FreePage_yes hL (St.mok (s := s) s0 ns) (by omega) _ (H.roOf [1, 2, 3, 4] [.blk p #[.int .i64 r, .int .i64 s, .int .i64 b, .int .i64 o, .int .i64 c, .int .i64 y, .int .i64 z, .slice (some ⟨gl, 0, none⟩) sn cl, .slice (some ⟨gd, 0, none⟩) pg cd, .slice (some ⟨gs, 0, none⟩) ns cs, .int .i64 ((pu : Nat) : Int), .int .i64 ((0 : Nat) : Int)] 181, .row (.slice (some ⟨gl, 0, none⟩) sn cl) 3 1 sn (List.map (Value.int .i64) L), .row (.slice (some ⟨gd, 0, none⟩) pg cd) 4 1 pg (List.map Value.bool D), .row (.slice (some ⟨gs, 0, none⟩) ns cs) 3 1 ns (List.map (Value.int .i64) (List.replicate ns (-1)))] (by kernel_rfl))) ?_
          clear H
          intro v40 H
          refine x_val (.tuple #[.int .i64 (((sn : Nat) : Int) + ((pu : Nat) : Int)), .bool true]) (by kernel_rfl) rfl (by kernel_rfl) ?_
          refine x_val (.int .i64 (((sn : Nat) : Int) + ((pu : Nat) : Int))) (by kernel_rfl) rfl (by kernel_rfl) ?_
          refine x_val (.bool true) (by kernel_rfl) rfl (by kernel_rfl) ?_
          refine x_val (.int .i64 (((sn : Nat) : Int) + ((pu : Nat) : Int))) (by kernel_rfl) rfl (by kernel_rfl) ?_
          refine x_val (.bool true) (by kernel_rfl) rfl (by kernel_rfl) ?_
          refine x_nil ?_
          refine x_then ?_
          refine x_seq ?_
          refine x_region ?_
          refine x_val (.pointer (some ⟨g10, 0, none⟩)) (by kernel_rfl) rfl (by kernel_rfl) ?_
          refine x_load1 H 0 g10 0 #[.int .i64 ((O.getD k (0, 0, 0)).1), .int .i64 ((O.getD k (0, 0, 0)).2.1), .int .i64 ((O.getD k (0, 0, 0)).2.2)] 103 (.int .i64 ((O.getD k (0, 0, 0)).1)) (by kernel_rfl) (by kernel_rfl) (by kernel_rfl) rfl (by kernel_rfl) ?_
          refine x_val (.bool (decide (((O.getD k (0, 0, 0)).1) = 3))) (by kernel_rfl) rfl (by kernel_rfl) ?_
          refine x_val (.bool (decide (((O.getD k (0, 0, 0)).1) = 3))) (by kernel_rfl) rfl (by kernel_rfl) ?_
          cases h27 : decide (((O.getD k (0, 0, 0)).1) = 3)
          · skip
            have h27p := of_decide_eq_false h27
            refine x_skip (by kernel_rfl) ?_
            refine x_val (.bool false) (by kernel_rfl) rfl (by kernel_rfl) ?_
            refine x_val (.bool false) (by kernel_rfl) rfl (by kernel_rfl) ?_
            refine x_skip (by kernel_rfl) ?_
            refine x_skip (by kernel_rfl) ?_
            refine x_skip (by kernel_rfl) ?_
            refine x_skip (by kernel_rfl) ?_
            refine x_val (.bool false) (by kernel_rfl) rfl (by kernel_rfl) ?_
            refine x_nil ?_
            refine x_then ?_
            refine x_f (by kernel_rfl) ?_
            refine x_skipc ?_
            refine x_blk ?_
            refine x_then ?_
            refine x_region ?_
            refine x_ar (((k : Nat) : Int) + 1) ⟨by omega, by omega⟩ (by kernel_rfl) rfl (by kernel_rfl) ?_
            refine x_val (.int .i64 (((k : Nat) : Int) + 1)) (by kernel_rfl) rfl (by kernel_rfl) ?_
            refine x_nil ?_
            refine x_then ?_
            replace H := H.pick [1, 2, 3, 4, 5] [.blk p #[.int .i64 r, .int .i64 s, .int .i64 b, .int .i64 o, .int .i64 c, .int .i64 y, .int .i64 z, .slice (some ⟨gl, 0, none⟩) sn cl, .slice (some ⟨gd, 0, none⟩) pg cd, .slice (some ⟨gs, 0, none⟩) ns cs, .int .i64 ((pu : Nat) : Int), .int .i64 ((0 : Nat) : Int)] 181, .row (.slice (some ⟨gl, 0, none⟩) sn cl) 3 1 sn (List.map (Value.int .i64) L), .row (.slice (some ⟨gd, 0, none⟩) pg cd) 4 1 pg (List.map Value.bool D), .row (.slice (some ⟨gs, 0, none⟩) ns cs) 3 1 ns (List.map (Value.int .i64) (List.replicate ns (-1))), .blk g1 #[.int .i64 r, .int .i64 s, .int .i64 b, .int .i64 o, .int .i64 c, .int .i64 y, .int .i64 z] 69] (by decide) (by kernel_rfl)
            exact ⟨(k + 1, L, D, pu), (by dsimp only; omega), (.pointer (some ⟨g10, 0, none⟩)), (.int .i64 (((sn : Nat) : Int) + ((pu : Nat) : Int))), (.bool true), (.bool true), (.pointer (some ⟨ga, oa + k * 3, none⟩)), (.agg #[.int .i64 ((O.getD k (0, 0, 0)).1), .int .i64 ((O.getD k (0, 0, 0)).2.1), .int .i64 ((O.getD k (0, 0, 0)).2.2)]), (.tuple #[.int .i64 (((sn : Nat) : Int) + ((pu : Nat) : Int)), .bool true]), (.pointer (some ⟨p, 0, none⟩)), (.tuple #[.int .i64 (((sn : Nat) : Int) + ((pu : Nat) : Int)), .bool true]), (.int .i64 (((sn : Nat) : Int) + ((pu : Nat) : Int))), (.bool true), (.pointer (some ⟨g10, 0, none⟩)), (.int .i64 ((O.getD k (0, 0, 0)).1)), (.bool false), (.bool false), undef, (.bool false), (.bool false), undef, undef, undef, undef, (.bool false), u75, u76, u77, u78, u79, u80, u81, (.int .i64 (((k : Nat) : Int) + 1)), (by kernel_rfl), H, (by omega), St⟩
          · skip
            have h27p := of_decide_eq_true h27
            refine x_val (.bool true) (by kernel_rfl) rfl (by kernel_rfl) ?_
            refine x_val (.bool true) (by kernel_rfl) rfl (by kernel_rfl) ?_
            refine x_val (.bool true) (by kernel_rfl) rfl (by kernel_rfl) ?_
            refine x_val (.pointer (some ⟨p, 0, none⟩)) (by kernel_rfl) rfl (by kernel_rfl) ?_
            refine x_val (.pointer (some ⟨g10, 1, none⟩)) (by kernel_rfl) rfl (by kernel_rfl) ?_
            refine x_load1 H 0 g10 1 #[.int .i64 ((O.getD k (0, 0, 0)).1), .int .i64 ((O.getD k (0, 0, 0)).2.1), .int .i64 ((O.getD k (0, 0, 0)).2.2)] 103 (.int .i64 ((O.getD k (0, 0, 0)).2.1)) (by kernel_rfl) (by kernel_rfl) (by kernel_rfl) rfl (by kernel_rfl) ?_
            refine x_callB (.bool (usedB sn pu D ((O.getD k (0, 0, 0)).2.1))) H (by kernel_rfl) rfl (by kernel_rfl) (Used_at hL St ((O.getD k (0, 0, 0)).2.1) _ (H.roOf [1, 2, 3, 4] [.blk p #[.int .i64 r, .int .i64 s, .int .i64 b, .int .i64 o, .int .i64 c, .int .i64 y, .int .i64 z, .slice (some ⟨gl, 0, none⟩) sn cl, .slice (some ⟨gd, 0, none⟩) pg cd, .slice (some ⟨gs, 0, none⟩) ns cs, .int .i64 ((pu : Nat) : Int), .int .i64 ((0 : Nat) : Int)] 181, .row (.slice (some ⟨gl, 0, none⟩) sn cl) 3 1 sn (List.map (Value.int .i64) L), .row (.slice (some ⟨gd, 0, none⟩) pg cd) 4 1 pg (List.map Value.bool D), .row (.slice (some ⟨gs, 0, none⟩) ns cs) 3 1 ns (List.map (Value.int .i64) (List.replicate ns (-1)))] (by kernel_rfl))) ?_
            clear H
            intro v41 H
            refine x_val (.bool (usedB sn pu D ((O.getD k (0, 0, 0)).2.1))) (by kernel_rfl) rfl (by kernel_rfl) ?_
            refine x_nil ?_
            refine x_then ?_
            cases h28 : usedB sn pu D ((O.getD k (0, 0, 0)).2.1)
            · skip
              refine x_f (by kernel_rfl) ?_
              refine x_skipc ?_
              refine x_blk ?_
              refine x_then ?_
              refine x_region ?_
              refine x_ar (((k : Nat) : Int) + 1) ⟨by omega, by omega⟩ (by kernel_rfl) rfl (by kernel_rfl) ?_
              refine x_val (.int .i64 (((k : Nat) : Int) + 1)) (by kernel_rfl) rfl (by kernel_rfl) ?_
              refine x_nil ?_
              refine x_then ?_
              replace H := H.pick [1, 2, 3, 4, 5] [.blk p #[.int .i64 r, .int .i64 s, .int .i64 b, .int .i64 o, .int .i64 c, .int .i64 y, .int .i64 z, .slice (some ⟨gl, 0, none⟩) sn cl, .slice (some ⟨gd, 0, none⟩) pg cd, .slice (some ⟨gs, 0, none⟩) ns cs, .int .i64 ((pu : Nat) : Int), .int .i64 ((0 : Nat) : Int)] 181, .row (.slice (some ⟨gl, 0, none⟩) sn cl) 3 1 sn (List.map (Value.int .i64) L), .row (.slice (some ⟨gd, 0, none⟩) pg cd) 4 1 pg (List.map Value.bool D), .row (.slice (some ⟨gs, 0, none⟩) ns cs) 3 1 ns (List.map (Value.int .i64) (List.replicate ns (-1))), .blk g1 #[.int .i64 r, .int .i64 s, .int .i64 b, .int .i64 o, .int .i64 c, .int .i64 y, .int .i64 z] 69] (by decide) (by kernel_rfl)
              exact ⟨(k + 1, L, D, pu), (by dsimp only; omega), (.pointer (some ⟨g10, 0, none⟩)), (.int .i64 (((sn : Nat) : Int) + ((pu : Nat) : Int))), (.bool true), (.bool true), (.pointer (some ⟨ga, oa + k * 3, none⟩)), (.agg #[.int .i64 ((O.getD k (0, 0, 0)).1), .int .i64 ((O.getD k (0, 0, 0)).2.1), .int .i64 ((O.getD k (0, 0, 0)).2.2)]), (.tuple #[.int .i64 (((sn : Nat) : Int) + ((pu : Nat) : Int)), .bool true]), (.pointer (some ⟨p, 0, none⟩)), (.tuple #[.int .i64 (((sn : Nat) : Int) + ((pu : Nat) : Int)), .bool true]), (.int .i64 (((sn : Nat) : Int) + ((pu : Nat) : Int))), (.bool true), (.pointer (some ⟨g10, 0, none⟩)), (.int .i64 ((O.getD k (0, 0, 0)).1)), (.bool true), (.bool true), (.bool true), (.bool true), (.bool true), (.pointer (some ⟨p, 0, none⟩)), (.pointer (some ⟨g10, 1, none⟩)), (.int .i64 ((O.getD k (0, 0, 0)).2.1)), (.bool false), (.bool false), u75, u76, u77, u78, u79, u80, u81, (.int .i64 (((k : Nat) : Int) + 1)), (by kernel_rfl), H, (by omega), St⟩
            · skip
              refine x_t (by kernel_rfl) ?_
              refine x_seq ?_
              refine x_region ?_
              refine x_val (.pointer (some ⟨p, 0, none⟩)) (by kernel_rfl) rfl (by kernel_rfl) ?_
              refine x_callH (.tuple #[.int .i64 (((sn : Nat) : Int) + ((pu : Nat) : Int)), .int .i64 0]) [.blk p #[.int .i64 r, .int .i64 s, .int .i64 b, .int .i64 o, .int .i64 c, .int .i64 y, .int .i64 z, .slice (some ⟨gl, 0, none⟩) sn cl, .slice (some ⟨gd, 0, none⟩) pg cd, .slice (some ⟨gs, 0, none⟩) ns cs, .int .i64 (((pu + 1) : Nat) : Int), .int .i64 ((0 : Nat) : Int)] 181, .row (.slice (some ⟨gl, 0, none⟩) sn cl) 3 1 sn (List.map (Value.int .i64) L), .row (.slice (some ⟨gd, 0, none⟩) pg cd) 4 1 pg (List.map Value.bool D), .row (.slice (some ⟨gs, 0, none⟩) ns cs) 3 1 ns (List.map (Value.int .i64) (List.replicate ns (-1))), .blk g10 #[.int .i64 ((O.getD k (0, 0, 0)).1), .int .i64 ((O.getD k (0, 0, 0)).2.1), .int .i64 ((O.getD k (0, 0, 0)).2.2)] 103, .blk g1 #[.int .i64 r, .int .i64 s, .int .i64 b, .int .i64 o, .int .i64 c, .int .i64 y, .int .i64 z] 69] (by kernel_rfl) rfl (by kernel_rfl) (Hs.use (A := [.blk p #[.int .i64 r, .int .i64 s, .int .i64 b, .int .i64 o, .int .i64 c, .int .i64 y, .int .i64 z, .slice (some ⟨gl, 0, none⟩) sn cl, .slice (some ⟨gd, 0, none⟩) pg cd, .slice (some ⟨gs, 0, none⟩) ns cs, .int .i64 ((pu : Nat) : Int), .int .i64 ((0 : Nat) : Int)] 181, .row (.slice (some ⟨gl, 0, none⟩) sn cl) 3 1 sn (List.map (Value.int .i64) L), .row (.slice (some ⟨gd, 0, none⟩) pg cd) 4 1 pg (List.map Value.bool D), .row (.slice (some ⟨gs, 0, none⟩) ns cs) 3 1 ns (List.map (Value.int .i64) (List.replicate ns (-1)))]) (R := [.blk g10 #[.int .i64 ((O.getD k (0, 0, 0)).1), .int .i64 ((O.getD k (0, 0, 0)).2.1), .int .i64 ((O.getD k (0, 0, 0)).2.2)] 103, .blk g1 #[.int .i64 r, .int .i64 s, .int .i64 b, .int .i64 o, .int .i64 c, .int .i64 y, .int .i64 z] 69]) (H.pick [1, 2, 3, 4, 0, 5] _ (by decide) (by kernel_rfl)) (fun h => TakePage_yes hL (St.mok (s := s) s0 ns) (by omega) _ h)) ?_
              clear H
              intro v42 H
              refine x_nil ?_
              refine x_then ?_
              refine x_region ?_
              refine x_val (.pointer (some ⟨p, 0, none⟩)) (by kernel_rfl) rfl (by kernel_rfl) ?_
              refine x_val (.pointer (some ⟨g10, 1, none⟩)) (by kernel_rfl) rfl (by kernel_rfl) ?_
              refine x_load1 H 4 g10 1 #[.int .i64 ((O.getD k (0, 0, 0)).1), .int .i64 ((O.getD k (0, 0, 0)).2.1), .int .i64 ((O.getD k (0, 0, 0)).2.2)] 103 (.int .i64 ((O.getD k (0, 0, 0)).2.1)) (by kernel_rfl) (by kernel_rfl) (by kernel_rfl) rfl (by kernel_rfl) ?_
              refine x_val (.int .i64 (((sn : Nat) : Int) + ((pu : Nat) : Int))) (by kernel_rfl) rfl (by kernel_rfl) ?_
              obtain ⟨hn, eh, hh, dh⟩ := usedB_parts h28
              have St' := St.next hh (by have := St.hp; omega)
              refine x_callH (.int .i64 0) [.blk p #[.int .i64 r, .int .i64 s, .int .i64 b, .int .i64 o, .int .i64 c, .int .i64 y, .int .i64 z, .slice (some ⟨gl, 0, none⟩) sn cl, .slice (some ⟨gd, 0, none⟩) pg cd, .slice (some ⟨gs, 0, none⟩) ns cs, .int .i64 (((pu + 1) : Nat) : Int), .int .i64 ((0 : Nat) : Int)] 181, .row (.slice (some ⟨gl, 0, none⟩) sn cl) 3 1 sn (List.map (Value.int .i64) (retL ((hn : Nat) : Int) ((sn : Int) + pu) L)), .row (.slice (some ⟨gd, 0, none⟩) pg cd) 4 1 pg (List.map Value.bool (D.set hn true)), .row (.slice (some ⟨gs, 0, none⟩) ns cs) 3 1 ns (List.map (Value.int .i64) (List.replicate ns (-1))), .blk g10 #[.int .i64 ((O.getD k (0, 0, 0)).1), .int .i64 ((O.getD k (0, 0, 0)).2.1), .int .i64 ((O.getD k (0, 0, 0)).2.2)] 103, .blk g1 #[.int .i64 r, .int .i64 s, .int .i64 b, .int .i64 o, .int .i64 c, .int .i64 y, .int .i64 z] 69] (by kernel_rfl) rfl (by kernel_rfl) (Hs.use (A := [.blk p #[.int .i64 r, .int .i64 s, .int .i64 b, .int .i64 o, .int .i64 c, .int .i64 y, .int .i64 z, .slice (some ⟨gl, 0, none⟩) sn cl, .slice (some ⟨gd, 0, none⟩) pg cd, .slice (some ⟨gs, 0, none⟩) ns cs, .int .i64 (((pu + 1) : Nat) : Int), .int .i64 ((0 : Nat) : Int)] 181, .row (.slice (some ⟨gl, 0, none⟩) sn cl) 3 1 sn (List.map (Value.int .i64) L), .row (.slice (some ⟨gd, 0, none⟩) pg cd) 4 1 pg (List.map Value.bool D), .row (.slice (some ⟨gs, 0, none⟩) ns cs) 3 1 ns (List.map (Value.int .i64) (List.replicate ns (-1)))]) (R := [.blk g10 #[.int .i64 ((O.getD k (0, 0, 0)).1), .int .i64 ((O.getD k (0, 0, 0)).2.1), .int .i64 ((O.getD k (0, 0, 0)).2.2)] 103, .blk g1 #[.int .i64 r, .int .i64 s, .int .i64 b, .int .i64 o, .int .i64 c, .int .i64 y, .int .i64 z] 69]) (H.pick [0, 1, 2, 3, 4, 5] _ (by decide) (by kernel_rfl)) (fun h => Retire_at hL St _ hn eh hh (by have := St.hp; omega) dh _ h)) ?_
              clear H
              intro v43 H
              refine x_nil ?_
              refine x_frame' { tmps := #[.agg #[.int .i64 r, .int .i64 s, .int .i64 b, .int .i64 o, .int .i64 c, .int .i64 y, .int .i64 z], .slice ad nA cA, .int .i64 home, .int .i64 rank, .pointer (some ⟨g1, 0, none⟩), undef, undef, undef, .bool false, .pointer (some ⟨p, 0, none⟩), .int .i64 0, undef, .pointer (some ⟨g10, 0, none⟩), .int .i64 (((sn : Nat) : Int) + ((pu : Nat) : Int)), .bool true, undef, undef, undef, undef, undef, undef, undef, undef, undef, undef, undef, undef, undef, undef, .bool true, .bool false, .agg #[.int .i64 r, .int .i64 s, .int .i64 b, .int .i64 o, .int .i64 c, .int .i64 y, .int .i64 z], .bool true, .bool false, .bool false, .slice ad nA cA, .int .i64 ((nA : Nat) : Int), .bool false, .bool false, .tuple #[.pointer (some ⟨p, 0, none⟩), .int .i64 0], .agg #[.int .i64 r, .int .i64 s, .int .i64 b, .int .i64 o, .int .i64 c, .int .i64 y, .int .i64 z], .tuple #[.pointer (some ⟨p, 0, none⟩), .int .i64 0], .pointer (some ⟨p, 0, none⟩), .int .i64 0, .int .i64 0, .bool false, .bool false, .pointer (some ⟨p, 0, none⟩), .bool false, .bool false, undef, undef, .slice ad nA cA, .int .i64 ((nA : Nat) : Int), .int .i64 ((k : Nat) : Int), .bool true, .pointer (some ⟨ga, oa + k * 3, none⟩), .agg #[.int .i64 ((O.getD k (0, 0, 0)).1), .int .i64 ((O.getD k (0, 0, 0)).2.1), .int .i64 ((O.getD k (0, 0, 0)).2.2)], .tuple #[.int .i64 (((sn : Nat) : Int) + ((pu : Nat) : Int)), .bool true], .pointer (some ⟨p, 0, none⟩), .tuple #[.int .i64 (((sn : Nat) : Int) + ((pu : Nat) : Int)), .bool true], .int .i64 (((sn : Nat) : Int) + ((pu : Nat) : Int)), .bool true, .pointer (some ⟨g10, 0, none⟩), .int .i64 ((O.getD k (0, 0, 0)).1), .bool true, .bool true, .bool true, .bool true, .bool true, .pointer (some ⟨p, 0, none⟩), .pointer (some ⟨g10, 1, none⟩), .int .i64 ((O.getD k (0, 0, 0)).2.1), .bool true, .bool true, .pointer (some ⟨p, 0, none⟩), .tuple #[.int .i64 (((sn : Nat) : Int) + ((pu : Nat) : Int)), .int .i64 0], .pointer (some ⟨p, 0, none⟩), .pointer (some ⟨g10, 1, none⟩), .int .i64 ((O.getD k (0, 0, 0)).2.1), .int .i64 (((sn : Nat) : Int) + ((pu : Nat) : Int)), .int .i64 0, u82, undef, undef, undef, undef, undef, undef, undef, undef, undef, undef, undef, undef, undef, undef, undef, undef, undef, undef, undef, undef, undef, undef, undef, undef, undef, undef, undef, undef, undef, undef, undef, undef, undef, undef, undef, undef, undef, undef, undef, undef, undef, undef, undef, undef, undef, undef, undef, undef, undef, undef, undef, undef, undef, undef, undef, undef, undef, undef, undef, undef, undef, undef, undef, undef, undef, undef, undef, undef, undef, undef, undef, undef, undef, undef, undef, undef, undef, undef, undef, undef, undef, undef, undef, undef, undef, undef, undef, undef, undef, undef, undef, undef, undef, undef, undef, undef, undef, undef, undef, undef, undef, undef, undef, undef, undef, undef, undef, undef, undef, undef, undef, undef, undef, undef, undef, undef], defers := [] } (by kernel_rfl) ?_
              refine x_blk ?_
              refine x_then ?_
              refine x_region ?_
              refine x_ar (((k : Nat) : Int) + 1) ⟨by omega, by omega⟩ (by kernel_rfl) rfl (by kernel_rfl) ?_
              refine x_val (.int .i64 (((k : Nat) : Int) + 1)) (by kernel_rfl) rfl (by kernel_rfl) ?_
              refine x_nil ?_
              refine x_then ?_
              replace H := H.pick [0, 1, 2, 3, 5] [.blk p #[.int .i64 r, .int .i64 s, .int .i64 b, .int .i64 o, .int .i64 c, .int .i64 y, .int .i64 z, .slice (some ⟨gl, 0, none⟩) sn cl, .slice (some ⟨gd, 0, none⟩) pg cd, .slice (some ⟨gs, 0, none⟩) ns cs, .int .i64 (((pu + 1) : Nat) : Int), .int .i64 ((0 : Nat) : Int)] 181, .row (.slice (some ⟨gl, 0, none⟩) sn cl) 3 1 sn (List.map (Value.int .i64) (retL ((hn : Nat) : Int) ((sn : Int) + pu) L)), .row (.slice (some ⟨gd, 0, none⟩) pg cd) 4 1 pg (List.map Value.bool (D.set hn true)), .row (.slice (some ⟨gs, 0, none⟩) ns cs) 3 1 ns (List.map (Value.int .i64) (List.replicate ns (-1))), .blk g1 #[.int .i64 r, .int .i64 s, .int .i64 b, .int .i64 o, .int .i64 c, .int .i64 y, .int .i64 z] 69] (by decide) (by kernel_rfl)
              exact ⟨(k + 1, (retL ((hn : Nat) : Int) ((sn : Int) + pu) L), (D.set hn true), (pu + 1)), (by dsimp only; omega), (.pointer (some ⟨g10, 0, none⟩)), (.int .i64 (((sn : Nat) : Int) + ((pu : Nat) : Int))), (.bool true), (.bool true), (.pointer (some ⟨ga, oa + k * 3, none⟩)), (.agg #[.int .i64 ((O.getD k (0, 0, 0)).1), .int .i64 ((O.getD k (0, 0, 0)).2.1), .int .i64 ((O.getD k (0, 0, 0)).2.2)]), (.tuple #[.int .i64 (((sn : Nat) : Int) + ((pu : Nat) : Int)), .bool true]), (.pointer (some ⟨p, 0, none⟩)), (.tuple #[.int .i64 (((sn : Nat) : Int) + ((pu : Nat) : Int)), .bool true]), (.int .i64 (((sn : Nat) : Int) + ((pu : Nat) : Int))), (.bool true), (.pointer (some ⟨g10, 0, none⟩)), (.int .i64 ((O.getD k (0, 0, 0)).1)), (.bool true), (.bool true), (.bool true), (.bool true), (.bool true), (.pointer (some ⟨p, 0, none⟩)), (.pointer (some ⟨g10, 1, none⟩)), (.int .i64 ((O.getD k (0, 0, 0)).2.1)), (.bool true), (.bool true), (.pointer (some ⟨p, 0, none⟩)), (.tuple #[.int .i64 (((sn : Nat) : Int) + ((pu : Nat) : Int)), .int .i64 0]), (.pointer (some ⟨p, 0, none⟩)), (.pointer (some ⟨g10, 1, none⟩)), (.int .i64 ((O.getD k (0, 0, 0)).2.1)), (.int .i64 (((sn : Nat) : Int) + ((pu : Nat) : Int))), (.int .i64 0), (.int .i64 (((k : Nat) : Int) + 1)), (by kernel_rfl), H, (by omega), St'⟩
        · skip
          have h26p := of_decide_eq_true h26
          refine x_callB (.tuple #[.int .i64 0, .bool false]) H (by kernel_rfl) rfl (by kernel_rfl) (FreePage_no hL (St.mok (s := s) s0 ns) (by omega) _ (H.roOf [1, 2, 3, 4] [.blk p #[.int .i64 r, .int .i64 s, .int .i64 b, .int .i64 o, .int .i64 c, .int .i64 y, .int .i64 z, .slice (some ⟨gl, 0, none⟩) sn cl, .slice (some ⟨gd, 0, none⟩) pg cd, .slice (some ⟨gs, 0, none⟩) ns cs, .int .i64 ((pu : Nat) : Int), .int .i64 ((0 : Nat) : Int)] 181, .row (.slice (some ⟨gl, 0, none⟩) sn cl) 3 1 sn (List.map (Value.int .i64) L), .row (.slice (some ⟨gd, 0, none⟩) pg cd) 4 1 pg (List.map Value.bool D), .row (.slice (some ⟨gs, 0, none⟩) ns cs) 3 1 ns (List.map (Value.int .i64) (List.replicate ns (-1)))] (by kernel_rfl))) ?_
          clear H
          intro v44 H
          refine x_val (.tuple #[.int .i64 0, .bool false]) (by kernel_rfl) rfl (by kernel_rfl) ?_
          refine x_val (.int .i64 0) (by kernel_rfl) rfl (by kernel_rfl) ?_
          refine x_val (.bool false) (by kernel_rfl) rfl (by kernel_rfl) ?_
          refine x_val (.int .i64 0) (by kernel_rfl) rfl (by kernel_rfl) ?_
          refine x_val (.bool false) (by kernel_rfl) rfl (by kernel_rfl) ?_
          refine x_nil ?_
          refine x_then ?_
          refine x_seq ?_
          refine x_region ?_
          refine x_val (.pointer (some ⟨g10, 0, none⟩)) (by kernel_rfl) rfl (by kernel_rfl) ?_
          refine x_load1 H 0 g10 0 #[.int .i64 ((O.getD k (0, 0, 0)).1), .int .i64 ((O.getD k (0, 0, 0)).2.1), .int .i64 ((O.getD k (0, 0, 0)).2.2)] 103 (.int .i64 ((O.getD k (0, 0, 0)).1)) (by kernel_rfl) (by kernel_rfl) (by kernel_rfl) rfl (by kernel_rfl) ?_
          refine x_val (.bool (decide (((O.getD k (0, 0, 0)).1) = 3))) (by kernel_rfl) rfl (by kernel_rfl) ?_
          refine x_val (.bool (decide (((O.getD k (0, 0, 0)).1) = 3))) (by kernel_rfl) rfl (by kernel_rfl) ?_
          cases h29 : decide (((O.getD k (0, 0, 0)).1) = 3)
          · skip
            have h29p := of_decide_eq_false h29
            refine x_skip (by kernel_rfl) ?_
            refine x_val (.bool false) (by kernel_rfl) rfl (by kernel_rfl) ?_
            refine x_val (.bool false) (by kernel_rfl) rfl (by kernel_rfl) ?_
            refine x_skip (by kernel_rfl) ?_
            refine x_skip (by kernel_rfl) ?_
            refine x_skip (by kernel_rfl) ?_
            refine x_skip (by kernel_rfl) ?_
            refine x_val (.bool false) (by kernel_rfl) rfl (by kernel_rfl) ?_
            refine x_nil ?_
            refine x_then ?_
            refine x_f (by kernel_rfl) ?_
            refine x_skipc ?_
            refine x_blk ?_
            refine x_then ?_
            refine x_region ?_
            refine x_ar (((k : Nat) : Int) + 1) ⟨by omega, by omega⟩ (by kernel_rfl) rfl (by kernel_rfl) ?_
            refine x_val (.int .i64 (((k : Nat) : Int) + 1)) (by kernel_rfl) rfl (by kernel_rfl) ?_
            refine x_nil ?_
            refine x_then ?_
            replace H := H.pick [1, 2, 3, 4, 5] [.blk p #[.int .i64 r, .int .i64 s, .int .i64 b, .int .i64 o, .int .i64 c, .int .i64 y, .int .i64 z, .slice (some ⟨gl, 0, none⟩) sn cl, .slice (some ⟨gd, 0, none⟩) pg cd, .slice (some ⟨gs, 0, none⟩) ns cs, .int .i64 ((pu : Nat) : Int), .int .i64 ((0 : Nat) : Int)] 181, .row (.slice (some ⟨gl, 0, none⟩) sn cl) 3 1 sn (List.map (Value.int .i64) L), .row (.slice (some ⟨gd, 0, none⟩) pg cd) 4 1 pg (List.map Value.bool D), .row (.slice (some ⟨gs, 0, none⟩) ns cs) 3 1 ns (List.map (Value.int .i64) (List.replicate ns (-1))), .blk g1 #[.int .i64 r, .int .i64 s, .int .i64 b, .int .i64 o, .int .i64 c, .int .i64 y, .int .i64 z] 69] (by decide) (by kernel_rfl)
            exact ⟨(k + 1, L, D, pu), (by dsimp only; omega), (.pointer (some ⟨g10, 0, none⟩)), (.int .i64 0), (.bool false), (.bool true), (.pointer (some ⟨ga, oa + k * 3, none⟩)), (.agg #[.int .i64 ((O.getD k (0, 0, 0)).1), .int .i64 ((O.getD k (0, 0, 0)).2.1), .int .i64 ((O.getD k (0, 0, 0)).2.2)]), (.tuple #[.int .i64 0, .bool false]), (.pointer (some ⟨p, 0, none⟩)), (.tuple #[.int .i64 0, .bool false]), (.int .i64 0), (.bool false), (.pointer (some ⟨g10, 0, none⟩)), (.int .i64 ((O.getD k (0, 0, 0)).1)), (.bool false), (.bool false), undef, (.bool false), (.bool false), undef, undef, undef, undef, (.bool false), u75, u76, u77, u78, u79, u80, u81, (.int .i64 (((k : Nat) : Int) + 1)), (by kernel_rfl), H, (by omega), St⟩
          · skip
            have h29p := of_decide_eq_true h29
            refine x_val (.bool false) (by kernel_rfl) rfl (by kernel_rfl) ?_
            refine x_val (.bool false) (by kernel_rfl) rfl (by kernel_rfl) ?_
            refine x_val (.bool false) (by kernel_rfl) rfl (by kernel_rfl) ?_
            refine x_skip (by kernel_rfl) ?_
            refine x_skip (by kernel_rfl) ?_
            refine x_skip (by kernel_rfl) ?_
            refine x_skip (by kernel_rfl) ?_
            refine x_val (.bool false) (by kernel_rfl) rfl (by kernel_rfl) ?_
            refine x_nil ?_
            refine x_then ?_
            refine x_f (by kernel_rfl) ?_
            refine x_skipc ?_
            refine x_blk ?_
            refine x_then ?_
            refine x_region ?_
            refine x_ar (((k : Nat) : Int) + 1) ⟨by omega, by omega⟩ (by kernel_rfl) rfl (by kernel_rfl) ?_
            refine x_val (.int .i64 (((k : Nat) : Int) + 1)) (by kernel_rfl) rfl (by kernel_rfl) ?_
            refine x_nil ?_
            refine x_then ?_
            replace H := H.pick [1, 2, 3, 4, 5] [.blk p #[.int .i64 r, .int .i64 s, .int .i64 b, .int .i64 o, .int .i64 c, .int .i64 y, .int .i64 z, .slice (some ⟨gl, 0, none⟩) sn cl, .slice (some ⟨gd, 0, none⟩) pg cd, .slice (some ⟨gs, 0, none⟩) ns cs, .int .i64 ((pu : Nat) : Int), .int .i64 ((0 : Nat) : Int)] 181, .row (.slice (some ⟨gl, 0, none⟩) sn cl) 3 1 sn (List.map (Value.int .i64) L), .row (.slice (some ⟨gd, 0, none⟩) pg cd) 4 1 pg (List.map Value.bool D), .row (.slice (some ⟨gs, 0, none⟩) ns cs) 3 1 ns (List.map (Value.int .i64) (List.replicate ns (-1))), .blk g1 #[.int .i64 r, .int .i64 s, .int .i64 b, .int .i64 o, .int .i64 c, .int .i64 y, .int .i64 z] 69] (by decide) (by kernel_rfl)
            exact ⟨(k + 1, L, D, pu), (by dsimp only; omega), (.pointer (some ⟨g10, 0, none⟩)), (.int .i64 0), (.bool false), (.bool true), (.pointer (some ⟨ga, oa + k * 3, none⟩)), (.agg #[.int .i64 ((O.getD k (0, 0, 0)).1), .int .i64 ((O.getD k (0, 0, 0)).2.1), .int .i64 ((O.getD k (0, 0, 0)).2.2)]), (.tuple #[.int .i64 0, .bool false]), (.pointer (some ⟨p, 0, none⟩)), (.tuple #[.int .i64 0, .bool false]), (.int .i64 0), (.bool false), (.pointer (some ⟨g10, 0, none⟩)), (.int .i64 ((O.getD k (0, 0, 0)).1)), (.bool true), (.bool true), (.bool false), (.bool false), (.bool false), undef, undef, undef, undef, (.bool false), u75, u76, u77, u78, u79, u80, u81, (.int .i64 (((k : Nat) : Int) + 1)), (by kernel_rfl), H, (by omega), St⟩
    · skip
      have h2p := of_decide_eq_true h2
      refine x_t (by kernel_rfl) ?_
      refine x_seq ?_
      refine x_region ?_
      refine x_val (.bool true) (by kernel_rfl) rfl (by kernel_rfl) ?_
      refine x_nil ?_
      refine x_then ?_
      refine x_retc ?_
      refine x_then_ret ?_
      refine x_ret (.bool true) (by kernel_rfl) (by kernel_rfl) ?_
      exact ⟨rfl, H.below⟩

end Go.Proofs.Ytgpalgbdacoagaa
